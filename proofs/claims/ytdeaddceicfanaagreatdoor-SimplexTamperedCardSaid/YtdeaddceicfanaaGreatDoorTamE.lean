import Derived.Test.YtdeaddceicfanaaGreatDoorTamD
open Option renaming some→ξ,none→θ
open Bool renaming true→φ,false→χ
open Go renaming Value→ψ
set_option linter.defProp false
open Bool renaming false_ne_true→EL
open Classical renaming axiomOfChoice→FQ,byContradiction→CW,not_not→G2
open Go.Proofs.YtdeaddceicfanaaGreatDoor.ExtB renaming refl→Ed
open Go.Proofs.YtdeaddceicfanaaGreatDoor.GR renaming nil→ae0
open Go.Proofs.YtdeaddceicfanaaGreatDoor.Gro renaming shape→Jd
open Go.Proofs.YtdeaddceicfanaaGreatDoor.IW renaming zero→EN
open Go.Proofs.YtdeaddceicfanaaGreatDoor.J3 renaming refl→Fy,upd→E9
open Go.Proofs.YtdeaddceicfanaaGreatDoor.KI renaming kp→JX
open Go.Proofs.YtdeaddceicfanaaGreatDoor.Sz renaming zero→H8
open Go.Proofs.YtdeaddceicfanaaGreatDoor.Tr renaming refl→Eg,s→FG,trans→HR
open Go.Proofs.YtdeaddceicfanaaGreatDoor.bndZ renaming kp→F0
open Go.Proofs.YtdeaddceicfanaaGreatDoor.intP renaming kp→Fz
open Go.Proofs.YtdeaddceicfanaaGreatDoor.natP renaming kp→FK
open Go.Proofs.YtdeaddceicfanaaGreatDoor.ratP renaming kp→Ea
open Go.Value renaming bool→U,int→CC,pointer→CH,slice→Y,string→CG
open Int renaming add_zero→It,eq_of_mul_eq_mul_left→FE,mul_pos→Hf,mul_zero→GS,natAbs_mul→Dl,natAbs_natCast→CR,natAbs_sub_le→ac8,one_mul→JD,zero_add→an5,zero_mul→Gn
open List renaming ext_getElem?→Eh,getElem?_append_left→DW,getElem?_append_right→Dn,getElem?_eq_getElem→CD,getElem?_eq_none→Dc,getElem?_eq_some_iff→CK,getElem?_map→Dx,getElem?_range→GB,getElem?_replicate→GD,getElem?_set→G3,getElem?_take→Hz,getElem?_zipWith→Gd,getElem_mem→Ft,getElem_zipWith→JK,length→O,length_append→CJ,length_cons→DJ,length_eq_zero_iff→CT,length_map→CN,length_range→Ff,length_replicate→Dk,length_set→DH,length_zipWith→Ho,map_append→Eu,mem_append→DQ,mem_cons→De,mem_cons_of_mem→EV,mem_cons_self→D4,mem_iff_getElem→JJ,mem_iff_getElem?→EE,mem_map→DL,mem_of_getElem?→CE,mem_range→GI,mem_singleton→CV,nodup_nil→Ix,not_mem_nil→CO,range→DO,range_succ→ah4,replicate→CI,take_append_drop→DP,take_length→C3,take_of_length_le→CL,zipWith→D2,zipWith_nil_right→Jp
open Nat renaming add_comm→D6,add_mod_right→ac7,add_mul_div_right→G0,add_sub_cancel_left→ER,add_zero→DE,div_eq_of_lt→EP,dvd_mul_left→ad9,dvd_mul_right→ac9,gcd→CZ,lcm→IS,le_mul_of_pos_left→Ep,le_mul_of_pos_right→EF,le_of_dvd→H9,le_of_lt→DZ,le_refl→Ej,le_succ→C8,le_trans→CU,lt_of_le_of_lt→C7,lt_of_lt_of_le→CS,lt_or_ge→EB,lt_succ_self→Fv,mod_lt→Dz,mod_mod→ap7,mul_add→DS,mul_assoc→Di,mul_comm→CY,mul_le_mul→C6,mul_le_mul_left→C4,mul_le_mul_right→CM,mul_lt_mul''→GH,mul_one→DD,mul_pos→Et,mul_zero→Eo,not_lt_zero→DM,one_dvd→af8,one_lt_two_pow→IA,one_mul→EM,one_pos→IT,pow_add→DV,pow_le_pow_right→CQ,pow_pos→Ds,pow_succ→C5,sub_self→DY,two_pow_pos→GY,zero_add→C9,zero_le→HA
open Option renaming map_eq_some_iff→En
open Option.some renaming inj→Eb
open Rat renaming add_zero→FY,divInt→Dw,divInt_eq_div→Ev,div_mul_cancel→Fi,intCast_eq_zero_iff→El,intCast_lt_intCast→GT,intCast_mul→Du,intCast_natCast→Dj,intCast_neg→Il,intCast_pos→FR,intCast_sub→ah2,le_of_lt→D9,le_refl→FN,lt_irrefl→Gu,mul_add→af9,mul_comm→FZ,mul_eq_zero→ah3,mul_le_mul_of_nonneg_right→H1,mul_nonneg→ID,mul_one→FB,mul_pos→Gp,mul_zero→FJ,natCast_eq_zero_iff→HG,neg_num→He,not_le→EZ,not_lt→Hc,num_eq_zero→Fk,num_nonneg→FO,one_mul→ag0,zero_mul→Fe
set_option maxHeartbeats 8000000
set_option linter.unusedVariables false
set_option linter.unusedSimpArgs false
noncomputable section
namespace Go.Proofs.YtdeaddceicfanaaGreatDoor
variable{k M V P N obj DB B l E:Nat}{g δ ρ q:Rat}{y x σ:Nat->Rat}{α:Type}{cl ch rl rh:Nat->Option Rat}{T:Nat->Nat->Int}{d:Int}
section
variable{a i r:Nat}
def sm(n:Nat)(f:Nat->Int):Int:=match n with|0=>0|n+1=>sm n f+f n
theorem tf{f g}:∀{n:Nat},(∀j,j<n->f j=g j)->sm n f=sm n g:=by
 intro n;induction n with
 |zero=>intro _;rfl
 |succ n ih=>intro h;show sm n f+f n=sm n g+g n;rw[ih λj b=>h j Z,h n Z]
theorem zma{f:Nat->Int}{n}(h:∀j,j<n->f j=0):sm n f=0:=by induction n<;>grind [sm]
theorem Tj(n)(f g):sm n (λj=>f j+g j)=sm n f+sm n g:=by induction n<;>grind [sm]
theorem oj(n)(c)(f):sm n (λj=>c*f j)=c*sm n f:=by induction n<;>grind [sm]
theorem jF{f:Nat->Int}{n k}(b:k<n)(h:∀j,j<n->j≠k->f j=0):sm n f=f k:=by induction n<;>grind [sm,zma]
theorem zo7{f:Nat->Int}{n p}(b:p+1<n)(h:∀j,j<n->j≠p->j≠p+1->f j=0):sm n f=f p+f (p+1):=by induction n<;>grind [sm,jF]
theorem cD{f:Nat->Int}{n}(h:∀j,j<n->(f j).natAbs<=B):(sm n f).natAbs<=n*B:=by induction n<;>grind [sm]
def LP(r:Nat):Int:=if r%2=0 then 1 else -1
theorem zhp(r):LP (r+1)= -LP r:=by unfold LP;split<;>split<;>omega
def sk(r i:Nat):Nat:=if i<r then i else i+1
def Kf:Nat->(Nat->Nat->Int)->Int
 |0,_=>1
 |n+1,A=>sm (n+1) λr=>LP r*A r 0*Kf n λi j=>A (sk r i) (j+1)
def rw'(A:Nat->Nat->Int)(k:Nat)(u:Nat->Int):Nat->Nat->Int:=λi j=>if i=k then u j else A i j
theorem Nj:∀{n:Nat} {A B:Nat->Nat->Int},(∀i j,i<n->j<n->A i j=B i j)->Kf n A=Kf n B:=by
 intro n;induction n with
 |zero=>intro A B _;rfl
 |succ n ih=>
  intro A B h;refine tf λr b=>?_;grind [sk]
theorem Tk:sk r i≠r:=by unfold sk;split<;>omega
def ks(r k:Nat):Nat:=if k<r then k else k-1
theorem P0{k}(h:r≠k):sk r i=k↔i=ks r k:=by unfold sk ks;split<;>split<;>omega
theorem nj:∀{n:Nat} (A:Nat->Nat->Int) (k:Nat) (a b:Int) (u w:Nat->Int),k<n->Kf n (rw' A k λj=>a*u j+b*w j)=a*Kf n (rw' A k u)+b*Kf n (rw' A k w):=by
 intro n;induction n with
 |zero=>intro A k a b u w h;omega
 |succ n ih=>
  intro A k a b u w d;show sm (n+1) _=a*sm (n+1) _+b*sm (n+1) _;rw[<-oj,<-oj,<-Tj];refine tf λr g=>?_;by_cases h:r=k;grind [Kf,rw',sk,Nj,Tk];have e:∀v:Nat->Int,(λi j=>rw' A k v (sk r i) (j+1))=rw' (λi j=>A (sk r i) (j+1)) (ks r k) λj=>v (j+1):=λv=>(by grind [rw',sk,P0]);have c:∀v:Nat->Int,rw' A k v r 0=A r 0:=λv=>by unfold rw';rw[Cv h]
  rw[e,e,e,c,c,c,ih _ _ _ _ _ _ (by unfold ks;split<;>omega)];grind
theorem Tl:∀{n:Nat} {A:Nat->Nat->Int} {p:Nat},p+1<n->(∀j,A p j=A (p+1) j)->Kf n A=0:=by
 intro n;induction n with
 |zero=>intro A p h;omega
 |succ n ih=>
  intro A p b g;show sm (n+1) _=0;rw[zo7 b];grind [Kf,sk,Nj,zhp];intro r m c d;have e:Kf n (λi j=>A (sk r i) (j+1))=0:=(by obtain h|h:=EB r p;refine ih (p:=p-1) Z λj=>?_;grind [sk];refine ih (p:=p) Z λj=>?_;grind [sk]);rw[e,GS]
theorem fG(A)(k):rw' A k (A k)=A:=by grind [rw']
theorem fH(A){k}(h:k≠l)(u w):rw' (rw' A k u) l w=rw' (rw' A l w) k u:=by grind [rw']
theorem Tm{n}(A)(k)(u w)(b:k<n):Kf n (rw' A k λj=>u j+w j)=Kf n (rw' A k u)+Kf n (rw' A k w):=by have:=nj A k 1 1 u w b;grind
theorem zi0{n}{A}{p}(d:p+1<n):Kf n (rw' (rw' A p (A (p+1))) (p+1) (A p))= -Kf n A:=by have b:p≠p+1:=Z;have g:∀u w:Nat->Int,Kf n (rw' (rw' A p u) (p+1) w)+Kf n (rw' (rw' A p w) (p+1) u)=0:=λu w=>(by have c:∀v:Nat->Int,Kf n (rw' (rw' A p v) (p+1) v)=0:=λv=>Tl d λj=>(by grind [rw']);have e:∀v:Nat->Int,Kf n (rw' (rw' A p λj=>u j+w j) (p+1) v)=Kf n (rw' (rw' A p u) (p+1) v)+Kf n (rw' (rw' A p w) (p+1) v):=λv=>(by rw[fH A b,Tm (rw' A (p+1) v) p u w Z,<-fH A b u v,<-fH A b w v]);have m:=c λj=>u j+w j;rw[Tm _ _ _ _ d,e,e,c,c]at m;omega);have h:=g (A p) (A (p+1));rw[fG A p,fG A (p+1)]at h;omega
theorem Tn:∀{d n:Nat} {A:Nat->Nat->Int} {p:Nat},p+d+1<n->(∀j,A p j=A (p+d+1) j)->Kf n A=0:=by
 intro d;induction d with
 |zero=>intro n A p b c;exact Tl b c
 |succ d ih=>
  intro n A p b c;have h:=zi0 (A:=A) (p:=p+d+1) Z;have e:Kf n (rw' (rw' A (p+d+1) (A (p+d+1+1))) (p+d+1+1) (A (p+d+1)))=0:=(by refine ih (p:=p) Z λj=>?_;grind [rw']);omega
def zi1{n}{A:Nat->Nat->Int}{p q}(c:p<n)(e:q<n)(g:p≠q)(h:∀j,A p j=A q j):Kf n A=0:=by obtain b|b:=EB p q;obtain⟨d,rfl⟩:∃d,q=p+d+1:=⟨q-p-1,Z⟩;exact Tn e h;obtain⟨d,rfl⟩:∃d,p=q+d+1:=⟨p-q-1,Z⟩;exact Tn c λj=>(h j).symm
def znw{n}(A)(s)(b:s<n)(t:Nat->Int)(V:Nat->Nat->Int):∀m,Kf n (rw' A s λj=>sm m λk=>t k*V k j)=sm m λk=>t k*Kf n (rw' A s (V k)):=by
 intro m;induction m with
 |zero=>
  have:=nj A s 0 0 (V 0) (V 0) b;simp only[Gn,It]at this;exact this
 |succ m ih=>
  show Kf n (rw' A s λj=>sm m (λk=>t k*V k j)+t m*V m j)=_;have:=nj A s 1 (t m) (λj=>sm m λk=>t k*V k j) (V m) b;simp only[JD]at this;rw[this,ih];rfl
theorem P1{n}{A:Nat->Nat->Int}{s}(b:s<n){d}{f t:Nat->Int}(h:∀j,j<n->d*f j=sm n λk=>t k*A k j):d*Kf n (rw' A s f)=t s*Kf n A:=by have g:=nj A s d 0 f f b;simp only[Gn,It]at g;rw[<-g];have m:Kf n (rw' A s λj=>d*f j)=Kf n (rw' A s λj=>sm n λk=>t k*A k j):=Nj λi j hi u=>(by grind [rw']);rw[m,znw A s b,jF b λk o c=>?_,fG];rw[zi1 (p:=s) (q:=k) b o (λe=>c e.symm) λj=>by unfold rw';rw[Cw ω,Cv c],GS]
def KD:Nat->Nat
 |0=>1
 |n+1=>(n+1)*KD n
def Tp(r):(LP r).natAbs=1:=by unfold LP;split<;>rfl
theorem df:∀{n:Nat} {A:Nat->Nat->Int} {M:Nat},(∀i j,i<n->j<n->(A i j).natAbs<=M)->(Kf n A).natAbs<=KD n*M^n:=by
 intro n;induction n with
 |zero=>intro A M _;exact Ej _
 |succ n ih=>
  intro A M h;have c:(sm (n+1) λr=>LP r*A r 0*Kf n λi j=>A (sk r i) (j+1)).natAbs<=(n+1)*(M*(KD n*M^n)):=cD λr b=>(by rw[Dl,Dl,Tp,EM];exact C6 (h r 0 b Z) (ih λi j hi d=>h _ _ Bq Z));show(sm (n+1) _).natAbs<=(n+1)*KD n*M^(n+1);grind
theorem znx:∀n:Nat,Kf n (λi j=>if i=j then 1 else 0)=1:=by
 intro n;induction n with
 |zero=>rfl
 |succ n ih=>
  show sm (n+1) _=1;rw[jF (k:=0) Z λj c b=>by show LP j*(if j=0 then(1:Int)else 0)*_=0;rw[Cv b,GS,Gn]];grind [LP,Kf,sk,Nj]
def Kb(n:Nat)(f:Nat->Rat):Rat:=match n with|0=>0|n+1=>Kb n f+f n
theorem yg{f g}:∀{n:Nat},(∀j,j<n->f j=g j)->Kb n f=Kb n g:=by
 intro n;induction n with
 |zero=>intro _;rfl
 |succ n ih=>intro h;show Kb n f+f n=Kb n g+g n;rw[ih λj b=>h j Z,h n Z]
theorem Tq(n)(f g):Kb n (λj=>f j-g j)=Kb n f-Kb n g:=by induction n<;>grind [Kb]
theorem zwv(n)(f g):Kb n (λj=>f j+g j)=Kb n f+Kb n g:=by induction n<;>grind [Kb]
theorem wL(n)(c)(f):Kb n (λj=>c*f j)=c*Kb n f:=by induction n<;>grind [Kb]
theorem fA{f}:∀{n:Nat},0<Kb n f->∃j,j<n/\0<f j:=by
 intro n;induction n with
 |zero=>intro h;exact Cu h Gu
 |succ n ih=>
  grind [Kb]
theorem Ts{f:Nat->Rat}{n}(h:∀j,j<n->f j=0):Kb n f=0:=by induction n<;>grind [Kb]
theorem Qa{f:Nat->Rat}{n k}(b:k<n)(h:∀j,j<n->j≠k->f j=0):Kb n f=f k:=by induction n<;>grind [Kb,Ts]
theorem xY{t D:Rat}(h:0<t*D):0<t/\0<D\/t<0/\D<0:=by
 by_cases h1:0<t;refine .inl ⟨h1,EZ.1 λb=>?_⟩;have c:=ID (D9 h1) (show 0<= -D by grind);grind;by_cases b:t<0;refine .inr ⟨b,EZ.1 λc=>?_⟩;have d:=ID (show 0<= -t by grind) c;grind;have:t=0:=by grind
 rw[this]at h;grind
theorem yq{t D:Rat}(h:t*D<0):0<t/\D<0\/t<0/\0<D:=by have:=xY (t:=t) (D:= -D) aD;grind
section
variable (lo hi:Nat->Option Rat)
def inBd(v:Nat)(x:Rat):Prop:=(∀l,lo v=ξ l->l<=x)/\(∀u,hi v=ξ u->x<=u)
def cG(v:Nat)(x:Rat):Prop:=∀u,hi v=ξ u->x<u
def cS(v:Nat)(x:Rat):Prop:=∀l,lo v=ξ l->l<x
end
def mP{hi}{v}{x}(h:¬cG hi v x):∃u,hi v=ξ u/\u<=x:=by refine CW λc=>h λu d=>EZ.1 λb=>c ⟨u,d,b⟩
def mO{lo}{v}{x}(h:¬cS lo v x):∃l,lo v=ξ l/\x<=l:=by refine CW λd=>h λl c=>EZ.1 λb=>d ⟨l,c,b⟩
structure RD where
 x:Nat->Rat
 B:Nat->Prop
 nv:Nat->Nat
 t:Nat->Rat
 d:Rat
 e:Nat
 w:Nat
 low:Bool
def suit(lo hi:Nat->Option Rat)(D:RD)(c:Nat):Prop:=
 if D.low then 0<D.t c/\cG hi (D.nv c) (D.x (D.nv c))\/D.t c<0/\cS lo (D.nv c) (D.x (D.nv c))
 else D.t c<0/\cG hi (D.nv c) (D.x (D.nv c))\/0<D.t c/\cS lo (D.nv c) (D.x (D.nv c))
structure StepR (n V:Nat)(L:(Nat->Rat)->Prop)(lo hi:Nat->Option Rat)(D D':RD):Prop where
 e:D.e<n
 nb:∀c,c<n->¬D.B (D.nv c)/\D.nv c<V
 inj:∀c c',c<n->c'<n->D.nv c=D.nv c'->c=c'
 w:D.B D.w/\D.w<V
 B':∀v,D'.B v↔v=D.nv D.e\/D.B v/\v≠D.w
 x':∀v,v<V->¬D.B v->v≠D.nv D.e->D'.x v=D.x v
 bd:∀v,v<V->¬D.B v->inBd lo hi v (D.x v)
 viol:if D.low then ∃l,lo D.w=ξ l/\D.x D.w<l/\D'.x D.w=l else ∃u,hi D.w=ξ u/\u<D.x D.w/\D'.x D.w=u
 sm:∀v,v<D.w->D.B v->inBd lo hi v (D.x v)
 dp:0<D.d
 row:∀y,L y->D.d*y D.w=Kb n λc=>D.t c*y (D.nv c)
 xL:L D.x
 su:suit lo hi D D.e
 sms:∀c,c<n->D.nv c<D.nv D.e->¬suit lo hi D c
theorem Nat.max_of{p:Nat->Prop}{V}(b:∀v,p v->v<V)(h:∃v,p v):∃v,p v/\∀u,p u->u<=v:=by
 induction V with
 |zero=>have⟨v,c⟩:=h;have:=b v c;omega
 |succ V ih=>
  grind
theorem Tt{p:Nat->Prop}(d:p a):∀{b:Nat},a<=b->¬p b->∃c,a<=c/\c<b/\p c/\∀i,c<i->i<=b->¬p i:=by
 intro b;induction b with
 |zero=>intro h e;exact Cu (show p 0 by rwa [show a=0 by omega]at d) e
 |succ b ih=>
  grind
section
variable{n:Nat}{L:(Nat->Rat)->Prop}{lo hi:Nat->Option Rat}{f:Nat->RD}
theorem zp3(hk:0<k)(hL:∀x y,L x->L y->L λv=>x v-y v)(d:∀i,StepR n V L lo hi (f i) (f (i+1)))(hp:∀i,f (i+k)=f i):False:=by
 have hV:∀v,(∃i,(f i).nv (f i).e=v)->v<V:=λv⟨i,h⟩=>h▸((d i).nb _ (d i).e).2;have⟨r,⟨I,J⟩,S⟩:=Nat.max_of hV ⟨_,0,ω⟩;have G:(f (I+k)).nv (f (I+k)).e=r:=by rw[hp];exact J
 generalize hbb:I+k=b at G;have a6:(f (I+1)).B r:=((d I).B' r).2 (.inl J.symm);have Z0:¬(f b).B r:=G▸((d b).nb _ (d b).e).1;have⟨a,ac,a7,a8,R⟩:=Tt (p:=λi=>(f i).B r) a6 (b:=b) Z Z0;have T:(f a).w=r:=(by refine CW λh=>R (a+1) Z Z ?_;exact((d a).B' r).2 (.inr ⟨a8,λe=>h e.symm⟩));have hx:∀i,a<i->i<=b->(f i).x r=(f (a+1)).x r:=by
  intro i;induction i with
  |zero=>intro h;omega
  |succ i ih=>
   intro g o;by_cases e:i=a;rw[e];have a2:r≠(f i).nv (f i).e:=λe2=>R (i+1) Z o (((d i).B' r).2 (.inl e2));rw[(d i).x' r (hV r ⟨I,J⟩) (R i Z Z) a2];exact ih Z Z
 have W:=hx b a7 Cy;have a0:∀v,v<r->inBd lo hi v ((f a).x v):=λv hv=>(by by_cases h:(f a).B v;exact(d a).sm v (by rw[T];exact hv) h;exact(d a).bd v (by have:=hV r ⟨I,J⟩;omega) h);have a4:∀i,∃j,(f j).nv (f j).e=(f i).w:=λi=>by
  have g:¬(f (i+1)).B (f i).w:=λh=>(by rcases((d i).B' _).1 h with h|h;exact((d i).nb _ (d i).e).1 (h▸(d i).w.1);exact h.2 ω);refine CW λK=>?_;have o:∀j,¬(f (i+1+j)).B (f i).w:=λj=>by
   induction j with
   |zero=>exact g
   |succ j ih=>
    intro h;rcases((d (i+1+j)).B' _).1 h with h|h;exact K ⟨_,h.symm⟩;exact ih h.1
  refine o (k-1) ?_;rw[show i+1+(k-1)=i+k by omega,hp];exact(d i).w.1
 have aa:(f b).w<r:=(by have⟨j,hj⟩:=a4 b;have g:=S _ ⟨j,hj⟩;have o:(f b).w≠r:=λe=>Z0 (e▸(d b).w.1);omega);have Z3:∀c,c<n->(¬∃j,(f j).nv (f j).e=(f b).nv c)->(f a).x ((f b).nv c)=(f b).x ((f b).nv c):=λc A K=>by
  have g:∀j,¬(f (b+j)).B ((f b).nv c)/\(f (b+j)).x ((f b).nv c)=(f b).x ((f b).nv c):=λj=>by
   induction j with
   |zero=>exact⟨((d b).nb c A).1,ω⟩
   |succ j ih=>
    refine⟨λh=>?_,?_⟩;rcases((d (b+j)).B' _).1 h with h|h;exact K ⟨_,h.symm⟩;exact ih.1 h.1;rw[<-ih.2];exact(d (b+j)).x' _ ((d b).nb c A).2 ih.1 λe=>K ⟨_,e.symm⟩
  have o:=(g (a+k-b)).2;rw[show b+(a+k-b)=a+k by omega,hp]at o;exact o
 have a5:=(d b).row _ (hL _ _ (d a).xL (d b).xL);have Z4:=a0 _ aa;have C:=(d a).viol;have M:=(d b).viol;have q:=(d b).su;have a3:∀c,c<n->(f b).nv c≠r->∀s:Bool,s=(f b).low->(s=φ->0<(f b).t c*((f a).x ((f b).nv c)-(f b).x ((f b).nv c))->False)/\(s=χ->(f b).t c*((f a).x ((f b).nv c)-(f b).x ((f b).nv c))<0->False):=by
  intro c A a2 s ab;by_cases hf:∃j,(f j).nv (f j).e=(f b).nv c;have a1:(f b).nv c<r:=by have:=S _ hf;omega
  have g:=(d b).sms c A (by rw[G];exact a1);have o:=a0 _ a1;unfold suit at g;rw[<-ab]at g;constructor;intro e Z1;rw[Cw e]at g;obtain⟨m,F⟩|⟨m,F⟩:=xY Z1;have⟨u,hu,P⟩:=mP λh=>g (.inl ⟨m,h⟩);have:=o.2 u hu;grind;have⟨l,H,P⟩:=mO λh=>g (.inr ⟨m,h⟩);have:=o.1 l H;grind;intro e Z1;rw[Cv (by rw[e];exact EL)]at g;obtain⟨m,F⟩|⟨m,F⟩:=yq Z1;have⟨l,H,P⟩:=mO λh=>g (.inr ⟨m,h⟩);have:=o.1 l H;grind;have⟨u,hu,P⟩:=mP λh=>g (.inl ⟨m,h⟩);have:=o.2 u hu;grind;rw[Z3 c A hf];grind
 have a9:=(d b).dp;unfold suit at q;rw[G,W]at q;cases H:(f b).low with
 |true=>
  rw[H]at M q;obtain⟨l,g,o,_⟩:∃l,lo (f b).w=ξ l/\(f b).x (f b).w<l/\_:=M;have Z1:=Z4.1 l g;have⟨c,A,m⟩:=fA (show 0<Kb n λc=>(f b).t c*((f a).x ((f b).nv c)-(f b).x ((f b).nv c))by
   grind [Gp])
  by_cases hcr:(f b).nv c=r;obtain rfl:=(d b).inj c _ A (d b).e (hcr.trans G.symm);rw[G,W]at m;rw[Cw rfl]at q;rw[T]at C;cases hla:(f a).low<;>rw[hla]at C<;>have⟨l',F,P,h7⟩:=C<;>obtain⟨h8,h9⟩|⟨h8,h9⟩:=xY m<;>obtain⟨N,D⟩|⟨N,D⟩:=q<;>first|(have:=D l' F;grind)|grind
  exact(a3 c A hcr φ H.symm).1 ω m
 |false=>
  rw[H]at M q;obtain⟨u,g,o,_⟩:∃u,hi (f b).w=ξ u/\u<(f b).x (f b).w/\_:=M;have Z1:=Z4.2 u g;have⟨c,A,m⟩:=fA (show 0<Kb n λc=>(-1)*((f b).t c*((f a).x ((f b).nv c)-(f b).x ((f b).nv c)))by
   rw[wL,<-a5];have F:=Gp a9 (show 0<(f b).x (f b).w-(f a).x (f b).w by grind);grind)
  have m:(f b).t c*((f a).x ((f b).nv c)-(f b).x ((f b).nv c))<0:=by grind
  by_cases hcr:(f b).nv c=r;obtain rfl:=(d b).inj c _ A (d b).e (hcr.trans G.symm);rw[G,W]at m;rw[Cv EL]at q;rw[T]at C;cases hla:(f a).low<;>rw[hla]at C<;>have⟨l',F,P,h7⟩:=C<;>obtain⟨h8,h9⟩|⟨h8,h9⟩:=yq m<;>obtain⟨N,D⟩|⟨N,D⟩:=q<;>first|(have:=D l' F;grind)|grind
  exact(a3 c A hcr χ H.symm).2 ω m
end
structure OD where
 x:Nat->Rat
 B:Nat->Prop
 nv:Nat->Nat
 q:Nat->Rat
 d:Rat
 e:Nat
 w:Nat
 dv:Nat->Rat
def impr(lo hi:Nat->Option Rat)(D:OD)(c:Nat):Prop:=D.q c<0/\cG hi (D.nv c) (D.x (D.nv c))\/0<D.q c/\cS lo (D.nv c) (D.x (D.nv c))
structure StepO (n V obj:Nat)(L:(Nat->Rat)->Prop)(lo hi:Nat->Option Rat)(D D':OD):Prop where
 e:D.e<n
 nb:∀c,c<n->¬D.B (D.nv c)/\D.nv c<V
 cov:∀v,v<V->¬D.B v->∃c,c<n/\D.nv c=v
 inj:∀c c',c<n->c'<n->D.nv c=D.nv c'->c=c'
 w:D.B D.w/\D.w<V
 B':∀v,D'.B v↔v=D.nv D.e\/D.B v/\v≠D.w
 x':∀v,v<V->D'.x v=D.x v
 dp:0<D.d
 row:∀y,L y->D.d*y obj=Kb n λc=>D.q c*y (D.nv c)
 im:impr lo hi D D.e
 sm:∀c,c<n->D.nv c<D.nv D.e->¬impr lo hi D c
 dL:L D.dv
 de:D.q D.e*D.dv (D.nv D.e)<0
 d0:∀c,c<n->c≠D.e->D.dv (D.nv c)=0
 bl:(0<D.dv D.w->∃u,hi D.w=ξ u/\u<=D.x D.w)/\(D.dv D.w<0->∃l,lo D.w=ξ l/\D.x D.w<=l)
 mb:∀v,v<D.w->D.B v->(0<D.dv v->cG hi v (D.x v))/\(D.dv v<0->cS lo v (D.x v))
section
variable{n:Nat}{L:(Nat->Rat)->Prop}{lo hi:Nat->Option Rat}{f:Nat->OD}
theorem zp4(hk:0<k)(g:∀i,StepO n V obj L lo hi (f i) (f (i+1)))(hp:∀i,f (i+k)=f i):False:=by
 have hV:∀v,(∃i,(f i).nv (f i).e=v)->v<V:=λv⟨i,h⟩=>h▸((g i).nb _ (g i).e).2;have⟨r,⟨b,C⟩,Z3⟩:=Nat.max_of hV ⟨_,0,ω⟩;have S:∀i v,v<V->(f i).x v=(f 0).x v:=λi v hv=>by
  induction i with
  |zero=>rfl
  |succ i ih=>rw[(g i).x' v hv,ih]
 have a0:(f (b+1)).B r:=((g b).B' r).2 (.inl C.symm);have a1:¬(f (b+k)).B r:=by rw[hp];exact C▸((g b).nb _ (g b).e).1
 have⟨a,a8,a9,a2,a3⟩:=Tt (p:=λi=>(f i).B r) a0 (b:=b+k) Z a1;have M:(f a).w=r:=(by refine CW λh=>a3 (a+1) Z Z ?_;exact((g a).B' r).2 (.inr ⟨a2,λe=>h e.symm⟩));have R:r<V:=hV r ⟨b,C⟩;have h1:=(g a).row _ (g a).dL;rw[Qa (g a).e λj W a7=>by rw[(g a).d0 j W a7];grind]at h1;have h2:(f a).dv obj<0:=by
  have T:(f a).d*(f a).dv obj<0:=by rw[h1];exact(g a).de
  obtain h|h:=yq T;exact h.2;have:=(g a).dp;grind
 have T:=(g b).row _ (g a).dL;have h4:0<Kb n λc=>(-1)*((f b).q c*(f a).dv ((f b).nv c)):=(by rw[wL,<-T];have F:=Gp (g b).dp (show 0< -(f a).dv obj by grind);grind);have⟨c,Z4,F⟩:=fA h4;have F:(f b).q c*(f a).dv ((f b).nv c)<0:=by grind
 have⟨a6,a5⟩:=(g b).nb c Z4;have I:(f a).x ((f b).nv c)=(f b).x ((f b).nv c):=by grind
 have K:(f b).nv c=(f a).nv (f a).e\/(f a).B ((f b).nv c):=(by by_cases h:(f a).B ((f b).nv c);exact .inr h;have⟨Z0,a4,A⟩:=(g a).cov _ a5 h;by_cases o:Z0=(f a).e;exact .inl (by rw[<-A,o]);have:=(g a).d0 Z0 a4 o;simp_all);have N:∃j,(f j).nv (f j).e=(f b).nv c:=by
  refine CW λP=>?_;have A:∀j,¬(f (b+j)).B ((f b).nv c):=λj=>by
   induction j with
   |zero=>exact a6
   |succ j ih=>
    intro h;rcases((g (b+j)).B' _).1 h with h|h;exact P ⟨_,h.symm⟩;exact ih h.1
  obtain h|h:=K;exact P ⟨a,h.symm⟩;have:=A (a-b);grind
 have aa:=Z3 _ N;by_cases W:(f b).nv c=r;obtain rfl:=(g b).inj c _ Z4 (g b).e (W.trans C.symm);have s:=(g b).im;unfold impr at s;rw[C]at s F;have H:=(g a).bl;rw[M,S a r R,<-S b r R]at H;obtain⟨A,o⟩|⟨A,o⟩:=yq F;have⟨l,y,G⟩:=H.2 o;obtain⟨m,_⟩|⟨_,m⟩:=s;grind;have:=m l y;grind;have⟨u,y,G⟩:=H.1 o;obtain⟨_,m⟩|⟨m,_⟩:=s;have:=m u y;grind;grind;have J:=(g b).sm c Z4 (by rw[C];omega);unfold impr at J;have s:=(g a).im;unfold impr at s;obtain⟨A,o⟩|⟨A,o⟩:=yq F;have⟨l,y,G⟩:=mO λh=>J (.inr ⟨A,h⟩);obtain ho|ho:=K;rw[ho]at o y G I;obtain⟨m,D⟩|⟨m,D⟩:=yq (g a).de;grind;grind;have:=((g a).mb _ (by rw[M];omega) ho).2 o l y;grind;have⟨u,y,G⟩:=mP λh=>J (.inl ⟨A,h⟩);obtain ho|ho:=K;rw[ho]at o y G I;obtain⟨m,D⟩|⟨m,D⟩:=yq (g a).de;grind;obtain⟨_,Z1⟩|⟨Z1,_⟩:=s;have:=Z1 u y;grind;grind;have:=((g a).mb _ (by rw[M];omega) ho).1 o u y;grind
end
end
section
variable{c i r:Nat}
theorem kc{f}{n e}(b:e<n):sm n f=sm n (λc=>if c=e then 0 else f c)+f e:=by induction n<;>grind [sm,tf]
theorem uM{f}{n e}(b:e<n):Kb n f=Kb n (λc=>if c=e then 0 else f c)+f e:=by induction n<;>grind [Kb,yg]
def Ka{α:Type}(f:Nat->α)(k:Nat)(v:α):Nat->α:=λc=>if c=k then v else f c
def sgn(t:Int):Int:=if t<0 then -1 else 1
theorem fF(t):sgn t*t=(t.natAbs:Int):=by unfold sgn;split<;>omega
def zpc(t):sgn t*sgn t=1:=by unfold sgn;split<;>rfl
def pT(T:Nat->Nat->Int)(d:Int)(r e:Nat):Nat->Nat->Int:=λi c=>sgn (T r e)*(if i=r then(if c=e then d else -T r c)else if c=e then T i e else(T i c*T r e-T i e*T r c).tdiv d)
structure TabI (n m:Nat)(a:Nat->Nat->Int)(nb bs:Nat->Nat)(T:Nat->Nat->Int)(d:Int):Prop where
 dp:0<d
 dd:Kf n (λc=>a (nb c))=d\/Kf n (λc=>a (nb c))= -d
 rep:∀i,i<=m->∀j,j<n->d*a (bs i) j=sm n λc=>T i c*a (nb c) j
section
variable{n m:Nat}{a:Nat->Nat->Int}{nb bs:Nat->Nat}
theorem TabI.ent(h:TabI n m a nb bs T d)(hi:i<=m)(f:c<n):T i c=Kf n (rw' (λc=>a (nb c)) c (a (bs i)))\/T i c= -Kf n (rw' (λc=>a (nb c)) c (a (bs i))):=by
 have b:=P1 (A:=λc=>a (nb c)) f (h.rep i hi);have:=h.dp;obtain e|e:=h.dd<;>rw[e]at b;grind [FE,Int.mul_comm];right;have g:d*Kf n (rw' (λc=>a (nb c)) c (a (bs i)))=d* -T i c:=by rw[b];grind
 grind [FE]
theorem TabI.newdet(h:TabI n m a nb bs T d){e}(j:r<=m)(g:e<n):Kf n (λc=>a (Ka nb e (bs r) c))=T r e\/Kf n (λc=>a (Ka nb e (bs r) c))= -T r e:=by
 have b:(λc=>a (Ka nb e (bs r) c))=rw' (λc=>a (nb c)) e (a (bs r)):=by grind [Ka,rw']
 rw[b];obtain f|f:=h.ent j g<;>omega
theorem TabI.newrow(h:TabI n m a nb bs T d){e}(l:r<=m)(g:e<n)(hi:i<=m)(j)(hj:j<n):T r e*d*a (bs i) j=sm n λc=>(if c=e then T i e*d else T i c*T r e-T i e*T r c)*a (Ka nb e (bs r) c) j:=by have b:=h.rep i hi j hj;have f:=h.rep r l j hj;rw[kc g]at b f⊢;have o:sm n (λc=>if c=e then 0 else(if c=e then T i e*d else T i c*T r e-T i e*T r c)*a (Ka nb e (bs r) c) j)=T r e*sm n (λc=>if c=e then 0 else T i c*a (nb c) j)+ -T i e*sm n (λc=>if c=e then 0 else T r c*a (nb c) j):=(by rw[<-oj,<-oj,<-Tj];refine tf λc p=>?_;by_cases hce:c=e;simp only[Cw hce];omega;simp only[Cv hce,Ka];grind);grind [Ka,sm]
theorem TabI.exact(h:TabI n m a nb bs T d){e}(p:r<=m)(o:e<n)(hi:i<=m)(u:c<n)(q:T r e≠0)(l:c≠e):d∣T i c*T r e-T i e*T r c:=by
 have b:=P1 (A:=λc=>a (Ka nb e (bs r) c)) u (λj v=>h.newrow p o hi j v);rw[Cv l]at b;generalize Kf n (rw' (λc=>a (Ka nb e (bs r) c)) c (a (bs i)))=D at b;obtain g|g:=h.newdet p o<;>rw[g]at b;have f:T r e*(d*D)=T r e*(T i c*T r e-T i e*T r c):=by grind
 exact⟨D,(FE q f).symm⟩;have f:T r e*(d* -D)=T r e*(T i c*T r e-T i e*T r c):=by grind
 exact⟨-D,(FE q f).symm⟩
def dY{x d:Int}(h:d∣x):d*x.tdiv d=x:=Int.mul_tdiv_cancel' h
theorem TabI.pivot(h:TabI n m a nb bs T d){e}(g:r<=m)(b:e<n)(v:T r e≠0):TabI n m a (Ka nb e (bs r)) (Ka bs r (nb e)) (pT T d r e) ((T r e).natAbs:Int):=by
 have w:=h.dp;refine⟨Z,?_,λi hi j p=>?_⟩;obtain f|f:=h.newdet g b<;>rw[f]<;>omega;have A:Ka nb e (bs r) e=bs r:=by unfold Ka;rw[Cw rfl]
 by_cases hir:i=r;subst hir;have u:=h.rep i g j p;have l:Ka bs i (nb e) i=nb e:=by unfold Ka;rw[Cw rfl]
 rw[l,kc b];rw[kc b]at u;have y:sm n (λc=>if c=e then 0 else pT T d i e i c*a (Ka nb e (bs i) c) j)= -sgn (T i e)*sm n (λc=>if c=e then 0 else T i c*a (nb c) j):=(by rw[<-oj];refine tf λc o=>?_;by_cases hce:c=e;simp only[Cw hce];omega;simp only[Cv hce,Ka,pT,Cw];grind);grind [pT,sgn,fF,sm];have l:Ka bs r (nb e) i=bs i:=by unfold Ka;rw[Cv hir]
 rw[l];have f:=h.newrow g b hi j p;refine FE (a:=d) Z ?_;rw[<-oj,<-fF];have q:sm n (λc=>d*(pT T d r e i c*a (Ka nb e (bs r) c) j))=sgn (T r e)*sm n λc=>(if c=e then T i e*d else T i c*T r e-T i e*T r c)*a (Ka nb e (bs r) c) j:=(by rw[<-oj];refine tf λc o=>?_;by_cases hce:c=e;simp only[Cw hce,pT,Cv hir];grind;have:=dY (h.exact g b hi o v hce);simp only[Cv hce,pT,Cv hir];grind);rw[q,<-f];grind
def RepY(n m:Nat)(nb bs:Nat->Nat)(T:Nat->Nat->Int)(d:Int)(y:Nat->Rat):Prop:=∀i,i<=m->(d:Rat)*y (bs i)=Kb n λc=>(T i c:Rat)*y (nb c)
theorem wu{a b c:Rat}(h:a≠0)(e:a*b=a*c):b=c:=by grind
theorem RepY.pivot(h:TabI n m a nb bs T d){e}(p:r<=m)(j:e<n)(B:T r e≠0)(y):RepY n m (Ka nb e (bs r)) (Ka bs r (nb e)) (pT T d r e) ((T r e).natAbs:Int) y↔RepY n m nb bs T d y:=by
 have I:=h.dp;have H:(d:Rat)≠0:=λe=>by have:=El.1 e;omega
 have J:(T r e:Rat)≠0:=λe=>B (El.1 e);have M:((sgn (T r e):Int):Rat)*((sgn (T r e):Int):Rat)=1:=by rw[<-Du,zpc];rfl
 have v:(((T r e).natAbs:Int):Rat)=((sgn (T r e):Int):Rat)*(T r e:Rat):=by rw[<-fF,Du]
 have u:Ka nb e (bs r) e=bs r:=by unfold Ka;rw[Cw rfl]
 have l:∀i,Kb n (λc=>(T i c:Rat)*y (nb c))=Kb n (λc=>if c=e then 0 else(T i c:Rat)*y (nb c))+(T i e:Rat)*y (nb e):=λi=>uM j;have q:Kb n (λc=>(pT T d r e r c:Rat)*y (Ka nb e (bs r) c))= -((sgn (T r e):Int):Rat)*Kb n (λc=>if c=e then 0 else(T r c:Rat)*y (nb c))+((sgn (T r e):Int):Rat)*d*y (bs r):=by
  rw[uM j,u];have o:(pT T d r e r e:Rat)=((sgn (T r e):Int):Rat)*d:=by unfold pT;rw[Cw ω,Cw ω,Du]
  rw[o];congr 1;rw[<-wL];refine yg λc w=>?_;by_cases hce:c=e;simp only[Cw hce];grind;simp only[Cv hce,Ka,pT,Cw];grind
 have G:∀i,i<=m->i≠r->(d:Rat)*Kb n (λc=>(pT T d r e i c:Rat)*y (Ka nb e (bs r) c))=((sgn (T r e):Int):Rat)*((T r e:Rat)*Kb n (λc=>if c=e then 0 else(T i c:Rat)*y (nb c))-(T i e:Rat)*Kb n (λc=>if c=e then 0 else(T r c:Rat)*y (nb c))+(T i e:Rat)*d*y (bs r)):=λi hi b=>by
  rw[uM j,u];have o:(pT T d r e i e:Rat)=((sgn (T r e):Int):Rat)*(T i e:Rat):=by simp_all [pT,Du]
  rw[o];have D:(d:Rat)*Kb n (λc=>if c=e then 0 else(pT T d r e i c:Rat)*y (Ka nb e (bs r) c))=((sgn (T r e):Int):Rat)*((T r e:Rat)*Kb n (λc=>if c=e then 0 else(T i c:Rat)*y (nb c))-(T i e:Rat)*Kb n (λc=>if c=e then 0 else(T r c:Rat)*y (nb c))):=(by rw[<-wL,<-wL,<-wL,<-Tq,<-wL];refine yg λc w=>?_;by_cases hce:c=e;simp only[Cw hce];grind;have F:=dY (h.exact p j hi w B hce);have K:(d:Rat)*(((T i c*T r e-T i e*T r c).tdiv d:Int):Rat)=(T i c:Rat)*T r e-(T i e:Rat)*T r c:=(by rw[<-Du,F,ah2,Du,Du]);simp only[Cv hce,Ka,pT,Cv b];grind);rw[af9,D];grind
 constructor;intro f;have g:=f r p;rw[q,v,show Ka bs r (nb e) r=nb e from by unfold Ka;rw[Cw rfl]]at g;generalize ((sgn (T r e):Int):Rat)=s at*;have A:(d:Rat)*y (bs r)=Kb n (λc=>if c=e then 0 else(T r c:Rat)*y (nb c))+(T r e:Rat)*y (nb e):=by grind
 intro i hi;rw[l];by_cases b:i=r;rw[b];exact A;have C:=f i hi;grind [Ka,Kb,wu];intro f i hi;have g:=f r p;rw[l]at g;by_cases b:i=r;grind [Ka,Kb];have C:=f i hi;grind [Ka,wu,Kb]
end
structure PT where
 nb:Nat->Nat
 bs:Nat->Nat
 T:Nat->Nat->Int
 d:Int
structure PS extends PT where
 x:Nat->Rat
def PT.piv(t:PT)(r e:Nat):PT:=⟨Ka t.nb e (t.bs r),Ka t.bs r (t.nb e),pT t.T t.d r e,((t.T r e).natAbs:Int)⟩
section
variable (n m:Nat)(a:Nat->Nat->Int)(lo hi:Nat->Option Rat)(L:(Nat->Rat)->Prop)
def KG(m:Nat)(bs:Nat->Nat)(v:Nat):Prop:=∃i,i<m/\bs i=v
def Lh(v:Nat)(x:Rat):Prop:=lo v=ξ x\/hi v=ξ x\/lo v=θ/\hi v=θ/\x=0
structure PB (t:PT):Prop where
 tab:TabI n m a t.nb t.bs t.T t.d
 nv:∀c,c<n->t.nb c<n+m
 bv:∀i,i<m->t.bs i<n+m
 bm:t.bs m=n+m
 inj:∀c c',c<n->c'<n->t.nb c=t.nb c'->c=c'
 jnj:∀i i',i<m->i'<m->t.bs i=t.bs i'->i=i'
 dis:∀c i,c<n->i<m->t.nb c≠t.bs i
 cov:∀v,v<n+m->(∃c,c<n/\t.nb c=v)\/KG m t.bs v
 rep:∀y,L y↔RepY n m t.nb t.bs t.T t.d y
structure PInv (s:PS):Prop extends PB n m a L s.toPT where
 xL:L s.x
 bd:∀c,c<n->inBd lo hi (s.nb c) (s.x (s.nb c))/\Lh lo hi (s.nb c) (s.x (s.nb c))
open Classical in
def K0(s:PS)(v:Nat):Nat:=if KG m s.bs v then 0 else if lo v=ξ (s.x v)then 1 else if hi v=ξ (s.x v)then 2 else 3
def KV(s:PS):Nat->Nat
 |0=>0
 |v+1=>KV s v+K0 m lo hi s v*4^v
end
section
variable{n m:Nat}{a:Nat->Nat->Int}{lo hi:Nat->Option Rat}{L:(Nat->Rat)->Prop}{s s':PS}
theorem zqr(v):K0 m lo hi s v<=3:=by grind [K0]
def iI:∀v,KV m lo hi s v<4^v
 |0=>IT
 |v+1=>by
  have h1:=iI v;have b:=CM (4^v) (zqr (m:=m) (lo:=lo) (hi:=hi) (s:=s) v);show KV m lo hi s v+K0 m lo hi s v*4^v<4^(v+1);rw[C5];omega
theorem znc:∀(V:Nat),KV m lo hi s V=KV m lo hi s' V->∀v,v<V->K0 m lo hi s v=K0 m lo hi s' v:=by
 intro V;induction V with
 |zero=>intro _ v h;exact Cu h (DM _)
 |succ V ih=>
  intro h v l;have h:KV m lo hi s V+K0 m lo hi s V*4^V=KV m lo hi s' V+K0 m lo hi s' V*4^V:=h;have g:=iI (m:=m) (lo:=lo) (hi:=hi) (s:=s) V;have j:=iI (m:=m) (lo:=lo) (hi:=hi) (s:=s') V;have e:K0 m lo hi s V=K0 m lo hi s' V:=(by have b:(KV m lo hi s V+K0 m lo hi s V*4^V)/4^V=K0 m lo hi s V:=(by rw[G0 _ _ Z,EP g,C9]);have f:(KV m lo hi s' V+K0 m lo hi s' V*4^V)/4^V=K0 m lo hi s' V:=(by rw[G0 _ _ Z,EP j,C9]);rw[<-b,<-f,h]);grind
def PInv.nB(h:PInv n m a lo hi L s)(b:c<n):¬KG m s.bs (s.nb c):=λ⟨i,hi,e⟩=>h.dis c i b hi e.symm
theorem PInv.same(h:PInv n m a lo hi L s)(h':PInv n m a lo hi L s')(e:KV m lo hi s (n+m)=KV m lo hi s' (n+m)):(∀v,KG m s.bs v↔KG m s'.bs v)/\∀v,v<=n+m->s.x v=s'.x v:=by
 have g:=znc _ e;have F:∀v,v<n+m->(KG m s.bs v↔KG m s'.bs v):=λv b=>(by have:=g v b;grind [K0,KG]);have j:∀v,KG m s.bs v↔KG m s'.bs v:=λv=>(by by_cases b:v<n+m;exact F v b;exact⟨λ⟨i,hi,e⟩=>Cu (h.bv i hi) Z,λ⟨i,hi,e⟩=>Cu (h'.bv i hi) Z⟩);refine⟨j,?_⟩;have G:∀c,c<n->s.x (s.nb c)=s'.x (s.nb c):=λc f=>(by have b:=h.nv c f;have A:=h.nB f;have B:¬KG m s'.bs (s.nb c):=λh=>A ((j _).2 h);have⟨C,q,D⟩:=(h'.cov _ b).resolve_right B;have o:=(h.bd c f).2;have l:=(h'.bd C q).2;rw[D]at l;have:=g _ b;unfold K0 at this;rw[Cv A,Cv B]at this;unfold Lh at o l;by_cases l1:lo (s.nb c)=ξ (s.x (s.nb c));grind;rw[Cv l1]at this;by_cases l2:lo (s.nb c)=ξ (s'.x (s.nb c));grind;rw[Cv l2]at this;by_cases u1:hi (s.nb c)=ξ (s.x (s.nb c));rw[Cw u1]at this;by_cases u2:hi (s.nb c)=ξ (s'.x (s.nb c));exact Eb (u1.symm.trans u2);rw[Cv u2]at this;cases this;rw[Cv u1]at this;by_cases u2:hi (s.nb c)=ξ (s'.x (s.nb c));rw[Cw u2]at this;cases this;have z1:=(o.resolve_left l1).resolve_left u1;have z2:=(l.resolve_left l2).resolve_left u2;rw[z1.2.2,z2.2.2]);have w:=(h.rep _).1 h.xL;have y:=(h.rep _).1 h'.xL;have u:(s.d:Rat)≠0:=λe=>by have:=El.1 e;have:=h.tab.dp;omega
 have p:∀i,i<=m->s.x (s.bs i)=s'.x (s.bs i):=λi hi=>(by apply wu u;rw[w i hi,y i hi];grind [yg]);intro v b;by_cases e:v=n+m;rw[e,<-h.bm];exact p m Cy;obtain⟨c,g,rfl⟩|⟨i,hi,rfl⟩:=h.cov v Z;exact G c g;exact p i Z
end
def nT(S:PS->PS->Prop)(κ:PS->Nat)(k:Nat)(s:PS):Prop:=∃σ:Nat->PS,σ k=s/\(∀i,i<k->S (σ i) (σ (i+1)))/\∀i j,i<j->j<=k->κ (σ i)≠κ (σ j)
section
variable{S:PS->PS->Prop}{κ:PS->Nat}{s s':PS}
def nT.start:nT S κ 0 s:=⟨λ_=>s,ω,λi h=>Cu h (DM _),λi j b e=>Z⟩
theorem nT.next(f:∀(p:Nat) (τ:Nat->PS),0<p->(∀q,q<p->S (τ q) (τ (q+1)))->κ (τ p)=κ (τ 0)->False)(c:nT S κ k s)(h:S s s'):nT S κ (k+1) s':=by have⟨σ,u,v,l⟩:=c;have g:∀i,i<=k->(if i=k+1 then s' else σ i)=σ i:=λi hi=>Cv Z;have o:∀i,i<k+1->S (if i=k+1 then s' else σ i) (if i+1=k+1 then s' else σ (i+1)):=λi hi=>(by grind);refine⟨λi=>if i=k+1 then s' else σ i,Cw ω,o,λi j b w=>?_⟩;by_cases h4:j=k+1;subst h4;show κ (if i=k+1 then s' else σ i)≠κ (if k+1=k+1 then s' else σ (k+1));intro e;refine f (k+1-i) (λq=>if i+q=k+1 then s' else σ (i+q)) Z (λq y=>?_) ?_;grind;show κ (if i+(k+1-i)=k+1 then s' else _)=κ (if i+0=k+1 then s' else σ (i+0));rw[Cw Z,DE];rw[Cw rfl]at e;exact e.symm;show κ (if i=k+1 then s' else σ i)≠κ (if j=k+1 then s' else σ j);rw[g i Z,Cv h4];exact l i j b Z
def Qc:∀(K k:Nat) (f:Nat->Nat),(∀i,i<k->f i<K)->(∀i j,i<j->j<k->f i≠f j)->k<=K
 |0,k,f,h,_=>by
  by_cases h0:k=0
  .omega
  have:=h 0 Z;omega
 |K+1,k,f,h,hi=>by
  by_cases h1:∃p,p<k/\f p=K
  .obtain⟨p,q,u⟩:=h1;have:=Qc K (k-1) (λi=>if i<p then f i else f (i+1)) (λi b=>?_) (λi j o v=>?_)
   .omega
   .show(if i<p then f i else f (i+1))<K;split
    .have g:=h i Z;have l:=hi i p Z q;omega
    have g:=h (i+1) Z;have l:=hi p (i+1) Z Z;omega
   show(if i<p then f i else f (i+1))≠(if j<p then f j else f (j+1));split
   .split
    .exact hi i j o Z
    exact hi i (j+1) Z Z
   rw[Cv Z];exact hi (i+1) (j+1) Z Z
  have:=Qc K k f (λi b=>by
   have g:=h i b;have l:f i≠K:=λe=>h1 ⟨i,b,e⟩;omega) hi
  omega
def nT.lt{K}(f:∀s,κ s<K)(c:nT S κ k s):k<K:=by have⟨σ,g,l,e⟩:=c;have:=Qc K (k+1) (λi=>κ (σ i)) (λi _=>f _) (λi j b o=>e i j b Z);omega
end
end
section
variable{c i j:Nat}
def qM{f}{v:α}:Ka f k v k=v:=Cw rfl
def vi{f}{v:α}(h:c≠k):Ka f k v c=f c:=Cv h
def Kk(s:PS)(e:Nat)(δ:Rat):Nat->Nat->Rat
 |0=>Ka s.x (s.nb e) (s.x (s.nb e)+δ)
 |k+1=>Ka (Kk s e δ k) (s.bs k) (Kk s e δ k (s.bs k)+(s.T k e:Rat)/s.d*δ)
section
variable{n m e r:Nat}{a:Nat->Nat->Int}{lo hi:Nat->Option Rat}{L:(Nat->Rat)->Prop}{t:PT}{s:PS}
def PB.dN(h:PB n m a L t)(b:c<n)(hi:i<=m):t.nb c≠t.bs i:=by by_cases e:i=m;rw[e,h.bm];have:=h.nv c b;omega;exact h.dis c i b Z
def PB.jN(h:PB n m a L t)(hi:i<=m)(hj:j<=m)(e:t.bs i=t.bs j):i=j:=by by_cases e1:i=m<;>by_cases e2:j=m;omega;rw[e1,h.bm]at e;have:=h.bv j Z;omega;rw[e2,h.bm]at e;have:=h.bv i Z;omega;exact h.jnj i j Z Z e
def PB.d0(h:PB n m a L t):(t.d:Rat)≠0:=λe=>by have:=El.1 e;have:=h.tab.dp;omega
def PB.dpos(h:PB n m a L t):0<(t.d:Rat):=FR.2 h.tab.dp
def oI{v}:∀{k:Nat},v≠s.nb e->(∀i,i<k->v≠s.bs i)->Kk s e δ k v=s.x v
 |0,h,_=>vi h
 |k+1,h,h2=>(vi (h2 k Z)).trans (oI h λi hi=>h2 i Z)
def qU(h:PB n m a L s.toPT)(he:e<n):∀{k:Nat},k<=m+1->Kk s e δ k (s.nb e)=s.x (s.nb e)+δ
 |0,_=>qM
 |k+1,hk=>(vi (h.dN he Z)).trans (qU h he Z)
def qT(h:PB n m a L s.toPT)(f:e<n)(b:c<n)(d:c≠e)(l:k<=m+1):Kk s e δ k (s.nb c)=s.x (s.nb c):=
 oI (λq=>d (h.inj c e b f q)) λi hi=>h.dN b Z
def mQ(h:PB n m a L s.toPT)(b:e<n):∀{k:Nat},k<=m+1->i<k->Kk s e δ k (s.bs i)=s.x (s.bs i)+(s.T i e:Rat)/s.d*δ
 |0,_,hi=>Cu hi (DM _)
 |k+1,hk,hi=>by
  show Ka (Kk s e δ k) (s.bs k) _ (s.bs i)=_;by_cases q:i=k
  .subst q;rw[qM,oI (λq=>h.dN b Z q.symm) λj l q=>by have:=h.jN Z Z q;omega]
  rw[vi λf=>q (h.jN Z Z f)];exact mQ h b Z Z
theorem PInv.mvL(h:PInv n m a lo hi L s)(b:e<n):L (Kk s e δ (m+1)):=by have l:=(h.rep _).1 h.xL;refine(h.rep _).2 λi hi=>?_;rw[mQ h.toPB b Cy Z,af9,l i hi];have o:=h.toPB.d0;rw[uM (f:=λc=>(s.T i c:Rat)*s.x (s.nb c)) b,uM (f:=λc=>(s.T i c:Rat)*Kk s e δ (m+1) (s.nb c)) b,qU h.toPB b Cy];rw[yg (f:=λc=>if c=e then 0 else(s.T i c:Rat)*Kk s e δ (m+1) (s.nb c)) (g:=λc=>if c=e then 0 else(s.T i c:Rat)*s.x (s.nb c)) λc d=>?_];grind;by_cases q:c=e;rw[Cw q,Cw q];rw[Cv q,Cv q,qT h.toPB b d q Cy]
theorem PB.piv(h:PB n m a L t)(l:r<m)(d:e<n)(A:t.T r e≠0):PB n m a L (t.piv r e):=by
 have u:=h.nv e d;have C:=h.bv r l;refine⟨h.tab.pivot Z d A,λc b=>?_,λi hi=>?_,?_,λc w b o q=>?_,λi B hi p q=>?_,λc i b hi q=>?_,λv u=>?_,λy=>(h.rep y).trans (RepY.pivot h.tab Z d A y).symm⟩
 .show Ka _ _ _ _<_;unfold Ka;split
  .exact C
  exact h.nv c b
 .show Ka _ _ _ _<_;unfold Ka;split
  .exact u
  exact h.bv i hi
 .exact(vi Z).trans h.bm
 .have q:Ka t.nb e (t.bs r) c=Ka t.nb e (t.bs r) w:=q;unfold Ka at q;split at q<;>split at q
  .omega
  .exact Cu q.symm (h.dis _ _ o l)
  .exact Cu q (h.dis _ _ b l)
  exact h.inj c w b o q
 .have q:Ka t.bs r (t.nb e) i=Ka t.bs r (t.nb e) B:=q;unfold Ka at q;split at q<;>split at q
  .omega
  .exact Cu q (h.dis _ _ d p)
  .exact Cu q.symm (h.dis _ _ d hi)
  exact h.jnj i B hi p q
 .have q:Ka t.nb e (t.bs r) c=Ka t.bs r (t.nb e) i:=q;unfold Ka at q;split at q<;>split at q
  .exact h.dis _ _ d l q.symm
  .next q1 f=>exact f (h.jnj _ _ l hi q).symm
  .next q1 f=>exact q1 (h.inj _ _ b d q)
  exact h.dis _ _ b hi q
 by_cases q:v=t.bs r
 .exact .inl ⟨e,d,qM.trans q.symm⟩
 rcases h.cov v u with⟨c,b,rfl⟩|⟨i,hi,rfl⟩
 .by_cases f:c=e
  .exact .inr ⟨r,l,qM.trans (by rw[f])⟩
  exact .inl ⟨c,b,vi f⟩
 exact .inr ⟨i,hi,vi λf=>q (by rw[f])⟩
theorem PB.Bpiv(h:PB n m a L t)(d:r<m)(v):KG m (t.piv r e).bs v↔v=t.nb e\/KG m t.bs v/\v≠t.bs r:=by
 constructor
 .rintro⟨i,hi,q⟩;have q:Ka t.bs r (t.nb e) i=v:=q;unfold Ka at q;split at q
  .exact .inl q.symm
  next b=>exact .inr ⟨⟨i,hi,q⟩,λf=>b (h.jnj i r hi d (q.trans f))⟩
 rintro(rfl|⟨⟨i,hi,rfl⟩,q⟩)
 .exact⟨r,d,qM⟩
 exact⟨i,hi,vi λb=>q (by rw[b])⟩
def PInv.step(h:PInv n m a lo hi L s)(l:r<m)(b:e<n)(o:s.T r e≠0)(hb:inBd lo hi (s.bs r) (Kk s e δ (m+1) (s.bs r))/\Lh lo hi (s.bs r) (Kk s e δ (m+1) (s.bs r))):PInv n m a lo hi L ⟨s.toPT.piv r e,Kk s e δ (m+1)⟩:=by
 refine⟨h.toPB.piv l b o,h.mvL b,λc f=>?_⟩;show inBd lo hi ((PT.piv s.toPT r e).nb c) (Kk s e δ (m+1) ((PT.piv s.toPT r e).nb c))/\Lh lo hi ((PT.piv s.toPT r e).nb c) (Kk s e δ (m+1) ((PT.piv s.toPT r e).nb c));by_cases q:c=e;have d:Ka s.nb e (s.bs r) c=s.bs r:=by rw[q];exact qM
 rw[show(PT.piv s.toPT r e).nb c=s.bs r from d];exact hb;have d:Ka s.nb e (s.bs r) c=s.nb c:=vi q;rw[show(PT.piv s.toPT r e).nb c=s.nb c from d,qT h.toPB b f q Cy];exact h.bd c f
def PInv.stay(h:PInv n m a lo hi L s)(b:e<n)(hb:inBd lo hi (s.nb e) (s.x (s.nb e)+δ)/\Lh lo hi (s.nb e) (s.x (s.nb e)+δ)):PInv n m a lo hi L ⟨s.toPT,Kk s e δ (m+1)⟩:=by refine⟨h.toPB,h.mvL b,λc d=>?_⟩;show inBd lo hi (s.nb c) (Kk s e δ (m+1) (s.nb c))/\Lh lo hi (s.nb c) (Kk s e δ (m+1) (s.nb c));by_cases q:c=e;rw[q,qU h.toPB b Cy];exact hb;rw[qT h.toPB b d q Cy];exact h.bd c d
end
section
variable (n m:Nat)(a:Nat->Nat->Int)(lo hi:Nat->Option Rat)(L:(Nat->Rat)->Prop)
def rdOf(s:PS)(r e:Nat)(low:Bool):RD:=⟨s.x,KG m s.bs,s.nb,λc=>(s.T r c:Rat),s.d,e,s.bs r,low⟩
def Viol(s:PS)(r:Nat)(low:Bool)(g:Rat):Prop:=if low then ∃l,lo (s.bs r)=ξ l/\s.x (s.bs r)<l/\g=l-s.x (s.bs r)else ∃u,hi (s.bs r)=ξ u/\u<s.x (s.bs r)/\g=u-s.x (s.bs r)
structure Vio (s:PS)(r:Nat)(low:Bool)(g:Rat):Prop where
 hr:r<m
 v:Viol lo hi s r low g
 sm:∀i,i<m->s.bs i<s.bs r->inBd lo hi (s.bs i) (s.x (s.bs i))
structure RepS (s:PS)(r e:Nat)(low:Bool)(g:Rat):Prop extends Vio m lo hi s r low g where
 he:e<n
 su:suit lo hi (rdOf m s r e low) e
 sms:∀c,c<n->s.nb c<s.nb e->¬suit lo hi (rdOf m s r e low) c
def repN(s:PS)(r e:Nat)(g:Rat):PS:=⟨s.toPT.piv r e,Kk s e (g/((s.T r e:Rat)/s.d)) (m+1)⟩
def Tu(s s':PS):Prop:=PInv n m a lo hi L s/\∃r e low g,RepS n m lo hi s r e low g/\s'=repN m s r e g
end
section
variable{n m e r:Nat}{a:Nat->Nat->Int}{lo hi:Nat->Option Rat}{L:(Nat->Rat)->Prop}{s s':PS}{low:Bool}
theorem RepS.ne(h:RepS n m lo hi s r e low g):s.T r e≠0:=λq=>by
 have:=h.su;unfold suit rdOf at this;simp only[q]at this;have h0:¬(0:Rat)<((0:Int):Rat):=by decide
 have b:¬((0:Int):Rat)<0:=by decide
 grind
theorem repX(h:PB n m a L s.toPT)(b:e<n)(p:r<m)(f:s.T r e≠0):Kk s e (g/((s.T r e:Rat)/s.d)) (m+1) (s.bs r)=s.x (s.bs r)+g:=by rw[mQ h b Cy Z];have l:(s.T r e:Rat)≠0:=λq=>f (El.1 q);have o:=h.d0;grind
theorem RepS.inv(h:RepS n m lo hi s r e low g)(f:∀v l u,lo v=ξ l->hi v=ξ u->l<=u)(o:PInv n m a lo hi L s):PInv n m a lo hi L (repN m s r e g):=by refine o.step h.hr h.he h.ne ?_;rw[repX o.toPB h.he h.hr h.ne];have d:=h.v;unfold Viol at d;split at d;obtain⟨l,b,p,rfl⟩:=d;rw[show s.x (s.bs r)+(l-s.x (s.bs r))=l by grind];exact⟨⟨λw q=>by rw[b]at q;cases q;exact FN,λu q=>f _ _ _ b q⟩,.inl b⟩;obtain⟨u,b,p,rfl⟩:=d;rw[show s.x (s.bs r)+(u-s.x (s.bs r))=u by grind];exact⟨⟨λl q=>f _ _ _ q b,λy q=>by rw[b]at q;cases q;exact FN⟩,.inr (.inl b)⟩
theorem RepS.stp(h:RepS n m lo hi s r e low g)(w:PInv n m a lo hi L s){f:RD}(D:∀v,f.B v↔KG m (repN m s r e g).bs v)(hx:∀v,v<n+m->f.x v=(repN m s r e g).x v):StepR n (n+m) L lo hi (rdOf m s r e low) f:=by
 have b:=w.toPB;have A:=b.bv r h.hr;refine⟨h.he,λc o=>⟨w.nB o,b.nv c o⟩,b.inj,⟨⟨r,h.hr,rfl⟩,A⟩,λv=>(D v).trans (b.Bpiv h.hr v),λv d p C=>?_,λv d p=>?_,?_,λv d p=>?_,b.dpos,λy F=>?_,w.xL,h.su,h.sms⟩
 .rw[hx v d];rcases b.cov v d with⟨c,o,rfl⟩|q
  .exact qT b h.he o (λq=>C (by rw[q];rfl)) Cy
  exact Cu q p
 .rcases b.cov v d with⟨c,o,rfl⟩|q
  .exact(w.bd c o).1
  exact Cu q p
 .have d:=h.v;unfold Viol at d;show if low=φ then ∃l,lo (s.bs r)=ξ l/\s.x (s.bs r)<l/\f.x (s.bs r)=l else ∃u,hi (s.bs r)=ξ u/\u<s.x (s.bs r)/\f.x (s.bs r)=u
  have G:f.x (s.bs r)=s.x (s.bs r)+g:=(hx _ A).trans (repX b h.he h.hr h.ne)
  grind
 .obtain⟨i,hi,rfl⟩:=p;exact h.sm i hi d
 exact(b.rep y).1 F r (by have:=h.hr;omega)
theorem Tv(h:PB n m a L s.toPT)(x y)(hx:L x)(l:L y):L λv=>x v-y v:=by have b:=(h.rep _).1 hx;have f:=(h.rep _).1 l;refine(h.rep _).2 λi hi=>?_;rw[show(s.d:Rat)*(x (s.bs i)-y (s.bs i))=s.d*x (s.bs i)-s.d*y (s.bs i)by grind,b i hi,f i hi,<-Tq];grind
theorem vz(i){p}(b:0<p):(i%p+1=p->(i+1)%p=0)/\(i%p+1≠p->(i+1)%p=i%p+1):=by have d:=Nat.div_add_mod i p;have f:=Dz i b;refine⟨λh=>?_,λh=>?_⟩;rw[show i+1=p*(i/p+1)by rw[DS];omega,Nat.mul_mod_right];rw[show i+1=p*(i/p)+(i%p+1)by omega,Nat.mul_add_mod,Nat.mod_eq_of_lt Z]
theorem zmx(p)(τ:Nat->PS)(hp:0<p)(hs:∀q,q<p->Tu n m a lo hi L (τ q) (τ (q+1)))(hlh:∀v l u,lo v=ξ l->hi v=ξ u->l<=u)(hκ:KV m lo hi (τ p) (n+m)=KV m lo hi (τ 0) (n+m)):False:=by have hI:∀q,q<=p->PInv n m a lo hi L (τ q):=λq hq=>(by by_cases h:q=p;have⟨h1,r,e,low,g,h2,h3⟩:=hs (p-1) Z;rw[show p-1+1=q by omega]at h3;rw[h3];exact h2.inv hlh h1;exact(hs q Z).1);have hsame:=(hI p Cy).same (hI 0 Z) hκ;have hc:∀i,∃D:RD,D.x=(τ (i%p)).x/\D.B=KG m (τ (i%p)).bs/\∀D':RD,(∀v,D'.B v↔KG m (τ (i%p+1)).bs v)->(∀v,v<n+m->D'.x v=(τ (i%p+1)).x v)->StepR n (n+m) L lo hi D D':=λi=>(by have⟨h1,r,e,low,g,h2,h3⟩:=hs (i%p) (Dz _ hp);exact⟨_,ω,ω,λD' hB hx=>h2.stp h1 (by rw[<-h3];exact hB) (by rw[<-h3];exact hx)⟩);have⟨F,hF⟩:=FQ hc;let f:=λi=>F (i%p);have hf:∀i,(f i).x=(τ (i%p)).x/\(f i).B=KG m (τ (i%p)).bs/\∀D':RD,(∀v,D'.B v↔KG m (τ (i%p+1)).bs v)->(∀v,v<n+m->D'.x v=(τ (i%p+1)).x v)->StepR n (n+m) L lo hi (f i) D':=λi=>(by grind [ap7]);refine zp3 (n:=n) (V:=n+m) (lo:=lo) (hi:=hi) (f:=f) hp (Tv (hI 0 Z).toPB) (λi=>?_) λi=>?_;have h1:=hf i;have h2:=hf (i+1);have hm:=Dz i hp;refine h1.2.2 _ ?_ ?_;intro v;rw[h2.2.1];grind [vz];intro v hv;grind [vz];show F ((i+p)%p)=F (i%p);rw[ac7]
end
def ab(x:Rat):Rat:=if x<0 then -x else x
def rm(lo hi:Nat->Option Rat)(v:Nat)(x:Rat)(up:Bool):Option Rat:=if up then(hi v).map (· - x)else(lo v).map (x - ·)
def Kj(up:Bool):Rat:=if up then 1 else -1
section
variable (n m:Nat)(a:Nat->Nat->Int)(lo hi:Nat->Option Rat)(L:(Nat->Rat)->Prop)
def ent(s:PS)(up:Bool)(c:Nat):Prop:=if up then s.T m c<0/\cG hi (s.nb c) (s.x (s.nb c))else 0<s.T m c/\cS lo (s.nb c) (s.x (s.nb c))
structure Ent (s:PS)(e:Nat)(up:Bool):Prop where
 he:e<n
 im:ent m lo hi s up e
 sm:∀c,c<n->s.nb c<s.nb e->∀u,¬ent m lo hi s u c
def Li(s:PS)(e:Nat)(up:Bool)(r:Option Nat)(ρ:Rat):Prop:=
 match r with
 |none=>rm lo hi (s.nb e) (s.x (s.nb e)) up=ξ ρ
 |some i=>i<m/\s.T i e≠0/\∃g,rm lo hi (s.bs i) (s.x (s.bs i)) (up==decide (0<s.T i e))=ξ g/\ρ=g/ab ((s.T i e:Rat)/s.d)
def OH(s:PS)(e:Nat)(r:Option Nat):Nat:=match r with|none=>s.nb e|some i=>s.bs i
structure OptS (s:PS)(e:Nat)(up:Bool)(r:Option Nat)(ρ:Rat):Prop extends Ent n m lo hi s e up where
 ch:Li m lo hi s e up r ρ
 mn:∀r' ρ',Li m lo hi s e up r' ρ'->ρ<ρ'\/ρ=ρ'/\OH s e r<=OH s e r'
def optN(s:PS)(e:Nat)(up:Bool)(r:Option Nat)(ρ:Rat):PS:=⟨match r with|none=>s.toPT|some i=>s.toPT.piv i e,Kk s e (ρ*Kj up) (m+1)⟩
def Feas(s:PS):Prop:=∀i,i<m->inBd lo hi (s.bs i) (s.x (s.bs i))
def Tw(s s':PS):Prop:=PInv n m a lo hi L s/\Feas m lo hi s/\∃e up r ρ,OptS n m lo hi s e up r ρ/\s'=optN m s e up r ρ
end
section
variable{n m e:Nat}{a:Nat->Nat->Int}{lo hi:Nat->Option Rat}{L:(Nat->Rat)->Prop}{s s':PS}{up:Bool}{r:Option Nat}
theorem NM{v}{x g}(h:rm lo hi v x φ=ξ g):hi v=ξ (x+g):=by
 unfold rm at h;rw[Cw rfl]at h;cases q:hi v with
 |none=>rw[q]at h;cases h
 |some u=>rw[q]at h;cases h;rw[show x+(u-x)=u by grind]
theorem NN{v}{x g}(h:rm lo hi v x χ=ξ g):lo v=ξ (x-g):=by
 unfold rm at h;rw[Cv EL]at h;cases q:lo v with
 |none=>rw[q]at h;cases h
 |some u=>rw[q]at h;cases h;rw[show x-(x-u)=u by grind]
theorem TC{v}{x u}(h:hi v=ξ u):rm lo hi v x φ=ξ (u-x):=by grind [rm]
def TE{v}{x l}(h:lo v=ξ l):rm lo hi v x χ=ξ (x-l):=by unfold rm;rw[Cv EL,h];rfl
theorem TG{v}{x g}(hb:inBd lo hi v x)(h:rm lo hi v x up=ξ g):0<=g:=by
 cases up with
 |true=>have:=hb.2 _ (NM h);grind
 |false=>have:=hb.1 _ (NN h);grind
def pO(x):(0:Rat)/x=0:=by rw[Rat.div_def,Fe]
def ab_z{d}:ab (((0:Int):Rat)/d)=0:=by rw[show((0:Int):Rat)=0 from ω,pO];rfl
theorem lk{k}(h:k≠0):0<ab k:=by unfold ab;split<;>grind
theorem zrj{k}{b}(h:b=φ↔0<k):k*Kj up=ab k*Kj (up==b):=by have d:Kj φ=1:=rfl;have f:Kj χ= -1:=rfl;have l:k<0->ab k= -k:=λq=>Cw q;have o:¬k<0->ab k=k:=λq=>Cv q;cases up<;>cases b<;>simp only[Bool.false_eq_true,beq_self_eq_true,Bool.false_beq,Bool.true_beq,Bool.not_true,false_iff,true_iff]at h⊢ <;>grind
theorem tE{g k}(h:k≠0):g/ab k*ab k=g:=Fi (by have:=lk h;grind)
theorem TH{v}{x k}{u}(hb:inBd lo hi v x)(b:0<=k)(h:∀g,rm lo hi v x u=ξ g->k<=g):inBd lo hi v (x+k*Kj u):=by
 cases u with
 |true=>
  show inBd lo hi v (x+k*1);exact⟨λl q=>by have:=hb.1 l q;grind,λu q=>by have:=h _ (TC q);grind⟩
 |false=>
  show inBd lo hi v (x+k* -1);exact⟨λl q=>by have:=h _ (TE q);grind,λu q=>by have:=hb.2 u q;grind⟩
theorem TI{v}{x g}{u}(h:rm lo hi v x u=ξ g):Lh lo hi v (x+g*Kj u):=by
 cases u with
 |true=>exact .inr (.inl ((NM h).trans (by show ξ (x+g)=ξ (x+g*1);rw[FB])))
 |false=>exact .inl ((NN h).trans (by show ξ (x-g)=ξ (x+g* -1);congr 1;grind))
theorem PB.sgn(h:PB n m a L s.toPT){t:Int}:(decide (0<t)=φ↔0<(t:Rat)/s.d)/\(t≠0->(t:Rat)/s.d≠0)/\(t<0->(t:Rat)/s.d<0):=by
 have b:=Fi (a:=(t:Rat)) h.d0;have f:=h.dpos;generalize (t:Rat)/s.d=q at*;have l:(t:Rat)<0↔t<0:=by rw[show(0:Rat)=((0:Int):Rat)from rfl];exact GT
 rw[decide_eq_true_iff,<-FR (a:=t),<-l];refine⟨⟨λh=>?_,λh=>?_⟩,λh=>?_,λh=>?_⟩;grind [xY];rw[<-b];exact Gp h f;intro o;rw[o,Fe]at b;exact h (El.1 b.symm);obtain q|q:=yq (b▸h)<;>grind
theorem OptS.nn(h:OptS n m lo hi s e up r ρ)(f:PInv n m a lo hi L s)(A:Feas m lo hi s):0<=ρ:=by
 have l:=h.ch;cases r with
 |none=>exact TG (f.bd e h.he).1 l
 |some i=>
  obtain⟨o,p,g,u,v⟩:i<m/\s.T i e≠0/\∃g,rm lo hi (s.bs i) (s.x (s.bs i)) (up==decide (0<s.T i e))=ξ g/\ρ=g/ab ((s.T i e:Rat)/s.d):=l;have B:=TG (A i o) u;have b:=(f.toPB.sgn (t:=s.T i e)).2.1 p;have w:=tE (g:=g) b;have y:=lk b;rw[<-v]at w;refine Hc.1 λq=>?_;have:=Gp (show 0< -ρ by grind) y;grind
theorem Qd(b:PInv n m a lo hi L s)(f:e<n)(hi:i<=m):Kk s e (ρ*Kj up) (m+1) (s.bs i)=s.x (s.bs i)+ρ*ab ((s.T i e:Rat)/s.d)*Kj (up==decide (0<s.T i e)):=by rw[mQ b.toPB f Cy Z];have:=zrj (up:=up) (b.toPB.sgn (t:=s.T i e)).1;grind
theorem OptS.row(h:OptS n m lo hi s e up r ρ)(l:PInv n m a lo hi L s)(f:Feas m lo hi s)(b:i<m):inBd lo hi (s.bs i) (Kk s e (ρ*Kj up) (m+1) (s.bs i)):=by rw[Qd l h.he Z];have o:=h.nn l f;by_cases q:s.T i e=0;rw[q,ab_z,FJ,Fe,FY];exact f i b;have p:=(l.toPB.sgn (t:=s.T i e)).2.1 q;have u:=lk p;refine TH (f i b) (ID o (D9 u)) λg v=>?_;have w:=h.mn (ξ i) (g/ab ((s.T i e:Rat)/s.d)) ⟨b,q,g,v,ω⟩;grind [tE,ab,H1,D9]
theorem OptS.own(h:OptS n m lo hi s e up r ρ)(b:PInv n m a lo hi L s)(d:Feas m lo hi s):inBd lo hi (s.nb e) (s.x (s.nb e)+ρ*Kj up):=
 TH (b.bd e h.he).1 (h.nn b d) λg f=>by have:=h.mn θ g f;grind
def OptS.inv(h:OptS n m lo hi s e up r ρ)(b:PInv n m a lo hi L s)(f:Feas m lo hi s):PInv n m a lo hi L (optN m s e up r ρ)/\Feas m lo hi (optN m s e up r ρ):=by
 have p:=h.ch;cases r with
 |none=>exact⟨b.stay h.he ⟨h.own b f,TI p⟩,λi u=>h.row b f u⟩
 |some i=>
  obtain⟨l,o,g,v,w⟩:i<m/\s.T i e≠0/\∃g,rm lo hi (s.bs i) (s.x (s.bs i)) (up==decide (0<s.T i e))=ξ g/\ρ=g/ab ((s.T i e:Rat)/s.d):=p;refine⟨b.step l h.he o ⟨h.row b f l,?_⟩,λj y=>?_⟩;rw[Qd b h.he Z,w,tE ((b.toPB.sgn (t:=s.T i e)).2.1 o)];exact TI v;show inBd lo hi (Ka s.bs i (s.nb e) j) (Kk s e (ρ*Kj up) (m+1) (Ka s.bs i (s.nb e) j));by_cases q:j=i;rw[q,qM,qU b.toPB h.he Cy];exact h.own b f;rw[vi q];exact h.row b f y
theorem OptS.desc(h:OptS n m lo hi s e up r ρ)(l:PInv n m a lo hi L s):∃k,k<0/\Kk s e (ρ*Kj up) (m+1) (n+m)=s.x (n+m)+k*ρ:=by
 have f:=mQ (δ:=ρ*Kj up) l.toPB h.he (Ej (m+1)) (Fv m);rw[l.bm]at f;have b:=h.im;unfold ent at b;have o:=l.toPB.sgn (t:=s.T m e);cases up with
 |true=>
  rw[Cw rfl]at b;exact⟨_,o.2.2 b.1,f.trans (by show _+_*(ρ*1)=_;rw[FB])⟩
 |false=>
  rw[Cv EL]at b;have:=o.1.1 aD;exact⟨-((s.T m e:Rat)/s.d),aD,f.trans (by show _+_*(ρ* -1)=_;grind)⟩
def mvx0:∀k,Kk s e 0 k=s.x
 |0=>by
  funext v;show Ka _ _ _ v=_;unfold Ka;split
  .next h=>rw[h,FY]
  rfl
 |k+1=>by
  show Ka (Kk s e 0 k) _ _=_;rw[mvx0 k];funext v;unfold Ka;split
  .next h=>rw[h,FJ,FY]
  rfl
def odOf(m:Nat)(s:PS)(e:Nat)(up:Bool)(i:Nat):OD:=⟨s.x,KG m s.bs,s.nb,λc=>(s.T m c:Rat),s.d,e,s.bs i,λv=>Kk s e (Kj up) (m+1) v-s.x v⟩
def bn:impr lo hi (odOf m s e up i) c↔∃u,ent m lo hi s u c:=by
 have f:((s.T m c:Rat)<0↔s.T m c<0):=by rw[show(0:Rat)=((0:Int):Rat)from rfl];exact GT
 have l:((0:Rat)<(s.T m c:Rat)↔0<s.T m c):=FR;constructor;rintro(⟨b,d⟩|⟨b,d⟩);exact⟨φ,f.1 b,d⟩;exact⟨χ,l.1 b,d⟩;rintro⟨u,q⟩;cases u with
 |true=>exact .inl ⟨f.2 q.1,q.2⟩
 |false=>exact .inr ⟨l.2 q.1,q.2⟩
theorem OptS.stp(h:OptS n m lo hi s e up (ξ i) 0)(w:PInv n m a lo hi L s)(K:Feas m lo hi s){G:OD}(Z3:∀v,G.B v↔KG m (optN m s e up (ξ i) 0).bs v)(hx:∀v,v<n+m->G.x v=s.x v):StepO n (n+m) (n+m) L lo hi (odOf m s e up i) G:=by
 have b:=w.toPB;obtain⟨D,J,g,H,h4⟩:i<m/\s.T i e≠0/\∃g,rm lo hi (s.bs i) (s.x (s.bs i)) (up==decide (0<s.T i e))=ξ g/\0=g/ab ((s.T i e:Rat)/s.d):=h.ch;have M:=b.bv i D;have Z1:Kk s e (Kj up) (m+1) (s.nb e)-s.x (s.nb e)=Kj up:=by rw[qU b h.he Cy];grind
 have F:∀j,j<m->Kk s e (Kj up) (m+1) (s.bs j)-s.x (s.bs j)=ab ((s.T j e:Rat)/s.d)*Kj (up==decide (0<s.T j e)):=λj A=>(by have:=Qd (ρ:=1) (up:=up) w h.he (i:=j) Z;grind);have P:g=0:=(by have:=tE (g:=g) ((b.sgn (t:=s.T i e)).2.1 J);grind);subst P;refine⟨h.he,λc o=>⟨w.nB o,b.nv c o⟩,λv p I=>(b.cov v p).resolve_right I,b.inj,⟨⟨i,D,ω⟩,M⟩,λv=>(Z3 v).trans (b.Bpiv D v),λv p=>hx v p,b.dpos,λy hy=>?_,(bn).2 ⟨up,h.im⟩,λc o S q=>?_,Tv b _ _ (w.mvL h.he) w.xL,?_,λc o N=>?_,?_,λv p I=>?_⟩;have:=(b.rep y).1 hy m Cy;rw[b.bm]at this;exact this;have⟨u,q⟩:=(bn).1 q;exact h.sm c o S u q;show(s.T m e:Rat)*(Kk s e (Kj up) (m+1) (s.nb e)-s.x (s.nb e))<0;rw[Z1];have f:=h.im;unfold ent at f;cases up with
 |true=>
  rw[Cw rfl]at f;have:(s.T m e:Rat)<0:=by rw[show(0:Rat)=((0:Int):Rat)from rfl];exact GT.2 f.1
  show _*(1:Rat)<0;grind
 |false=>
  rw[Cv EL]at f;have:(0:Rat)<(s.T m e:Rat):=FR.2 f.1;show _*(-1:Rat)<0;grind
 show Kk s e (Kj up) (m+1) (s.nb c)-s.x (s.nb c)=0;rw[qT b h.he o N Cy];grind;show(0<Kk s e (Kj up) (m+1) (s.bs i)-s.x (s.bs i)->_)/\(Kk s e (Kj up) (m+1) (s.bs i)-s.x (s.bs i)<0->_);rw[F i D];have hk:=lk ((b.sgn (t:=s.T i e)).2.1 J);generalize (up==decide (0<s.T i e))=u at H;cases u with
 |true=>exact⟨λ_=>⟨_,NM H,by show _<=s.x (s.bs i);grind⟩,λq=>by have:ab ((s.T i e:Rat)/s.d)*1<0:=q;grind⟩
 |false=>exact⟨λq=>by have:0<ab ((s.T i e:Rat)/s.d)* -1:=q;grind,λ_=>⟨_,NN H,by show s.x (s.bs i)<=_;grind⟩⟩
 obtain⟨j,A,rfl⟩:=I;show(0<Kk s e (Kj up) (m+1) (s.bs j)-s.x (s.bs j)->cG hi (s.bs j) (s.x (s.bs j)))/\(Kk s e (Kj up) (m+1) (s.bs j)-s.x (s.bs j)<0->cS lo (s.bs j) (s.x (s.bs j)));rw[F j A];have p:s.bs j<s.bs i:=p;by_cases q:s.T j e=0;rw[q,ab_z,Fe];grind;have hk:=lk ((b.sgn (t:=s.T j e)).2.1 q);have C:∀g,rm lo hi (s.bs j) (s.x (s.bs j)) (up==decide (0<s.T j e))=ξ g->g≠0:=λg Z0 q0=>(by have:=h.mn (ξ j) 0 ⟨A,q,g,Z0,by rw[q0,pO]⟩;obtain q|⟨_,q⟩:=this;exact Cu q Gu;have:s.bs i<=s.bs j:=q;omega);generalize (up==decide (0<s.T j e))=u at C;cases u with
 |true=>
  refine⟨λ_ u Z4=>?_,λq=>by have:ab ((s.T j e:Rat)/s.d)*1<0:=q;grind⟩;have V:=C _ (TC Z4);have W:=(K j A).2 u Z4;grind
 |false=>
  refine⟨λq=>by have:0<ab ((s.T j e:Rat)/s.d)* -1:=q;grind,λ_ l R=>?_⟩;have V:=C _ (TE R);have W:=(K j A).1 l R;grind
theorem OptS.own0(h:OptS n m lo hi s e up θ 0):False:=by
 have b:=h.im;have d:rm lo hi (s.nb e) (s.x (s.nb e)) up=ξ 0:=h.ch;unfold ent at b;cases up with
 |true=>have:=b.2 _ (NM d);grind
 |false=>have:=b.2 _ (NN d);grind
theorem zmy(p)(τ:Nat->PS)(hp:0<p)(hs:∀q,q<p->Tw n m a lo hi L (τ q) (τ (q+1)))(hκ:KV m lo hi (τ p) (n+m)=KV m lo hi (τ 0) (n+m)):False:=by
 have hI:∀q,q<=p->PInv n m a lo hi L (τ q):=λq hq=>(by by_cases h:q=p;have⟨h1,hF,e,up,r,ρ,h2,h3⟩:=hs (p-1) Z;rw[show p-1+1=q by omega]at h3;rw[h3];exact(h2.inv h1 hF).1;exact(hs q Z).1);have hsame:=(hI p Cy).same (hI 0 Z) hκ;have hdesc:∀q,q<p->(τ (q+1)).x (n+m)<=(τ q).x (n+m):=λq hq=>(by have⟨h1,hF,e,up,r,ρ,h2,h3⟩:=hs q hq;have⟨k,hk,h4⟩:=h2.desc h1;have h5:=h2.nn h1 hF;rw[h3];show Kk (τ q) e (ρ*Kj up) (m+1) (n+m)<=_;rw[h4];have:=ID (show 0<= -k by grind) h5;grind);have hle:∀q,q<=p->(τ q).x (n+m)<=(τ 0).x (n+m)/\(τ p).x (n+m)<=(τ (p-q)).x (n+m):=λq=>by
  induction q with
  |zero=>intro _;exact⟨FN,FN⟩
  |succ q ih=>
   grind
 have hall:∀q,q<=p->(τ q).x (n+m)=(τ 0).x (n+m):=λq hq=>(by have h1:=(hle q hq).1;have h2:=(hle (p-q) Z).2;rw[show p-(p-q)=q by omega,hsame.2 _ Cy]at h2;grind);have hc:∀i,∃D:OD,D.x=(τ (i%p)).x/\D.B=KG m (τ (i%p)).bs/\(∀v,(τ (i%p+1)).x v=(τ (i%p)).x v)/\∀D':OD,(∀v,D'.B v↔KG m (τ (i%p+1)).bs v)->(∀v,v<n+m->D'.x v=(τ (i%p)).x v)->StepO n (n+m) (n+m) L lo hi D D':=λi=>by
  have hm:=Dz i hp;have⟨h1,hF,e,up,r,ρ,h2,h3⟩:=hs (i%p) hm;have⟨k,hk,h4⟩:=h2.desc h1;have h5:=h2.nn h1 hF;have h6:(τ (i%p+1)).x (n+m)=(τ (i%p)).x (n+m)+k*ρ:=by rw[h3];exact h4
  rw[hall _ Z,hall _ Z]at h6;have h7:ρ=0:=by grind
  subst h7;cases r with
  |none=>exact Cu h2.own0 id
  |some j=>
   refine⟨_,ω,ω,λv=>?_,λD' hB hx=>h2.stp h1 hF (by rw[<-h3];exact hB) hx⟩;rw[h3];show Kk (τ (i%p)) e (0*Kj up) (m+1) v=_;rw[Fe,mvx0]
 have⟨F,hF⟩:=FQ hc;let f:=λi=>F (i%p);have hf:∀i,(f i).x=(τ (i%p)).x/\(f i).B=KG m (τ (i%p)).bs/\(∀v,(τ (i%p+1)).x v=(τ (i%p)).x v)/\∀D':OD,(∀v,D'.B v↔KG m (τ (i%p+1)).bs v)->(∀v,v<n+m->D'.x v=(τ (i%p)).x v)->StepO n (n+m) (n+m) L lo hi (f i) D':=λi=>(by have:=hF (i%p);rw[ap7]at this;exact this);refine zp4 (n:=n) (V:=n+m) (obj:=n+m) (L:=L) (lo:=lo) (hi:=hi) (f:=f) hp (λi=>?_) λi=>?_;have h1:=hf i;have h2:=hf (i+1);have hm:=Dz i hp;refine h1.2.2.2 _ ?_ ?_;intro v;rw[h2.2.1];by_cases q:i%p+1=p;grind [vz];rw[(vz i hp).2 q];intro v hv;rw[h2.1,<-h1.2.2.1 v];by_cases q:i%p+1=p;grind [vz];rw[(vz i hp).2 q];show F ((i+p)%p)=F (i%p);rw[ac7]
end
end
section
variable{n m e r:Nat}{a:Nat->Nat->Int}{lo hi:Nat->Option Rat}{L:(Nat->Rat)->Prop}{s:PS}{up low:Bool}
def aE{t:Int}:(t:Rat)<0↔t<0:=by rw[show(0:Rat)=((0:Int):Rat)from rfl];exact GT
end
theorem bV:∀{n:Nat} {A:Nat->Nat->Int} {M P k:Nat},k<n->(∀i j,i<n->j<n->i≠k->(A i j).natAbs<=M)->(∀j,j<n->(A k j).natAbs<=P)->(Kf n A).natAbs<=KD n*(M^(n-1)*P):=by
 intro n;induction n with
 |zero=>intro A M P k h;omega
 |succ n ih=>
  intro A M P k p h c;have l:(sm (n+1) λr=>LP r*A r 0*Kf n λi j=>A (sk r i) (j+1)).natAbs<=(n+1)*(KD n*(M^n*P)):=cD λr o=>(by rw[Dl,Dl,Tp,EM];by_cases e:r=k;subst e;have b:(Kf n λi j=>A (sk r i) (j+1)).natAbs<=KD n*M^n:=df λi j hi d=>h _ _ Bq Z Tk;have:=C6 (c 0 Z) b;rw[show KD n*(M^n*P)=P*(KD n*M^n)by grind];exact this;have u:0<n:=Z;have b:(Kf n λi j=>A (sk r i) (j+1)).natAbs<=KD n*(M^(n-1)*P):=ih (k:=ks r k) (by unfold ks;split<;>omega) (λi j hi d f=>h _ _ Bq Z λq=>f ((P0 e).1 q)) λj d=>(by have q:sk r (ks r k)=k:=(P0 e).2 rfl;show(A (sk r (ks r k)) (j+1)).natAbs<=P;rw[q];exact c _ Z);have:=C6 (h r 0 o Z e) b;refine CU this (Nat.le_of_eq ?_);rw[show M^n=M^(n-1)*M by rw[<-C5];congr 1;omega];grind);show(sm (n+1) _).natAbs<=(n+1)*KD n*(M^n*P);rw[Di];exact l
def pr(κ:Nat->Int):Nat->Int
 |0=>1
 |n+1=>pr κ n*κ n
def TJ{κ}:∀{n:Nat},(∀c,c<n->0<κ c)->0<pr κ n
 |0,_=>show(0:Int)<1 by decide
 |n+1,h=>Hf (TJ λc hc=>h c Z) (h n Z)
def bU{n}(A){k}(b:k<n)(q)(u):Kf n (rw' A k λj=>q*u j)=q*Kf n (rw' A k u):=by have h:=nj A k q 0 u u b;simp only[Gn,It]at h;exact h
theorem ni{n}(A)(κ):Kf n (λi j=>κ i*A i j)=pr κ n*Kf n A:=by
 have h:∀p,p<=n->Kf n (λi j=>if i<p then κ i*A i j else A i j)=pr κ p*Kf n A:=by
  intro p;induction p with
  |zero=>intro _;simp only[DM,if_false];show _=1*_;rw[JD]
  |succ p ih=>
   intro f;have d:=bU (n:=n) (λi j=>if i<p then κ i*A i j else A i j) (k:=p) Z (κ p) (A p);have b:(λi j=>if i<p+1 then κ i*A i j else A i j)=rw' (λi j=>if i<p then κ i*A i j else A i j) p (λj=>κ p*A p j):=(by funext i j;unfold rw';by_cases q:i=p;rw[Cw q,Cw Z,q];rw[Cv q];show _=if i<p then _ else _;by_cases q2:i<p;rw[Cw q2,Cw Z];rw[Cv q2,Cv Z]);have c:rw' (λi j=>if i<p then κ i*A i j else A i j) p (A p)=λi j=>if i<p then κ i*A i j else A i j:=(by funext i j;unfold rw';by_cases q:i=p;rw[Cw q];show _=if i<p then _ else _;rw[Cv Z,q];rw[Cv q]);rw[b,d,c,ih Z];show _=pr κ p*κ p*_;grind
 rw[<-h n Cy];exact Nj λi j hi _=>(Cw hi).symm
theorem TK{n}{f}:((sm n f:Int):Rat)=Kb n λc=>(f c:Rat):=by induction n<;>simp_all [sm,Kb,Rat.intCast_add]
theorem vert{n}{A:Nat->Nat->Int}{d}{k z:Nat->Int}{x:Nat->Rat}{f t:Nat->Int}{y}(G:d≠0)(H:∀c,c<n->(k c:Rat)*x c=z c)(u:∀j,j<n->d*f j=sm n λc=>t c*A c j)(w:(d:Rat)*y=Kb n λc=>(t c:Rat)*x c):((Kf n λc j=>k c*A c j:Int):Rat)*y=((sm n λc=>Kf n (rw' (λc j=>k c*A c j) c f)*z c:Int):Rat):=by
 have o:(d:Rat)≠0:=λe=>G (El.1 e);apply wu o;rw[ni,TK,<-wL,show(d:Rat)*(((pr k n*Kf n A:Int):Rat)*y)=((pr k n*Kf n A:Int):Rat)*((d:Rat)*y)by grind,w,<-wL];refine yg λc b=>?_;have B:=P1 (A:=A) b u;have l:=bU (λc j=>k c*A c j) b (k c) f;have p:rw' (λc j=>k c*A c j) c (λj=>k c*f j)=λi j=>k i*rw' A c f i j:=by grind [rw']
 rw[p,ni]at l;have C:=H c b;have D:((pr k n*Kf n (rw' A c f):Int):Rat)=((k c*Kf n (rw' (λc j=>k c*A c j) c f):Int):Rat):=by rw[l]
 have F:((d*Kf n (rw' A c f):Int):Rat)=((t c*Kf n A:Int):Rat):=by rw[B]
 rw[Du,Du]at D F;rw[Du,Du,<-C];generalize ((Kf n (rw' (λc j=>k c*A c j) c f):Int):Rat)=X at*;generalize ((Kf n (rw' A c f):Int):Rat)=Z3 at*;generalize ((Kf n A:Int):Rat)=Z0 at*;generalize ((pr k n:Int):Rat)=K at*;grind
section
variable{n m:Nat}{a:Nat->Nat->Int}{L:(Nat->Rat)->Prop}{t:PT}
structure Vtx (n m:Nat)(a:Nat->Nat->Int)(x:Nat->Rat)(M:Nat)(D:Int):Prop where
 pos:0<D
 le:D.natAbs<=KD n*M^n
 val:∀v,v<=n+m->∀P,(∀j,j<n->(a v j).natAbs<=P)->∃N:Int,(D:Rat)*x v=N/\N.natAbs<=n*(KD n*(M^(n-1)*P)*M)
theorem PB.vtx(h:PB n m a L t)(hx:L x){k z:Nat->Int}(hk:∀c,c<n->0<k c)(hz:∀c,c<n->(k c:Rat)*x (t.nb c)=z c)(hM:∀c,c<n->∀j,j<n->(k c*a (t.nb c) j).natAbs<=M)(hzM:∀c,c<n->(z c).natAbs<=M):∃D,Vtx n m a x M D:=by
 have hd:t.d≠0:=by have:=h.tab.dp;omega
 let R:Nat->Nat->Int:=λc j=>k c*a (t.nb c) j;have hR:Kf n R≠0:=(by show Kf n (λc j=>k c*a (t.nb c) j)≠0;rw[ni (λc=>a (t.nb c)) k];have h1:=TJ hk;intro q;obtain q|q:=Int.mul_eq_zero.1 q;omega;have:=h.tab.dd;omega);have hv:∀v,v<=n+m->∃f:Nat->Int,(∀j,j<n->t.d*a v j=sm n λc=>f c*a (t.nb c) j)/\(t.d:Rat)*x v=Kb n λc=>(f c:Rat)*x (t.nb c):=λv hv=>(by have hb:∀i,i<=m->t.bs i=v->∃f:Nat->Int,(∀j,j<n->t.d*a v j=sm n λc=>f c*a (t.nb c) j)/\(t.d:Rat)*x v=Kb n λc=>(f c:Rat)*x (t.nb c):=λi hi q=>(by subst q;exact⟨t.T i,h.tab.rep i hi,(h.rep x).1 hx i hi⟩);by_cases q:v=n+m;exact hb m Cy (h.bm.trans q.symm);obtain⟨c,hc,rfl⟩|⟨i,hi,q⟩:=h.cov v Z;refine⟨λc'=>if c'=c then t.d else 0,λj hj=>?_,?_⟩;rw[jF hc λc' _ hne=>by show(if c'=c then t.d else 0)*_=_;rw[Cv hne,Gn]];show _=(if c=c then t.d else 0)*_;rw[Cw rfl];rw[Qa hc λc' _ hne=>by show(((if c'=c then t.d else 0:Int)):Rat)*_=0;rw[Cv hne];show(0:Rat)*_=0;grind];show _=((if c=c then t.d else 0:Int):Rat)*_;rw[Cw rfl];exact hb i Z q);have hcD:(Kf n R).natAbs<=KD n*M^n:=df λi j hi hj=>hM i hi j hj;have hval:∀v,v<=n+m->∀P,(∀j,j<n->(a v j).natAbs<=P)->∃N:Int,((Kf n R:Int):Rat)*x v=N/\N.natAbs<=n*(KD n*(M^(n-1)*P)*M):=λv hvv P hP=>(by have⟨f,h1,h2⟩:=hv v hvv;refine⟨_,vert (A:=λc=>a (t.nb c)) (x:=λc=>x (t.nb c)) hd hz h1 h2,cD λc hc=>?_⟩;rw[Dl];refine C6 (bV hc (λi j hi hj hne=>?_) λj hj=>?_) (hzM c hc);show(rw' R c (a v) i j).natAbs<=M;unfold rw';rw[Cv hne];exact hM i hi j hj;show(rw' R c (a v) c j).natAbs<=P;unfold rw';rw[Cw rfl];exact hP j hj);by_cases hp:0<Kf n R;exact⟨Kf n R,hp,hcD,hval⟩;refine⟨-Kf n R,Z,Z,λv hvv P hP=>?_⟩;have⟨N,h1,h2⟩:=hval v hvv P hP;refine⟨-N,?_,Z⟩;rw[Il,Il,<-h1];grind
def PB.bT(h:PB n m a L t)(o:∀v,v<n+m->∀j,j<n->(a v j).natAbs<=M){i c}(hi:i<=m)(d:c<n)(p:∀j,j<n->(a (t.bs i) j).natAbs<=P):(t.T i c).natAbs<=KD n*(M^(n-1)*P):=by
 have w:(Kf n (rw' (λc=>a (t.nb c)) c (a (t.bs i)))).natAbs<=KD n*(M^(n-1)*P):=bV d (λu j f b l=>by unfold rw';rw[Cv l];exact o _ (h.nv u f) j b) λj b=>by unfold rw';rw[Cw rfl];exact p j b
 obtain e|e:=h.tab.ent hi d<;>rw[e]<;>omega
def PB.bD(h:PB n m a L t)(f:∀v,v<n+m->∀j,j<n->(a v j).natAbs<=M):t.d.natAbs<=KD n*M^n:=by have o:(Kf n (λc=>a (t.nb c))).natAbs<=KD n*M^n:=df λp j b l=>f _ (h.nv _ b) j l;obtain e|e:=h.tab.dd<;>omega
end
def L0(n m:Nat)(a:Nat->Nat->Int)(y:Nat->Rat):Prop:=∀i,i<=m->y (n+i)=Kb n λj=>(a (n+i) j:Rat)*y j
def PB.ini{n m}{a:Nat->Nat->Int}(f:∀v j,v<n->j<n->a v j=if v=j then 1 else 0):PB n m a (L0 n m a) ⟨λc=>c,λi=>n+i,λi c=>a (n+i) c,1⟩:=by refine⟨⟨Int.one_pos,.inl ?_,λi hi j b=>?_⟩,λc d=>?_,λi hi=>?_,ω,λc p _ _ h=>h,λi o _ _ h=>?_,λc i d hi h=>?_,λv u=>?_,λy=>⟨λh i hi=>?_,λh i hi=>?_⟩⟩;exact(Nj λi j hi b=>f i j hi b).trans (znx n);show 1*a (n+i) j=sm n λc=>a (n+i) c*a c j;rw[jF b λc d l=>by rw[f c j d b,Cv l,GS],f j j b b,Cw rfl];omega;show c<n+m;omega;show n+i<n+m;omega;have h:n+i=n+o:=h;omega;have h:c=n+i:=h;omega;by_cases q:v<n;exact .inl ⟨v,q,ω⟩;exact .inr ⟨v-n,Z,show n+(v-n)=v by omega⟩;show(1:Rat)*y (n+i)=_;rw[ag0];exact h i hi;have h:(1:Rat)*y (n+i)=Kb n λc=>(a (n+i) c:Rat)*y c:=h i hi;rw[ag0]at h;exact h
structure Bnd (n m:Nat)(a:Nat->Nat->Int)(lo hi:Nat->Option Rat)(M N:Nat):Prop where
 aM:∀v,v<n+m->∀j,j<n->(a v j).natAbs<=M
 bq:∀v,v<n+m->∀q,(lo v=ξ q\/hi v=ξ q\/q=0)->∃k z:Int,0<k/\(k:Rat)*q=z/\k.natAbs<=N/\z.natAbs<=N/\∀j,j<n->(k*a v j).natAbs<=N
def vN(n M N:Nat):Nat:=n*(KD n*(N^(n-1)*M)*N)
def vD(n N:Nat):Nat:=KD n*N^n
section
variable{n m e i:Nat}{a:Nat->Nat->Int}{lo hi:Nat->Option Rat}{L:(Nat->Rat)->Prop}{t:PT}{s:PS}
def PB.vtxB(h:PB n m a L t)(b:Bnd n m a lo hi M N)(hx:L x)(hb:∀c,c<n->lo (t.nb c)=ξ (x (t.nb c))\/hi (t.nb c)=ξ (x (t.nb c))\/x (t.nb c)=0):∃D,Vtx n m a x N D:=by have l:∀c,∃kz:Int×Int,c<n->0<kz.1/\(kz.1:Rat)*x (t.nb c)=kz.2/\kz.1.natAbs<=N/\kz.2.natAbs<=N/\∀j,j<n->(kz.1*a (t.nb c) j).natAbs<=N:=λc=>(by by_cases d:c<n;have⟨k,z,l,o,p,u,w⟩:=b.bq _ (h.nv c d) _ (hb c d);exact⟨(k,z),λ_=>⟨l,o,p,u,w⟩⟩;exact⟨(1,0),λq=>Cu q d⟩);have⟨F,f⟩:=FQ l;exact h.vtx hx (k:=λc=>(F c).1) (z:=λc=>(F c).2) (λc d=>(f c d).1) (λc d=>(f c d).2.1) (λc d=>(f c d).2.2.2.2) λc d=>(f c d).2.2.2.1
theorem Lh.b{v}{q}(h:Lh lo hi v q):lo v=ξ q\/hi v=ξ q\/q=0:=by cases h<;>grind
def PInv.vtx(h:PInv n m a lo hi L s)(b:Bnd n m a lo hi M N):∃D,Vtx n m a s.x N D:=
 h.toPB.vtxB b h.xL λc d=>(h.bd c d).2.b
def QB(A B:Nat)(q:Rat):Prop:=∃x y:Int,0<y/\(y:Rat)*q=x/\x.natAbs<=A/\y.natAbs<=B
def Vtx.qb{D}(h:Vtx n m a x N D){v}(hv:v<=n+m)(d:∀j,j<n->(a v j).natAbs<=P):QB (vN n P N) (vD n N) (x v):=by have⟨z,b,c⟩:=h.val v hv P d;exact⟨z,D,h.pos,b,c,h.le⟩
theorem QB.sub{A B f c}{p q}(h:QB A B p)(h':QB f c q):QB (A*c+f*B) (B*c) (p-q):=by have⟨x,y,D,F,G,w⟩:=h;have⟨C,d,l,o,u,b⟩:=h';refine⟨x*d-C*y,y*d,Hf D l,?_,?_,?_⟩;rw[Du,ah2,Du,Du,<-F,<-o];grind;have:=ac8 (x*d) (C*y);have H:=C6 G b;have I:=C6 u w;rw[Dl,Dl]at this;omega;rw[Dl];exact C6 w b
def Bnd.qb(b:Bnd n m a lo hi M N){v}(hv:v<n+m)(o:lo v=ξ q\/hi v=ξ q\/q=0):QB N N q:=by have⟨k,z,c,d,f,l,p⟩:=b.bq v hv q o;exact⟨z,k,c,d,l,f⟩
theorem PInv.stp(h:PInv n m a lo hi L s)(b:Bnd n m a lo hi M N)(f:e<n)(o:i<m)(u:s.T i e≠0)(l:lo (s.bs i)=ξ q\/hi (s.bs i)=ξ q):QB (vN n M N*N+N*vD n N) (vD n N*N) ((q-s.x (s.bs i))/((s.T i e:Rat)/s.d)):=by have F:=h.toPB.piv o f u;have⟨D,C⟩:=F.vtxB (x:=Kk s e ((q-s.x (s.bs i))/((s.T i e:Rat)/s.d)) (m+1)) b (h.mvL f) λc w=>(by by_cases hce:c=e;rw[show(s.toPT.piv i e).nb c=s.bs i from by rw[hce];exact qM,repX h.toPB f o u,show s.x (s.bs i)+(q-s.x (s.bs i))=q by grind];obtain l|l:=l;exact .inl l;exact .inr (.inl l);rw[show(s.toPT.piv i e).nb c=s.nb c from vi hce,qT h.toPB f w hce Cy];exact(h.bd c w).2.b);have A:=C.qb (v:=s.nb e) (by have:=h.nv e f;omega) (b.aM _ (h.nv e f));have B:=b.qb (h.nv e f) ((h.bd e f).2.b);have p:=A.sub B;rw[qU h.toPB f Cy]at p;rw[show(q-s.x (s.bs i))/((s.T i e:Rat)/s.d)=s.x (s.nb e)+(q-s.x (s.bs i))/((s.T i e:Rat)/s.d)-s.x (s.nb e)by grind];exact p
theorem Vtx.sum{D}(h:Vtx n m a x N D){c:Nat->Rat}{K:Int}(o:0<K){w:Nat->Int}(A:∀j,(K:Rat)*c j=w j){W}(u:∀j,(w j).natAbs<=W)(p:∀v,v<n+m->∀j,j<n->(a v j).natAbs<=M):∀k,k<=n->QB (k*(W*vN n M N)) (K.natAbs*vD n N) (Kb k λj=>c j*x j):=by have b:∀j,∃z:Int,j<n->(D:Rat)*x j=z/\z.natAbs<=vN n M N:=λj=>(by by_cases d:j<n;have⟨z,b,l⟩:=h.val j Z M (p j Z);exact⟨z,λ_=>⟨b,l⟩⟩;exact⟨0,λq=>Cu q d⟩);have⟨F,f⟩:=FQ b;intro k B;refine⟨sm k λj=>w j*F j,K*D,Hf o h.pos,?_,cD λj d=>?_,?_⟩;rw[TK,<-wL];refine yg λj d=>?_;rw[Du,Du,<-A j,<-(f j Z).1];grind;rw[Dl];exact C6 (u j) (f j Z).2;rw[Dl];exact C6 Cy h.le
end
def aF(n:Nat)(z:Nat->Nat->Int)(v j:Nat):Int:=if v<n then(if v=j then 1 else 0)else z (v-n) j
def xF(n:Nat)(z:Nat->Nat->Int)(y:Nat->Rat)(v:Nat):Rat:=if v<n then y v else Kb n λj=>(z (v-n) j:Rat)*y j
def bF(n:Nat)(c r:Nat->Option Rat)(σ:Nat->Rat)(v:Nat):Option Rat:=if v<n then c v else(r (v-n)).map λq=>q*σ (v-n)
section
variable{n m i j v:Nat}{z:Nat->Nat->Int}{lo hi:Nat->Option Rat}
def nQ:aF n z (n+i) j=z i j:=by unfold aF;rw[Cv Z,ER]
def Qe(h:v<n):aF n z v j=if v=j then 1 else 0:=by unfold aF;rw[Cw h]
def jo(h:v<n):xF n z y v=y v:=by unfold xF;rw[Cw h]
def TM:xF n z y (n+i)=Kb n λj=>(z i j:Rat)*y j:=by unfold xF;rw[Cv Z,ER]
def nD{c r}(h:v<n):bF n c r σ v=c v:=by unfold bF;rw[Cw h]
def gn{c r}:bF n c r σ (n+i)=(r i).map λq=>q*σ i:=by unfold bF;rw[Cv Z,ER]
def xF_L:L0 n m (aF n z) (xF n z y):=λi _=>by
 rw[TM];exact yg λj b=>by rw[nQ,jo b]
def iniS(n:Nat)(z:Nat->Nat->Int)(y:Nat->Rat):PS:=⟨⟨λc=>c,λi=>n+i,z,1⟩,xF n z y⟩
def zih(hb:∀c,c<n->inBd lo hi c (y c)/\Lh lo hi c (y c)):PInv n m (aF n z) lo hi (L0 n m (aF n z)) (iniS n z y):=by
 have h:=PB.ini (n:=n) (m:=m) (a:=aF n z) λv j d _=>Qe d;have e:(λi c=>aF n z (n+i) c)=z:=by funext i c;exact nQ
 rw[e]at h;refine⟨h,xF_L,λc b=>?_⟩;show inBd lo hi c (xF n z y c)/\Lh lo hi c (xF n z y c);rw[jo b];exact hb c b
structure ScF (n DB M:Nat)(f:Nat->Rat)(z:Nat->Int)(σ:Rat):Prop where
 pos:0<σ
 eq:∀j,j<n->(z j:Rat)=σ*f j
 ex:∃D g:Nat,0<D/\0<g/\σ*(g:Rat)=(D:Rat)/\D<=DB/\g<=M/\∀j,j<n->g*(z j).natAbs<=M
structure NE (E P:Nat)(q:Rat):Prop where
 den:q.den<=E
 num:q.num.natAbs<=P
def LQ(q):(q.den:Rat)*q=(q.num:Rat):=by
 have c:(q.den:Rat)≠0:=λe=>q.den_nz (HG.1 e);have d:q=(q.num:Rat)/(q.den:Rat):=by rw[<-Rat.mkRat_eq_div,Rat.mkRat_self]
 have b:=Fi (a:=(q.num:Rat)) c;rw[<-d]at b;rw[FZ];exact b
theorem zn8{P}{f:Nat->Nat->Rat}(Z1:∀i,i<m->ScF n DB M (f i) (z i) (σ i))(hM:1<=M)(H:1<=E)(l:E*M<=N)(I:P*DB<=N)(V:E<=N)(Z3:P<=N)(J:∀v,v<n->∀q,cl v=ξ q\/ch v=ξ q->NE E P q)(R:∀i,i<m->∀q,rl i=ξ q\/rh i=ξ q->NE E P q):Bnd n m (aF n z) (bF n cl rl σ) (bF n ch rh σ) M N:=by
 have W:M<=N:=CU (Ep M H) l;refine⟨λv Z4 j o=>?_,λv Z4 q u=>?_⟩;by_cases h:v<n;rw[Qe h];split<;>omega;obtain⟨i,rfl⟩:∃i,v=n+i:=⟨v-n,Z⟩;have⟨D,g,_,K,_,_,_,c⟩:=(Z1 i Z).ex;rw[nQ];exact CU (Ep _ K) (c j o);have w:∀q,NE E P q\/q=0->∃k s:Int,0<k/\(k:Rat)*q=s/\k.natAbs<=E/\s.natAbs<=P:=λq h=>(by obtain h|rfl:=h;refine⟨q.den,q.num,AL,?_,by have:=h.den;omega,h.num⟩;rw[Dj];exact LQ q;exact⟨1,0,by decide,FJ _,H,Cz⟩);by_cases h:v<n;rw[nD h,nD h]at u;have⟨k,s,A,B,C,F⟩:=w q (by
  obtain b|b|b:=u;exact .inl (J v h q (.inl b));exact .inl (J v h q (.inr b));exact .inr b)
 refine⟨k,s,A,B,Z,Z,λj o=>?_⟩;rw[Qe h];split;rw[Int.mul_one];omega;rw[GS];exact HA _;obtain⟨i,rfl⟩:∃i,v=n+i:=⟨v-n,Z⟩;have hi:i<m:=Z;rw[gn,gn]at u;have⟨D,g,Z0,K,A,B,C,F⟩:=(Z1 i hi).ex;obtain⟨p,T,rfl⟩:∃p,(NE E P p\/p=0)/\q=p*σ i:=(by obtain b|b|b:=u;have⟨p,c,d⟩:=En.1 b;exact⟨p,.inl (R i hi p (.inl c)),d.symm⟩;have⟨p,c,d⟩:=En.1 b;exact⟨p,.inl (R i hi p (.inr c)),d.symm⟩;exact⟨0,.inr ω,by rw[b,Fe]⟩);have⟨k,s,c,d,G,S⟩:=w p T;refine⟨k*g,s*D,Hf c Z,?_,?_,?_,λj o=>?_⟩;rw[Du,Du,<-d,Dj,Dj,<-A];grind;rw[Dl,CR];exact CU (C6 G C) l;rw[Dl,CR];exact CU (C6 S B) I;rw[nQ,Int.mul_assoc,Dl,Dl,CR];exact CU (C6 G (F j o)) l
theorem TN{f:Nat->Rat}{ζ:Nat->Int}{s}(h:∀j,j<n->(ζ j:Rat)=s*f j):(Kb n λj=>(ζ j:Rat)*y j)=s*Kb n λj=>f j*y j:=by grind [wL,yg]
def zp0{f:Nat->Rat}{w}{s}(b:L0 n m (aF n z) w)(c:∀j,j<n->(z m j:Rat)=s*f j):w (n+m)=s*Kb n λj=>f j*w j:=by rw[b m Cy,<-TN c];exact yg λj _=>by rw[nQ]
end
end Go.Proofs.YtdeaddceicfanaaGreatDoor
namespace Go.Proofs.YtdeaddceicfanaaGreatDoor
open Go Go.GL
variable{n m bs l Z1 n0 c V D T N i j r n' P b bS c1 c2 l1 l2 BB Mo len M cx lx lq fx gx c' cX m' l4 c4 l5 c5 l6 c6 l7 c7 l9 c9 f1 f2 kA lA u1 u2 p E:Nat}{h h':HF}{d d0:Sol}{A:Adr}{L:(Nat->Rat)->Prop}{q ρ g y:Rat}{e ty:TypeId}{v v0:ψ}{b1 b2 low dx sx b8 fd:Bool}{a1 a2 ax asc alo ahi aq ex a4 a5 a6 a7 a9 aA e1 aX:Option Addr}{ops:List Oper}{w Z0 ms:List Nat}{α:Type}{qs sc ob ss:List Rat}{X:CtxF}{t:TF}{Q:SV->Prop}{o:Oper}{s:List UInt8}{a0:Nat->Nat->Rat}{bf f:Int}{U':Nat->Nat->Int}{al ld:List (Nat×Nat)}{ef:List (Nat×HF×List Nat)}{ds cs rs:List SideD}{bz:List (Nat×List Int)}{S:List (List UInt8)}
section
variable{k:Nat}
def J6(l:List (Bool×Rat))(v:Nat):Option Rat:=match l[v]? with|some (φ,q)=>ξ q|_=>θ
def xI{l}{v}(h:l[v]?=ξ (φ,q)):J6 l v=ξ q:=by unfold J6;rw[h]
def pj{l}{v}(h:l[v]?=ξ (χ,q)):J6 l v=θ:=by unfold J6;rw[h]
structure SolP (n m:Nat)(d:Sol)(s:PS):Prop where
 nl:O d.nb=n
 nb:∀c,c<n->d.nb[c]?=ξ (s.nb c)
 bl:O d.ba=m
 ba:∀i,i<m->d.ba[i]?=ξ (s.bs i)
 vl:O d.va=n+m
 va:∀v,v<n+m->d.va[v]?=ξ (s.x v)
 tl:O d.ta=m+1
 ta:∀i,i<=m->∃r,d.ta[i]?=ξ r/\O r.2=n/\∀c,c<n->r.2[c]?=ξ (s.T i c)
 de:d.den=s.d
 ll:O d.lo=n+m
 lh:O d.hi=n+m
 nm:n+m<900
 ls:O d.sc=n+m
 dn:d.n=n
structure Lim (V T Z1 D B:Nat):Prop where
 l1:V+B+1<=D
 l2:T+D+V+1<=2400
 l3:D+D<=2400
 l4:T<=Z1
 l5:T+Z1+1<=2400
structure SzP (n m V T Z1 B:Nat)(d:Sol)(s:PS):Prop where
 va:∀v,v<n+m->Sz V (s.x v)
 lo:∀p∈d.lo,Sz B p.2
 hi:∀p∈d.hi,Sz B p.2
 tT:∀i,i<m->∀c,c<n->(s.T i c).natAbs<2^T
 tO:∀c,c<n->(s.T m c).natAbs<2^Z1
 dd:s.d.natAbs<2^T
section
variable{B:Nat}{s:PS}{a:Nat->Nat->Int}{lo hi:Nat->Option Rat}
def VioP(lo hi:Nat->Option Rat)(s:PS)(k:Nat)(f:Int)(g:Rat):Prop:=
 (f= -1/\∀i,i<k->inBd lo hi (s.bs i) (s.x (s.bs i)))\/∃i low,f=((i:Nat):Int)/\i<k/\Viol lo hi s i low g/\∀i',i'<k->s.bs i'<s.bs i->inBd lo hi (s.bs i') (s.x (s.bs i'))
def VioP.skip{g}(h:VioP lo hi s k (i:Int) g)(w:s.bs i<=s.bs k):VioP lo hi s (k+1) (i:Int) g:=by obtain⟨h,_⟩|⟨o,low,p,u,c,f⟩:=h;omega;obtain rfl:i=o:=Z;refine .inr ⟨i,low,ω,Z,c,λj v b=>?_⟩;by_cases e:j=k;subst e;omega;exact f j Z b
def VioP.no{f}{g}(h:VioP lo hi s k f g)(y:inBd lo hi (s.bs k) (s.x (s.bs k))):VioP lo hi s (k+1) f g:=by have c:∀j,(j<k->inBd lo hi (s.bs j) (s.x (s.bs j)))->j<k+1->inBd lo hi (s.bs j) (s.x (s.bs j)):=λj h b=>(by by_cases e:j=k;rw[e];exact y;exact h Z);obtain⟨h,o⟩|⟨C,low,u,o,v,w⟩:=h;exact .inl ⟨h,λj=>c j (o j)⟩;exact .inr ⟨C,low,u,Z,v,λj b p=>c j (λb=>w j b p) b⟩
theorem VioP.take{f}{g c}(h:VioP lo hi s k f g)(p:f= -1\/∃i:Nat,f=(i:Int)/\s.bs k<=s.bs i)(hv:Viol lo hi s k low c):VioP lo hi s (k+1) (k:Int) c:=by
 refine .inr ⟨k,low,ω,Fv _,hv,λj b w=>?_⟩;have b:j<k:=by grind
 obtain⟨h,o⟩|⟨v,low,y,o,C,u⟩:=h;exact o j b;obtain p|⟨i,e,hi⟩:=p;omega;obtain rfl:i=v:=Z;exact u j b Z
def Viol.mkL{l}(h:lo (s.bs i)=ξ l)(hx:s.x (s.bs i)<l):Viol lo hi s i φ (l-s.x (s.bs i)):=by unfold Viol;rw[Cw rfl];exact⟨l,h,hx,ω⟩
theorem Viol.mkH{u}(h:hi (s.bs i)=ξ u)(hx:u<s.x (s.bs i)):Viol lo hi s i χ (u-s.x (s.bs i)):=by unfold Viol;grind
end
section
variable{B:Nat}{s:PS}
def zcl(k)(g:GG h n0)(sm:SM l h n0 bs d A)(S:SolP n m d s)(bv:∀i,i<m->s.bs i<n+m)(sz:SzP n m V T Z1 B d s)(lm:Lim V T Z1 D B):CX (J4 (k+11)) 45 [ε bs] h n0 λw u y=>∃f q g b a l c d1 e1 f1 g1 fd,w=.tuple #[υ q,.agg #[U b,Y a l c,U d1,Y e1 f1 g1],U fd]/\IW u y b a l c g.num/\IW u y d1 e1 f1 g1 (denZ g)/\VioP (J6 d.lo) (J6 d.hi) s m f g/\(fd=φ/\0<=f/\q=f\/fd=χ/\f= -1):=by have⟨b0,a0,u0,c0,ty,st,i0⟩:=sm.st;have bf:=sm.bs.1;have bg:=S.nm;have:=lm.l1;have:=lm.l3;have vl:=S.vl;have bl:=S.bl;have ll:=S.ll;have lh:=S.lh;apply zw R4;apply(Zk);intro h1 p1 x1;apply(Zk);intro h2 p2 x2;apply(zG);apply sF (α:=Nat×Int×Rat×Bool×Option Addr×Nat×Nat×Bool×Option Addr×Nat×Nat) (λz=>[(0,ε bs),(3,ε (3*n0+2)),(5,υ z.2.1),(6,ε (3*(n0+1)+2)),(13,Y A.ba (O d.ba) (O d.ba)),(14,υ (O d.ba:Int)),(15,υ (z.1:Int))]) (λz u y w'=>w'=[]/\n0+1+1<=y/\ExtB (n0+1+1) [3*(n0+1)+2] h2 u/\u (3*(n0+1)+2)=ξ (.row [U z.2.2.2.1,Y z.2.2.2.2.1 z.2.2.2.2.2.1 z.2.2.2.2.2.2.1,U z.2.2.2.2.2.2.2.1,Y z.2.2.2.2.2.2.2.2.1 z.2.2.2.2.2.2.2.2.2.1 z.2.2.2.2.2.2.2.2.2.2] 68)/\IW u y z.2.2.2.1 z.2.2.2.2.1 z.2.2.2.2.2.1 z.2.2.2.2.2.2.1 z.2.2.1.num/\IW u y z.2.2.2.2.2.2.2.1 z.2.2.2.2.2.2.2.2.1 z.2.2.2.2.2.2.2.2.2.1 z.2.2.2.2.2.2.2.2.2.2 (denZ z.2.2.1)/\VioP (J6 d.lo) (J6 d.hi) s z.1 z.2.1 z.2.2.1/\z.1<=m) (λz=>m-z.1) (0,-1,0,χ,θ,0,0,χ,θ,0,0) ⟨ω,Cy,Ed _ _ _,p2,(EN _ _).as ω,(EN _ _).as ω,.inl ⟨ω,λi hi=>Cu hi (DM _)⟩,Cz⟩;rintro⟨j,f,r,bS,aS,lS,kS,uS,vS,wS,xS⟩ t R n3 _ ⟨rfl,y3,Y3,p3,i3,j3,hv,hj⟩;have p3:R (3*(n0+1)+2)=ξ (.row [U bS,Y aS lS kS,U uS,Y vS wS xS] 68):=p3;have i3:IW R n3 bS aS lS kS r.num:=i3;have j3:IW R n3 uS vS wS xS (denZ r):=j3;have hv:VioP (J6 d.lo) (J6 d.hi) s j f r:=hv;have hj:j<=m:=hj;have y3:n0+1+1<=n3:=y3;have X3:Exo n0 h R:=⟨λc hc=>(Y3 c Z (λe=>by have:=CV.1 e;omega)).trans ((x2 c Z).trans (x1 c hc))⟩;have s3:=sm.ext (n':=n3) X3.go Z;apply(zG);by_cases q3:(j:Int)<(O d.ba:Int);apply(zG);have H:j<m:=Z;have gv:=S.ba j H;have aj:=bv j H;have gx:=S.va _ aj;have ab:=sz.va _ aj;obtain⟨pl,P⟩:∃x,d.lo[s.bs j]?=ξ x:=⟨_,CD Z⟩;obtain⟨ph,N⟩:∃x,d.hi[s.bs j]?=ξ x:=⟨_,CD Z⟩;have⟨k4,o4,e4,m4,r4,t4⟩:=natS.at s3.ba.rs gv;apply sI e4 r4;apply sL t4 m4 0;have go:(∃i:Nat,f=(i:Int)/\i<m/\s.bs i<s.bs j)\/f= -1\/(∃i:Nat,f=(i:Int)/\i<m/\s.bs j<=s.bs i):=(by obtain⟨h1,_⟩|⟨i,low,h1,h2,R,_⟩:=hv;exact .inr (.inl h1);by_cases hw:s.bs i<s.bs j;exact .inl ⟨i,h1,Z,hw⟩;exact .inr (.inr ⟨i,h1,Z,Z⟩));apply(Zb);simp only[yu,xg,zK,yY];refine yj (λz=>[(0,ε bs),(3,ε (3*n0+2)),(5,υ f),(6,ε (3*(n0+1)+2)),(7,υ (j:Int)),(8,υ (s.bs j:Int)),(13,Y A.ba (O d.ba) (O d.ba)),(14,υ (O d.ba:Int)),(15,υ (j:Int)),(32,U z)]) (λz u y w'=>w'=[]/\R=u/\n3=y/\(z=φ/\(∃i:Nat,f=(i:Int)/\i<m/\s.bs i<s.bs j)\/z=χ/\(f= -1\/∃i:Nat,f=(i:Int)/\s.bs j<=s.bs i))) ?_ ?_;obtain⟨i,rfl,a5,hw⟩|rfl|⟨i,rfl,a5,hw⟩:=go;apply(zG);have⟨k5,o5,e5,m5,r5,t5⟩:=natS.at s3.ba.rs (S.ba i a5);apply sI e5 r5;apply sL t5 m5 0;apply(zG);exact zA φ (by(repeat (first|exact trivial|refine⟨ω,?_⟩))) ⟨ω,ω,ω,.inl ⟨ω,i,ω,a5,hw⟩⟩;apply(zG);exact zA χ (by(repeat (first|exact trivial|refine⟨ω,?_⟩))) ⟨ω,ω,ω,.inr ⟨ω,.inl AJ⟩⟩;apply(zG);have⟨k5,o5,e5,m5,r5,t5⟩:=natS.at s3.ba.rs (S.ba i a5);apply sI e5 r5;apply sL t5 m5 0;apply(zG);exact zA χ (by(repeat (first|exact trivial|refine⟨ω,?_⟩))) ⟨ω,ω,ω,.inr ⟨ω,.inr ⟨i,ω,hw⟩⟩⟩;rintro z t _ _ _⟨rfl,rfl,rfl,⟨rfl,i,rfl,a5,hw⟩|⟨rfl,ah⟩⟩;apply(zG);exact sK (j+1,(i:Int),r,bS,aS,lS,kS,uS,vS,wS,xS) ⟨ω,y3,Y3,p3,i3,j3,hv.skip Z,H⟩;apply(zG);have⟨k6,o6,b6,a6,l6,c6,d6,e6,f6,u6,ev,mv,rv,tv,iv,jv⟩:=QS.at s3.va.rs gx;apply sI ev rv;apply sL tv mv 0;apply(sA);intro h7 p7 x7;apply(zG);apply sS [U b6,Y a6 l6 c6,U d6,Y e6 f6 u6];intro h8 p8 o8;have am:=sz.lo _ (CE P);have al:=sz.hi _ (CE N);have⟨k9,o9,b9,a9,l9,c9,d9,e9,f9,g9,el,ml,rl,tl,il,jl⟩:=BS.at s3.lo.rs P;have⟨bh,bi,b7,b5,l10,b8,bb,bc,bd,be,eh,mh,rh,th,ih,jh⟩:=BS.at s3.hi.rs N;have T8:Tr n3 R (n3+1) h8:=zt;have g8:=(g.ext X3.go (by omega:n0<=n3)).t T8;have a8:=iv.t T8;have aa:=jv.t T8;apply(zG);refine yj (λz=>[(0,ε bs),(3,ε (3*n0+2)),(5,υ f),(6,ε (3*(n0+1)+2)),(7,υ (j:Int)),(8,υ (s.bs j:Int)),(9,ε (3*n3+2)),(13,Y A.ba (O d.ba) (O d.ba)),(14,υ (O d.ba:Int)),(15,υ (j:Int)),(40,U z)]) (λz u y w'=>w'=[]/\n3+1<=y/\J3 (n3+1) h8 u/\(z=φ/\(∃q,J6 d.lo (s.bs j)=ξ q/\s.x (s.bs j)<q)\/z=χ/\∀q,J6 d.lo (s.bs j)=ξ q->q<=s.x (s.bs j))) ?_ ?_;apply(zl);apply(zH);apply dI el rl;apply(zH);apply dL tl ml 0;have⟨xl,ql⟩:=pl;cases xl;apply(zJ);exact zA χ (by(repeat (first|exact trivial|refine⟨ω,?_⟩))) ⟨ω,Cy,Fy _ _,.inr ⟨ω,λq o=>by rw[pj P]at o;cases o⟩⟩;apply(zH);apply dI el rl;apply(zH);apply dL tl ml 1;apply dC (xp _ a8 aa il.t jl.t ab am Z).cx;rintro _ ap aw⟨b2,rfl,p⟩ G F;obtain⟨rfl,p⟩|⟨rfl,p⟩|⟨rfl,p⟩:=p;apply(zJ);exact zA φ (by(repeat (first|exact trivial|refine⟨ω,?_⟩))) ⟨ω,G,F,.inl ⟨ω,_,xI P,p⟩⟩;apply(zJ);exact zA χ (by(repeat (first|exact trivial|refine⟨ω,?_⟩))) ⟨ω,G,F,.inr ⟨ω,λq o=>by rw[xI P]at o;cases o;exact Hc.1 λh=>Gu (p▸h)⟩⟩;apply(zJ);exact zA χ (by(repeat (first|exact trivial|refine⟨ω,?_⟩))) ⟨ω,G,F,.inr ⟨ω,λq o=>by rw[xI P]at o;cases o;exact D9 p⟩⟩;rintro z t a4 C _⟨rfl,M,K,⟨rfl,I⟩|⟨rfl,I⟩⟩;have M:n3+1<=C:=M;have K:J3 (n3+1) h8 a4:=K;have⟨xl,ql⟩:=pl;cases xl;exfalso;have⟨q,o,_⟩:=I;rw[pj P]at o;cases o;have⟨q,o,I⟩:=I;rw[xI P]at o;cases o;apply(Zh);apply dI el rl;apply(zH);apply dL tl ml 1;apply(zH);apply dC (subQ _ g8.x il.t jl.t a8.t aa.t am ab Z);rintro _ aq ax⟨W,Z4,a7,Z3,Z0,a1,a2,a3,rfl,ae,af⟩ b4 b3;apply(zH);apply dS [U W,Y Z4 a7 Z3,U Z0,Y a1 a2 a3];intro ar ag ay;apply(zJ);exact sK (j+1,(j:Int),ql-s.x (s.bs j),W,Z4,a7,Z3,Z0,a1,a2,a3) ⟨ω,Z,zy,ag,ae.t zt,af.t zt,hv.take ah (Viol.mkL (xI P) I),H⟩;have M:n3+1<=C:=M;have K:J3 (n3+1) h8 a4:=K;have an:=a8.ext K M;have ao:=aa.ext K M;apply(zG);refine yj (λz=>[(0,ε bs),(3,ε (3*n0+2)),(5,υ f),(6,ε (3*(n0+1)+2)),(7,υ (j:Int)),(8,υ (s.bs j:Int)),(9,ε (3*n3+2)),(13,Y A.ba (O d.ba) (O d.ba)),(14,υ (O d.ba:Int)),(15,υ (j:Int)),(73,U z)]) (λz u y w'=>w'=[]/\C<=y/\J3 C a4 u/\(z=φ/\(∃q,J6 d.hi (s.bs j)=ξ q/\q<s.x (s.bs j))\/z=χ/\∀q,J6 d.hi (s.bs j)=ξ q->s.x (s.bs j)<=q)) ?_ ?_;apply(zl);apply(zH);apply dI eh rh;apply(zH);apply dL th mh 0;have⟨xh,qh⟩:=ph;cases xh;apply(zJ);exact zA χ (by(repeat (first|exact trivial|refine⟨ω,?_⟩))) ⟨ω,Cy,Fy _ _,.inr ⟨ω,λq o=>by rw[pj N]at o;cases o⟩⟩;apply(zH);apply dI eh rh;apply(zH);apply dL th mh 1;apply dC (xp _ an ao ih.t jh.t ab al Z).cx;rintro _ ap aw⟨b2,rfl,p⟩ G F;obtain⟨rfl,p⟩|⟨rfl,p⟩|⟨rfl,p⟩:=p;apply(zJ);exact zA χ (by(repeat (first|exact trivial|refine⟨ω,?_⟩))) ⟨ω,G,F,.inr ⟨ω,λq o=>by rw[xI N]at o;cases o;exact D9 p⟩⟩;apply(zJ);exact zA χ (by(repeat (first|exact trivial|refine⟨ω,?_⟩))) ⟨ω,G,F,.inr ⟨ω,λq o=>by rw[xI N]at o;cases o;exact Hc.1 λh=>Gu (p▸h)⟩⟩;apply(zJ);exact zA φ (by(repeat (first|exact trivial|refine⟨ω,?_⟩))) ⟨ω,G,F,.inl ⟨ω,_,xI N,p⟩⟩;rintro z t ai ak _⟨rfl,ad,ac,⟨rfl,J⟩|⟨rfl,J⟩⟩;have ad:C<=ak:=ad;have ac:J3 C a4 ai:=ac;have⟨xh,qh⟩:=ph;cases xh;exfalso;have⟨q,o,_⟩:=J;rw[pj N]at o;cases o;have⟨q,o,J⟩:=J;rw[xI N]at o;cases o;apply(Zh);apply dI eh rh;apply(zH);apply dL th mh 1;apply(zH);apply dC (subQ _ g8.x ih.t jh.t a8.t aa.t al ab Z);rintro _ aq ax⟨W,Z4,a7,Z3,Z0,a1,a2,a3,rfl,ae,af⟩ b4 b3;apply(zH);apply dS [U W,Y Z4 a7 Z3,U Z0,Y a1 a2 a3];intro ar ag ay;apply(zJ);exact sK (j+1,(j:Int),qh-s.x (s.bs j),W,Z4,a7,Z3,Z0,a1,a2,a3) ⟨ω,Z,zy,ag,ae.t zt,af.t zt,hv.take ah (Viol.mkH (xI N) J),H⟩;have ad:C<=ak:=ad;have ac:J3 C a4 ai:=ac;apply(zG);exact sK (j+1,f,r,bS,aS,lS,kS,uS,vS,wS,xS) ⟨ω,Z,zy,zp,i3.t zt,j3.t zt,hv.no ⟨I,J⟩,H⟩;have av:j=m:=Z;subst av;apply(Zd);obtain⟨rfl,h2⟩|⟨i,low,rfl,h2,R,h4⟩:=hv;apply(zH);apply yQ (v:=υ _) R5;apply(zH);apply dS [U bS,Y aS lS kS,U uS,Y vS wS xS];intro au b1 az;apply(zq);exact⟨-1,0,r,_,_,_,_,_,_,_,_,χ,ω,i3.t zt,j3.t zt,.inl ⟨ω,h2⟩,.inr ⟨ω,ω⟩⟩;apply(zH);apply yQ (v:=υ _) ⟨ω,ω,ω,ω,(by show ξ (υ (if((i:Nat):Int)<0 then 0 else(i:Int)))=_;rw[Cv Z])⟩;apply(zH);apply dS [U bS,Y aS lS kS,U uS,Y vS wS xS];intro au b1 az;apply(zq);exact⟨i,i,r,_,_,_,_,_,_,_,_,φ,ω,i3.t zt,j3.t zt,.inr ⟨i,low,ω,h2,R,h4⟩,.inl ⟨ω,Z,ω⟩⟩
end
end
theorem xz{x y}{m}(f:0<y)(hx:x.natAbs<2^m)(c:y.natAbs<2^m):Sz m (Dw x y):=by
 obtain⟨d,e⟩:=pt f;refine⟨?_,?_⟩
 .rw[d];exact vh hx
 have b:=vh (y:=((CZ x.natAbs y.natAbs:Nat):Int)) c;rw[<-e,CR]at b;exact b
section
variable{k:Nat}{a:Nat->Nat->Rat}{T:Nat->Nat->Int}
end
section
variable{cq:Nat}
def aQ(qs:List Rat):Nat->Nat->Rat:=λ_ j=>(qs[j]?).getD 0
def NO{qs}(h:qs[j]?=ξ q):aQ qs i j=q:=by unfold aQ;rw[h];rfl
def zmk(qs):rowQ (O qs) (aQ qs) 0=qs:=by refine Eh λj=>?_;unfold rowQ;rw[Dx];by_cases h:j<O qs;rw[GB h,CD h];show ξ (aQ qs 0 j)=_;rw[NO (CD h)];rw[Dc aD,Dc Z];rfl
def mixF{α:Type}(f g:Nat->α)(j N:Nat):List α:=(DO N).map λi=>if i<j then f i else g i
def xE{f g:Nat->α}:O (mixF f g j N)=N:=by unfold mixF;rw[CN,Ff]
theorem xG{f g:Nat->α}(h:i<N):(mixF f g j N)[i]?=ξ (if i<j then f i else g i):=by grind [mixF]
def pE{f g:Nat->α}(h:j<N):(mixF f g j N).set j (f j)=mixF f g (j+1) N:=by refine Eh λi=>?_;rw[G3,xE];by_cases h1:j=i;subst h1;rw[Cw ω,Cw h,xG h,Cw (Fv _)];rw[Cv h1];by_cases h2:i<N;rw[xG h2,xG h2];by_cases h3:i<j;rw[Cw h3,Cw Z];rw[Cv h3,Cv Z];rw[Dc A3,Dc A3]
def iA{f}{z:α}:CI N z=mixF f (λ_=>z) 0 N:=by refine Eh λi=>?_;rw[GD];by_cases h:i<N;rw[Cw h,xG h,Cv (DM _)];rw[Cv h,Dc A3]
def cW{f g b:Nat->α}:mixF f g N N=mixF b f 0 N:=by refine Eh λi=>?_;by_cases h:i<N;rw[xG h,xG h,Cw h,Cv (DM _)];rw[Dc A3,Dc A3]
def eg{a}:∀{l:List Rat} {m:Nat},(∀q∈l,q.den<2^a)->0<m->lcmD l m<=m*2^(a*O l)
 |[],m,_,_=>by
  show m<=m*2^(a*0);rw[Eo,Nat.pow_zero,DD];exact Ej _
 |q::l,m,h,hm=>by
  have h1:IS m q.den<=m*2^a:=CU (H9 (Et hm q.den_pos) (Nat.lcm_dvd (ac9 _ _) (ad9 _ _))) (C4 _ (DZ (h q D4)));have b:=eg (l:=l) (m:=IS m q.den) (λx c=>h x (EV _ c)) (Nat.lcm_pos hm q.den_pos);show lcmD l (IS m q.den)<=_;refine CU b (CU (CM _ h1) ?_);rw[DJ,DS,DD,D6,DV,Di];exact Ej _
section
variable{a:Nat}
def nk:deni (O qs) (aQ qs) 0=lcmD qs 1:=by unfold deni;rw[zmk]
def kW(d:∀q∈qs,Sz a q)(e:a*O qs+a+1<=P):deni (O qs) (aQ qs) 0<2^P:=by rw[nk];have b:=eg (l:=qs) (m:=1) (λq c=>(d q c).2) zd;rw[EM]at b;exact C7 b (Nat.pow_lt_pow_right zd Z)
def cO(d:∀q∈qs,Sz a q)(g:a*O qs+a+1<=P)(hj:j<O qs):(Kz (O qs) (aQ qs) 0 j).natAbs<2^P:=by have c:=eg (l:=qs) (m:=1) (λq b=>(d q b).2) zd;rw[EM,<-nk]at c;have b:=d _ (Ft hj);unfold Kz Ni;rw[NO (CD hj),Dl];have e:((deni (O qs) (aQ qs) 0:Nat):Int).tdiv ((qs[j]).den:Int)=((deni (O qs) (aQ qs) 0/(qs[j]).den:Nat):Int):=rfl;rw[e,CR];have f:deni (O qs) (aQ qs) 0/(qs[j]).den<=2^(a*O qs):=CU (Nat.div_le_self _ _) c;refine CS (C7 (C4 _ f) (Nat.mul_lt_mul_of_pos_right b.1 (GY _))) ?_;rw[<-DV];exact CQ zd Z
def TO(c:∀q∈qs,Sz a q)(b:a*O qs+a+1<=P)(hj:j<=O qs):KU (Kz (O qs) (aQ qs) 0) j<2^P:=by have h:=Te (f:=Kz (O qs) (aQ qs) 0) (m:=j) (B:=2^P-1) λi d=>(by have:=cO c b (j:=i) Z;omega);have:=GY P;omega
end
def scS(qs:List Rat):Rat:=if KU (Kz (O qs) (aQ qs) 0) (O qs)=0 then 1 else tS (O qs) (aQ qs) 0
structure ScR (qs:List Rat)(P:Nat)(zs:List Int)(s:Rat):Prop where
 len:O zs=O qs
 pos:0<s
 sz:Sz P s
 zb:∀z∈zs,z.natAbs<2^P
 eq:∀(j:Nat) (q:Rat) (z:Int),qs[j]?=ξ q->zs[j]?=ξ z->(z:Rat)=s*q
 fr:(s=1/\∀z∈zs,z=0)\/∃g:Nat,0<g/\s*(g:Rat)=(lcmD qs 1:Rat)/\∃z∈zs,z≠0
 ds:s=scS qs
def zik{f}:∀{m:Nat},(∀j,j<m->f j=0)->KU f m=0:=λ{m} h=>by
 have:=Te (f:=f) (m:=m) (B:=0) λj b=>by rw[h j b];exact Ej _
 omega
def ScR.mk0{qs}{a P}(v:∀q∈qs,Sz a q)(s:a*O qs+a+1<=P)(m:KU (Kz (O qs) (aQ qs) 0) (O qs)=0):ScR qs P (mixF (tT (O qs) (aQ qs) 0) (Kz (O qs) (aQ qs) 0) 0 (O qs)) 1:=by have c:∀j,j<O qs->Kz (O qs) (aQ qs) 0 j=0:=λj b=>(by have:=Td (f:=Kz (O qs) (aQ qs) 0) b;rw[m,Nat.zero_dvd]at this;omega);refine⟨xE,by decide,⟨by show 1<2^P;exact IA Z,by show 1<2^P;exact IA Z⟩,λz g=>?_,λj q z o p=>?_,.inl ⟨ω,λz g=>?_⟩,(Cw m).symm⟩;obtain⟨i,d,rfl⟩:=DL.1 g;rw[Cv (DM _),c i (GI.1 d)];exact GY _;have b:=(CK.1 o).1;rw[xG b,Cv (DM _),c j b]at p;cases p;have e:=Tc (bY (N:=O qs) (a:=aQ qs) (i:=0) b);have l:((Kz (O qs) (aQ qs) 0 j:Int):Rat)=aQ qs 0 j*(deni (O qs) (aQ qs) 0:Rat):=e;rw[c j b,NO o]at l;rw[ag0];obtain h|h:=ah3.1 l.symm;rw[h];rfl;have u:=bW (N:=O qs) (a:=aQ qs) (i:=0);have:=HG.1 h;omega;obtain⟨i,d,rfl⟩:=DL.1 g;rw[Cv (DM _),c i (GI.1 d)]
def ScR.mk1{qs}{a P}(m:∀q∈qs,Sz a q)(g:a*O qs+a+1<=P)(f:¬KU (Kz (O qs) (aQ qs) 0) (O qs)=0):ScR qs P (mixF (tT (O qs) (aQ qs) 0) (Kz (O qs) (aQ qs) 0) (O qs) (O qs)) (tS (O qs) (aQ qs) 0):=by
 have l:Lc (O qs) (aQ qs) 0=KU (Kz (O qs) (aQ qs) 0) (O qs):=by unfold Lc MI;rw[Cv f]
 have A:Lc (O qs) (aQ qs) 0<2^P:=by rw[l];exact TO m g Cy
 refine⟨xE,Tg,xz (by rw[l];omega) (by rw[CR];exact kW m g) Z,λz y=>?_,λj q z c p=>?_,.inr ⟨Lc (O qs) (aQ qs) 0,by rw[l];omega,?_,?_⟩,(Cv f).symm⟩;obtain⟨i,d,rfl⟩:=DL.1 y;have d:=GI.1 d;rw[Cw d];exact vh (cO m g d);have b:=(CK.1 c).1;rw[xG b,Cw b]at p;cases p;rw[Th b,NO c];have c:((Lc (O qs) (aQ qs) 0:Nat):Rat)≠0:=λe=>by have:=HG.1 e;omega
 rw[<-nk];unfold tS;rw[Ev,Dj,Dj];exact Fi c;refine CW λu=>f (zik λj b=>?_);have o:=Th (N:=O qs) (a:=aQ qs) (i:=0) b;have v:tT (O qs) (aQ qs) 0 j=0:=CW λs=>u ⟨_,CE ((xG b).trans (congrArg ξ (Cw b))),s⟩;rw[v]at o;have w:aQ qs 0 j=0:=(ah3.1 o.symm).resolve_left λe=>by have:=Tg (N:=O qs) (a:=aQ qs) (i:=0);rw[e]at this;exact Gu this
 unfold Kz Ni;rw[w];exact Gn _
theorem qa(k)(g:GG h n){qs}(iq:QS h n (Y aq lq cq) qs){a P}(hz:∀q∈qs,Sz a q)(hP:a*O qs+a+1<=P)(bx:P<=2496)(hL:O qs<=1000):
  CX (J4 (k+12)) 25 [Y aq lq cq] h n λw v J=>∃B zs s b a l c d e f u,w=.tuple #[Y (ξ ⟨B,0,θ⟩) lq lq,.agg #[U b,Y a l c,U d,Y e f u]]/\3*n<=B/\gro B=χ/\OZ v J B zs/\KR v B 62/\ScR qs P zs s/\IW v J b a l c s.num/\IW v J d e f u (denZ s):=by
 have c6:=iq.len;subst c6;have T:∀{x:Nat},x<2^P->x<BW:=λh=>yU h bx;apply zw R4;apply(Zk);intro h1 p1 x1;apply(zG);apply sC (zn3 _ g.x iq.x (D:=lcmD qs 1) (kt zd) (by rw[<-nk];exact T (kW hz hP)) (λq hq=>ku hq) Z);rintro _ h2 A⟨b2,a2,l2,c2,rfl,i2⟩ y2 x2;rw[<-nk]at i2;apply(sA);intro h3 p3 x3;apply sS [U b2,Y a2 l2 c2];intro h4 p4 o4;apply(zG);refine NK (L:=O qs) [U χ,η] ?_ (a:=hL);intro h5 p5 x5;apply(Zk);intro I p6 x6;apply(zG);obtain⟨V,b1⟩:∃B,B=3*A+2:=⟨_,ω⟩;obtain⟨m,ad⟩:∃B,B=3*(A+1)+2:=⟨_,ω⟩;obtain⟨H,b3⟩:∃B,B=3*(A+1+1)+2:=⟨_,ω⟩;have gB:gro m=χ:=by rw[ad];exact zB _
 have o5:OZ I (A+1+1+1) m (CI (O qs) 0):=(by rw[ad];exact(OR.fill (n:=A+1+1) Z p5 Fz ⟨_,_,_,_,ω,EN _ _⟩).xx Fz zx);have t5:KR I m 62:=⟨_,by rw[ad];exact zp⟩;have cg:I V=ξ (.row [U b2,Y a2 l2 c2] 62):=by rw[b1];exact zp
 have ce:I (3*n+2)=_:=(zp:I (3*n+2)=_);have c0:=i2.t (show Tr A h2 (A+1+1+1) I from zt);have cu:=iq.x (show Tx n h (A+1+1+1) I from zx);have g6:=g.x (show Tx n h (A+1+1+1) I from zx);have cp:Exo n h I:=⟨(show Tx n h (A+1+1+1) I from zx).2⟩;rw[<-b1,<-ad,<-b3];rw[<-b3]at p6;apply sF (α:=Nat×Bool×Option Addr×Nat×Nat) (λz=>[(3,ε (3*n+2)),(4,ε V),(5,Y (ξ ⟨m,0,θ⟩) (O qs) (O qs)),(6,ε H),(16,Y aq (O qs) cq),(17,υ (O qs:Int)),(18,υ (z.1:Int))]) (λz v J w'=>w'=[]/\(A+1+1+1)<=J/\ExtB (A+1+1+1) [m,H] I v/\OZ v J m (mixF (Kz (O qs) (aQ qs) 0) (λ_=>0) z.1 (O qs))/\KR v m 62/\v H=ξ (.row [U z.2.1,Y z.2.2.1 z.2.2.2.1 z.2.2.2.2] 62)/\IW v J z.2.1 z.2.2.1 z.2.2.2.1 z.2.2.2.2 ((KU (Kz (O qs) (aQ qs) 0) z.1:Nat):Int)/\Tr (A+1+1+1) I J v/\z.1<=O qs) (λz=>O qs-z.1) (0,χ,θ,0,0) ⟨ω,Cy,Ed _ _ _,o5.as iA,t5,p6,EN _ _,Eg _ _,Cz⟩;rintro⟨j,bC,aC,lC,cC⟩ t o F _ ⟨rfl,y7,Y7,R,a5,p7,i7,T7,hj⟩;(try dsimp only at y7 R a5 p7 i7 T7 hj);have ch:o V=_:=(Y7 V Z eP).trans cg;have be:o (3*n+2)=_:=(Y7 (3*n+2) Z eP).trans ce;have X7:Exo n h o:=⟨λc hc=>(Y7 c Z eP).trans (cp.go c hc)⟩;have b7:=c0.t T7;have ae:KU (Kz (O qs) (aQ qs) 0) j<BW:=T (TO hz hP hj);apply(zG);by_cases q7:(j:Int)<(O qs:Int);apply(zG);have G:j<O qs:=Z;obtain⟨q,gq⟩:∃q,qs[j]?=ξ q:=⟨_,CD G⟩;have⟨k8,o8,b8,a8,l8,c8,d8,e8,f8,u8,bu,m8,r8,t8,i8,j8⟩:=QS.at (iq.ext (n':=F) X7.go Z) gq;have sq:=hz q (CE gq);apply sI bu r8;apply sL t8 m8 0;apply(sA);intro y p9 x9;apply(zG);apply sS [U b8,Y a8 l8 c8,U d8,Y e8 f8 u8];intro Z0 cb ah;apply(zG);apply sC (zmi _ i8.t j8.t b7.t (yU sq.1 Z) (yU sq.z Z) (by rw[CR];exact T (kW hz hP)));rintro _ K ag⟨bo,bn,l11,bq,rfl,b6⟩ d0 cs;have bt:q.num*((deni (O qs) (aQ qs) 0:Nat):Int).tdiv (q.den:Int)=Kz (O qs) (aQ qs) 0 j:=by unfold Kz Ni;rw[NO gq]
 rw[bt]at b6;apply sI ω G;have p:∀c,c<3*F->K c=o c:=λc hc=>(by have e0:o c=o c:=rfl;exact zp);have a1:=R.go Fz (show Tr F o ag K from zt) (p _ R.1);apply NL (n0:=n) (j:=j) (q:=Kz (O qs) (aQ qs) 0 j) [U bo,Y bn l11 bq] a1 Fz (by rw[xE];exact G) (C9 _) ⟨_,_,_,_,ω,b6⟩ Z;rw[pE G];intro a0 a3 aw cn;apply(Zd);have ct:a0 H=_:=(aw.1 H Z).trans ((p H Z).trans p7);apply(zH);obtain⟨ab,⟨ao,am,au,ab,rfl,Z4⟩,_,cl⟩:=a3.get (xG G) (off:=0+j*2) (C9 _);rw[Cw (Fv _)]at Z4;apply dI ω G;apply dL cl a3.1 0;have ak:Tr F o ag a0:=FG aw (show Tr F o ag K from zt);apply dC (gcdX _ ((g.ext X7.go Z).t ak) (i7.t ak) Z4 AM (T (cO hz hP G)));rintro _ bw bd⟨ay,ax,bb,az,rfl,bz⟩ bg aj;apply dS [U ay,Y ax bb az];intro ac cd a4;apply(zG);have bh:∀c,c<3*F->c≠m->c≠H->ac c=o c:=λc hc h1 h2=>(a4.1 c h2).trans ((aj c Z).trans ((aw.1 c h1).trans (p c hc)));have bk:Tr F o bd ac:=FG a4 (Tr.e aj bg ak);have b0:ac m=a0 m:=(a4.1 m Z).trans (aj m a3.1);exact sK (j+1,ay,ax,bb,az) ⟨ω,Z,λc hc hn=>(by
  simp only[De,CO,or_false,not_or]at hn;exact(bh c Z hn.1 hn.2).trans (Y7 c hc (by simp[hn]))),a3.go Fz (show Tr ag a0 bd ac from FG a4 (Tr.e aj bg (Eg _ _))) b0,(by
   have⟨C,W⟩:=a5;have⟨C2,h2⟩:=cn _ ⟨C,(p _ R.1).trans W⟩;exact⟨C2,b0.trans h2⟩),cd,(bz.t (FG a4 (Eg _ _))).as (by show _=((CZ _ _:Nat):Int);rw[CR]),T7.trans bk,kF⟩
 have G:j=O qs:=Z;subst G;apply(zG);apply sC (yK _ i7);rintro _ Z1 n8⟨b8,rfl,bp⟩ y8 x8;obtain⟨rfl,q8⟩|⟨rfl,q8⟩:=J7 bp;have ar:¬KU (Kz (O qs) (aQ qs) 0) (O qs)=0:=λe=>q8 AF;have b4:Lc (O qs) (aQ qs) 0=KU (Kz (O qs) (aQ qs) 0) (O qs):=by grind [Lc,MI]
 rw[<-b4]at i7 ae;have b5:((Lc (O qs) (aQ qs) 0:Nat):Int)≠0:=by rw[b4];omega
 have X8:Exo n h Z1:=⟨λc hc=>(x8 c Z).trans (X7.go c hc)⟩;have ci:Z1 V=_:=(x8 V Z).trans ch;have av:Z1 (3*n+2)=_:=(x8 _ Z).trans be;have cj:Z1 H=_:=(x8 H Z).trans p7;have c1:=b7.t (show Tr F o n8 Z1 from zt);have c4:=i7.t (show Tr F o n8 Z1 from zt);apply(zG);apply sF (α:=Nat) (λz=>[(3,ε (3*n+2)),(4,ε V),(5,Y (ξ ⟨m,0,θ⟩) (O qs) (O qs)),(6,ε H),(40,Y (ξ ⟨m,0,θ⟩) (O qs) (O qs)),(41,υ (O qs:Int)),(42,υ (z:Int))]) (λz v J w'=>w'=[]/\n8<=J/\ExtB n8 [m] Z1 v/\OZ v J m (mixF (tT (O qs) (aQ qs) 0) (Kz (O qs) (aQ qs) 0) z (O qs))/\KR v m 62/\Tr n8 Z1 J v/\z<=O qs) (λz=>O qs-z) 0 ⟨ω,Cy,Ed _ _ _,(R.xx Fz zx).as cW,(by have⟨C,W⟩:=a5;exact⟨C,(x8 _ R.1).trans W⟩),Eg _ _,Cz⟩;rintro i t y Z3 _⟨rfl,y9,Y9,S,ai,T9,hi⟩;(try dsimp only at y9 S ai T9 hi);have X9:Exo n h y:=⟨λc hc=>(Y9 c Z eP).trans (X8.go c hc)⟩;have cw:y V=_:=(Y9 V Z eP).trans ci;have cf:y (3*n+2)=_:=(Y9 _ Z eP).trans av;have cx:y H=_:=(Y9 H Z eP).trans cj;have c3:=c1.t T9;have ba:=c4.t T9;apply(zG);by_cases q9:(i:Int)<(O qs:Int);have M:i<O qs:=Z;apply(zG);obtain⟨aa,⟨an,al,l10,aa,rfl,af⟩,_,ck⟩:=S.get (xG M) (off:=0+i*2) (C9 _);rw[Cv (Nat.lt_irrefl _)]at af;apply sI ω M;apply sL ck S.1 0;apply(sA);intro K cc cs;apply(zG);apply sS [U an,Y al l10 aa];intro a0 cv a3;apply(zG);apply sC (quoX _ af.t ba.t (T (cO hz hP M)) AM b5);rintro _ ap bc⟨ao,am,au,ab,rfl,Z4⟩ d1 cy;(try dsimp only at Z4);apply sI ω M;have a7:∀c,c<3*Z3->ap c=y c:=λc hc=>(by have e0:y c=y c:=rfl;exact zp);apply NL (n0:=n) (j:=i) (q:=tT (O qs) (aQ qs) 0 i) [U ao,Y am au ab] (S.go Fz (show Tr Z3 y bc ap from zt) (a7 _ S.1)) Fz (by rw[xE];exact M) (C9 _) ⟨_,_,_,_,ω,Z4⟩ Z;rw[pE M];intro bw ca bf co;apply(zG);exact sK (i+1) ⟨ω,Z,λc hc hn=>(by
  simp only[De,CO,or_false]at hn;exact(bf.1 c hn).trans ((a7 c Z).trans (Y9 c hc (by simp[hn])))),ca,(by
  have⟨C,W⟩:=ai;exact co _ ⟨C,(a7 _ S.1).trans W⟩),T9.trans (FG bf zt),Ak⟩
 have M:i=O qs:=Z;subst M;apply(zG);apply sC (iL _ (g.ext X9.go Z) c3 ba (by rw[CR];exact T (kW hz hP)) AM b5);rintro _ Z0 c7⟨an,al,l10,aa,br,bs,bv,cm,rfl,af,c5⟩ cz cr;apply(zG);apply sS [U an,Y al l10 aa,U br,Y bs bv cm];intro K cc a1;have p:∀c,c<3*Z3->c≠3*n+2->K c=y c:=λc hc hn=>(a1.1 c hn).trans (cr c hc);have bj:Tr Z3 y c7 K:=zt;have bm:Exo n h K:=⟨λc hc=>(p c Z Z).trans (X9.go c hc)⟩;apply zq (hx:=⟨Z,bm.go⟩);exact⟨m,_,_,_,_,_,_,_,_,_,_,ω,Z,gB,S.go Fz bj (p m S.1 Z),(by have⟨C,W⟩:=ai;exact⟨C,(p m S.1 Z).trans W⟩),ScR.mk1 hz hP ar,af.t (FG a1 (Eg _ _)),c5.t (FG a1 (Eg _ _))⟩;have ar:KU (Kz (O qs) (aQ qs) 0) (O qs)=0:=Int.ofNat.inj q8;apply(zG);apply sC (SG _ _ _);rintro _ y Z3⟨b9,a9,l9,c9,d9,e9,f9,u9,rfl,i9,j9⟩ y9 x9;have av:Z1 (3*n+2)=_:=(x8 _ Z).trans be;have cf:y (3*n+2)=_:=(x9 _ Z).trans av;apply(zG);apply sS [U b9,Y a9 l9 c9,U d9,Y e9 f9 u9];intro Z0 cb ah;have a6:∀c,c<3*F->c≠3*n+2->Z0 c=o c:=λc hc hn=>(ah.1 c hn).trans ((x9 c Z).trans (x8 c hc));have bi:Tr F o Z3 Z0:=zt;have bl:Exo n h Z0:=⟨λc hc=>(a6 c Z Z).trans (X7.go c hc)⟩;apply zq (hx:=⟨Z,bl.go⟩);exact⟨m,_,_,_,_,_,_,_,_,_,_,ω,Z,gB,(R.go Fz bi (a6 m R.1 Z)).as cW,(by have⟨C,W⟩:=a5;exact⟨C,(a6 m R.1 Z).trans W⟩),ScR.mk0 hz hP ar,i9.t (FG ah (Eg _ _)),j9.t (FG ah (Eg _ _))⟩
end
theorem TP{b}{f:Nat->Rat}{N w}{x}(h:∀v,v<N->b[v]?=ξ (f v))(e:O b=N):∀v,v<N->(b.set w x)[v]?=ξ (Ka f w x v):=by grind [hv,Ka]
def SolP.mv{n m}{d}{s}(b:SolP n m d s){e}{x:Nat->Rat}(f:O e=n+m)(h:∀v,v<n+m->e[v]?=ξ (x v)):SolP n m {d with va:=e} ⟨s.toPT,x⟩:=
 ⟨b.nl,b.nb,b.bl,b.ba,f,h,b.tl,b.ta,b.de,b.ll,b.lh,b.nm,b.ls,b.dn⟩
section
variable{B:Nat}{s:PS}{a:Nat->Nat->Int}
def TQ(k)(g:GG h n0)(N:SM l h n0 bs d A)(F:SolP n m d s)(pb:PB n m a L s.toPT)(sz:SzP n m V T Z1 B d s)(lm:Lim V T Z1 D B)(hc:c<n){r}{b1 d1}{a1 e1}{l1 c1 f1 u1}(i1:IW h n0 b1 a1 l1 c1 r.num)(j1:IW h n0 d1 e1 f1 u1 (denZ r))(sr:Sz D r):
  CF (J4 (k+12)) 50 [ε bs,υ (c:Int),.agg #[U b1,Y a1 l1 c1,U d1,Y e1 f1 u1]] h n0 λ_ P u w=>n0<=u/\∃f,O f=n+m/\(∀v,v<n+m->f[v]?=ξ (Kk s c r m v))/\SM l P u bs {d with va:=f} A/\Tr n0 h u P/\(∀b,b<3*n0->¬BkOf (Y A.va (O d.va) (O d.va)) b->P b=h b)/\(∀c∈w,3*l<=c)/\(r=0\/∀b,BkOf (Y A.va (O d.va) (O d.va)) b->b∈w):=by
 have⟨b0,a0,u0,c0,ty,st,i0⟩:=N.st;have ax:=N.bs.1;have ck:=F.nm;have:=lm.l1;have:=lm.l2;have vl:=F.vl;have bl:=F.bl;have gc:=F.nb c hc;have aa:=pb.nv c hc;have gx:=F.va _ aa;have sx:=sz.va _ aa;have⟨k4,o4,e4,m4,r4,t4⟩:=natS.at N.nb.rs gc;have⟨k2,o2,b2,a2,l2,c2,d2,e2,f2,g2,ev,mv,rv,tv,iv,jv⟩:=QS.at N.va.rs gx;apply Lg R4;apply(zG);apply sB [U b1,Y a1 l1 c1,U d1,Y e1 f1 u1];intro h1 p1 x1;apply(zG);apply sC (kD _ i1.x j1.x);rintro _ h3 n3⟨b3,rfl,an⟩ y3 x3;obtain⟨rfl,q3⟩|⟨rfl,q3⟩:=J7 an;have⟨bv,p,gv,lv,ov,bi⟩:=N.va.or ω (show O d.va≠0 from Z);injection p with p;apply(zG);apply sI e4 r4;apply sL t4 m4 0;apply(Zh);apply dI ev rv;apply dL tv mv 0;apply(zH);apply dC (addQ _ g.x iv.x jv.x i1.x j1.x sx sr Z);rintro _ h5 Z4⟨b5,a5,l5,c5,d5,e5,f5,u5,rfl,i5,j5⟩ y5 x5;have K:Exo n0 h h5:=⟨(show Tx n0 h Z4 h5 from zx).2⟩;have ae:h5 (3*n0+2)=_:=(zp:h5 (3*n0+2)=_);have cl:=i1.ext (n':=Z4) K.go Z;have cm:=j1.ext (n':=Z4) K.go Z;apply dI p Z;refine dZ [U b5,Y a5 l5 c5,U d5,Y e5 f5 u5] (ov.ext Ea K.go Z) Ea Z (C9 _) ⟨_,_,_,_,_,_,_,_,ω,i5,j5⟩ λh6 o6 Z3 T6=>?_;have s6:=(N.ext (n':=Z4) K.go Z).mv p Z3 (DH ..) (o6.gr Ea (T6 _ (by
  have⟨C,hC⟩:=bi;exact⟨C,(K.go _ ov.1).trans hC⟩)) gv lv ω |> λq=>by rw[p];exact q)
 have az:bv∈addW n0 [bv] []:=wQ ov.1 eC;have ak:Tr n0 h Z4 h6:=FG Z3 ⟨Z,λc hc=>.inl (K.go c hc)⟩;have ai:∀b,b<3*n0->¬BkOf (Y A.va (O d.va) (O d.va)) b->h6 b=h b:=λb hb hn=>(Z3.1 b (λe=>hn ⟨0,O d.va,O d.va,by rw[p,e]⟩)).trans (K.go b hb);have cs:h6 bs=_:=(Z3.1 bs (λe=>by have:=N.bs.2;rw[e,gv]at this;cases this)).trans ((K.go bs ax).trans st);have bg:h6 (3*n0+2)=_:=(Z3.1 (3*n0+2) (λe=>by have:=zB n0;rw[e,gv]at this;cases this)).trans ae;have b6:=TP (w:=s.nb c) (x:=s.x (s.nb c)+r) F.va vl;apply(zG);apply sF (α:=Nat×List Rat) (λz=>[(0,ε bs),(1,υ (c:Int)),(5,ε (3*n0+2)),(36,Y A.ba (O d.ba) (O d.ba)),(37,υ (O d.ba:Int)),(38,υ (z.1:Int))]) (λz P u w'=>Z4<=u/\SM l P u bs {d with va:=z.2} A/\O z.2=n+m/\(∀v,v<n+m->z.2[v]?=ξ (Kk s c r z.1 v))/\Tr n0 h u P/\(∀b,b<3*n0->¬BkOf (Y A.va (O d.va) (O d.va)) b->P b=h b)/\P (3*n0+2)=ξ (.row [U b1,Y a1 l1 c1,U d1,Y e1 f1 u1] 68)/\bv∈w'/\(∀c∈w',3*l<=c)/\z.1<=m) (λz=>m-z.1) (0,d.va.set (s.nb c) (s.x (s.nb c)+r)) ⟨Cy,s6,by rw[DH];exact vl,b6,ak,ai,bg,az,yL (λc hc=>by rw[CV.1 hc];exact lv) (λc hc=>Cu hc CO),Cz⟩;rintro⟨j,f⟩ t Z0 n7 w7 ⟨y7,y,S,R,J,K7,p7,M,ab,hj⟩;(try dsimp only at y7 y S R J K7 p7 hj);have⟨b8,a8,u8,c8,cu,ct,i8⟩:=y.st;have cj:=y.bs.1;apply(zG);by_cases q7:(j:Int)<(O d.ba:Int);apply(zG);have I:j<m:=Z;have gw:=F.ba j I;have ac:=pb.bv j I;have aw:=R _ ac;have ex:Kk s c r j (s.bs j)=s.x (s.bs j):=oI (λq=>pb.dis c j hc I q.symm) λi hi q=>by have:=pb.jnj j i I Z q;omega
 have af:=sz.va _ ac;rw[<-ex]at af;have⟨r0,g0,_,au⟩:=F.ta j Z;have hT:=sz.tT j I c hc;have hd:=sz.dd;have ay:=pb.tab.dp;have a7:=F.de;have⟨k9,o9,e9,m9,r9,t9⟩:=natS.at y.ba.rs gw;apply sI e9 r9;apply sL t9 m9 0;have⟨cn,cr,br,bo,l10,bx,c4,c9,cc,cf,ew,mw,ah,tw,iw,jw⟩:=QS.at y.va.rs aw;have⟨bw,H,av,be,ow,bj⟩:=y.va.or ω (show O f≠0 from Z);injection H with H;obtain rfl:bw=bv:=by have e:=H.symm.trans p;cases e;rfl
 apply(Zh);apply dI ew ah;apply dL tw mw 0;apply(zH);apply dC (Nh _ (g.t J) y g0 (au c hc) (yU hT Z) (by show d.den.natAbs<BW;rw[a7];exact yU hd Z) aD);rintro _ cg cp⟨bt,bp,l11,bz,c6,ca,cd,cv,rfl,a3,a4⟩ bn bm;have sc:Sz T (Dw (s.T j c) s.d):=xz ay hT hd;rw[show({d with va:=f}:Sol).den=s.d from a7]at a3 a4;rw[Ev]at a3 a4 sc;apply(zH);apply dC (mulQ _ (g.t (J.e bm bn)) a3 a4 ((i1.t J).x zx) ((j1.t J).x zx) sc sr Z);rintro _ ch cq⟨bu,bq,co,c3,c7,cb,ce,cw,rfl,b7,bb⟩ cz cx;apply dC (addQ _ ((g.t J).x zx) iw.x jw.x b7 bb af (sc.mul sr) Z);rintro _ a6 ad⟨am,al,bd,ao,ap,aq,ar,bk,rfl,b9,bc⟩ d0 cy;have G:Exo n7 Z0 a6:=⟨(show Tx n7 Z0 ad a6 from zx).2⟩;apply dI H Z;refine dZ [U am,Y al bd ao,U ap,Y aq ar bk] (ow.ext Ea G.go Z) Ea Z (C9 _) ⟨_,_,_,_,_,_,_,_,ω,b9,bc⟩ λci bf W aj=>?_;have bh:=(y.ext (n':=ad) G.go Z).mv H W (DH ..) (bf.gr Ea (aj _ (by
  have⟨C,hC⟩:=bj;exact⟨C,(G.go _ ow.1).trans hC⟩)) av be ω |> λq=>by rw[H];exact q)
 have ag:=TP (w:=s.bs j) (x:=Kk s c r j (s.bs j)+(s.T j c:Rat)/s.d*r) R S;apply(zJ);exact sK (j+1,f.set (s.bs j) (Kk s c r j (s.bs j)+(s.T j c:Rat)/s.d*r)) ⟨Z,bh,by show(f.set _ _).length=_;rw[DH];exact S,ag,FG W (J.trans ⟨Z,λc hc=>.inl (G.go c hc)⟩),λb hb hn=>(W.1 b (λe=>hn ⟨0,O d.va,O d.va,by rw[p,e]⟩)).trans ((G.go b Z).trans (K7 b hb hn)),(W.1 (3*n0+2) (λe=>by have:=zB n0;rw[e,gv]at this;cases this)).trans ((G.go _ Z).trans p7),nM _ _ _ M,yL (λc hc=>by rw[CV.1 hc];exact lv) ab,I⟩;have b4:j=m:=Z;subst b4;apply(zG);refine⟨ω,[],ω,⟨Z,f,S,R,y,J,K7,ab,.inr λb hb=>by
  have⟨o,l',c',e⟩:=hb;rw[p]at e;injection e with e;injection e with e;injection e with e;exact e▸M⟩,λhw=>by rw[show w7=[]from hw]at M;cases M⟩
 subst q3;have X3:Exo n0 h h3:=⟨(show Tx n0 h n3 h3 from zx).2⟩;have y3:n0+1<=n3:=y3;have a9:∀v,v<n+m->d.va[v]?=ξ (Kk s c 0 m v):=λv hv=>by rw[mvx0];exact F.va v hv
 apply(zG);exact⟨ω,[],ω,⟨Z,d.va,vl,a9,N.ext X3.go Z,⟨Z,λc hc=>.inl (X3.go c hc)⟩,λb hb _=>X3.go b hb,λc hc=>Cu hc CO,.inl AJ⟩,λ_=>⟨Cy,d.va,vl,a9,N,Eg _ _,AT,λc hc=>Cu hc CO,.inl AJ⟩⟩
end
section
variable{a:Nat}
def absX(k){x}(d:IW h n sx ax lx cx x):CX (J4 (k+1)) 137 [.agg #[U sx,Y ax lx cx]] h n (IV (x.natAbs:Int)):=by apply zw R4;apply(zG);apply sB [U sx,Y ax lx cx];intro h1 i o;apply(sA);intro e j p;apply(zG);apply sT #[U χ,Y ax lx cx];apply sS [U χ,Y ax lx cx];intro f l g;apply(zq);exact⟨_,_,_,_,ω,⟨(BG Z).symm,d.t.2⟩⟩
theorem OI(x):(ab x).num=(x.num.natAbs:Int)/\(ab x).den=x.den:=by grind [ab,FO,EZ.2,He,Rat.neg_den,Hc.1]
def zr4(k){x}(j:IW h n sx ax lx cx x.num)(l:IW h n dx ex fx gx (denZ x)):CX (J4 (k+2)) 104 [.agg #[U sx,Y ax lx cx,U dx,Y ex fx gx]] h n (QV (ab x)):=by apply zw R4;apply(zG);apply sB [U sx,Y ax lx cx,U dx,Y ex fx gx];intro h1 v A;apply(sA);intro h2 w B;apply(Zh);apply dC (absX _ j.x);rintro _ o q⟨e,d,g,f,rfl,i⟩ D C;apply(zH);apply dT #[U e,Y d g f,U dx,Y ex fx gx];apply dS [U e,Y d g f,U dx,Y ex fx gx];intro p y u;apply(zq);exact⟨_,_,_,_,_,_,_,_,ω,i.t.as (OI x).1.symm,l.t.as (by unfold denZ;rw[(OI x).2])⟩
def Sz.ab{x}(h:Sz a x):Sz a (ab x):=⟨by rw[(OI x).1];have:=h.1;omega,by rw[(OI x).2];exact h.2⟩
def Sz.subT{x y}(hx:Sz a x)(d:Sz b y):Sz (a+b+1) (x-y):=by rw[Rat.sub_eq_add_neg];exact hx.add d.neg
def cJ{f g}{v}{x}{p q}{up}(d:f[v]?=ξ p)(e:g[v]?=ξ q):rm (J6 f) (J6 g) v x up=if(qd x p q up).1 then ξ (qd x p q up).2 else θ:=by have⟨i,l⟩:=p;have⟨j,o⟩:=q;unfold rm qd;cases up;rw[Cv EL,Cv EL];cases i;rw[pj d];rfl;rw[xI d];rfl;rw[Cw ω,Cw rfl];cases j;rw[pj e];rfl;rw[xI e];rfl
section
variable{k:Nat}{lo hi:Nat->Option Rat}{s:PS}{up:Bool}
def cndK(m k:Nat)(lo hi:Nat->Option Rat)(s:PS)(c:Nat)(up:Bool)(r:Option Nat)(ρ:Rat):Prop:=Li m lo hi s c up r ρ/\∀i,r=ξ i->i<k
def Ld(m:Nat)(lo hi:Nat->Option Rat)(s:PS)(c:Nat)(up:Bool)(k:Nat)(b:Int)(f:Nat)(fd:Bool)(ρ:Rat):Prop:=
 (fd=χ/\∀r ρ',¬cndK m k lo hi s c up r ρ')\/(fd=φ/\∃r,cndK m k lo hi s c up r ρ/\(r=θ/\b= -1\/∃i:Nat,r=ξ i/\b=(i:Int))/\f=OH s c r/\∀r' ρ',cndK m k lo hi s c up r' ρ'->ρ<ρ'\/ρ=ρ'/\f<=OH s c r')
def cndK.inc{r}{ρ}(h:cndK m k lo hi s c up r ρ):cndK m (k+1) lo hi s c up r ρ:=⟨h.1,λi e=>by have:=h.2 i e;omega⟩
def cndK.dn{r}{ρ}(h:cndK m (k+1) lo hi s c up r ρ):cndK m k lo hi s c up r ρ\/r=ξ k:=by
 by_cases e:r=ξ k;exact .inr e;exact .inl ⟨h.1,λi d=>by
  have:=h.2 i d;have:i≠k:=λf=>e (by rw[d,f]);omega⟩
def Ld.no{b}{f}{j}{ρ}(h:Ld m lo hi s c up k b f j ρ)(v:∀d,¬Li m lo hi s c up (ξ k) d):Ld m lo hi s c up (k+1) b f j ρ:=by have l:∀{r d},cndK m (k+1) lo hi s c up r d->cndK m k lo hi s c up r d:=λ{r d} q=>q.dn.resolve_right λe=>v d (e▸q.1);obtain⟨g,i⟩|⟨g,r,i,o,p,u⟩:=h;exact .inl ⟨g,λr d q=>i r d (l q)⟩;exact .inr ⟨g,r,i.inc,o,p,λw d q=>u w d (l q)⟩
def Qf{r}{ρ e}(h:Li m lo hi s c up r ρ)(h':Li m lo hi s c up r e):ρ=e:=by
 cases r with
 |none=>exact Eb (Eq.trans (Eq.symm h) h')
 |some i=>
  obtain⟨_,_,g,f,rfl⟩:=h;obtain⟨_,_,j,d,rfl⟩:=h';rw[f]at d;cases d;rfl
def Ld.take{b}{f}{l}{ρ j}(h:Ld m lo hi s c up k b f l ρ)(u:Li m lo hi s c up (ξ k) j)(g:l=χ\/j<ρ\/j=ρ/\s.bs k<f):Ld m lo hi s c up (k+1) (k:Int) (s.bs k) φ j:=by refine .inr ⟨ω,ξ k,⟨u,λi e=>by cases e;omega⟩,.inr ⟨k,ω,ω⟩,ω,λw y q=>?_⟩;obtain v|rfl:=q.dn;obtain⟨o,p⟩|⟨o,r,p,B,C,A⟩:=h;exact Cu v (p w y);have d:=A w y v;obtain g|g|⟨g,F⟩:=g;rw[o]at g;cases g;obtain d|⟨d,_⟩:=d;exact .inl aD;exact .inl aD;obtain d|⟨d,D⟩:=d;exact .inl (by rw[g];exact d);exact .inr ⟨g.trans d,Z⟩;exact .inr ⟨Qf u q.1,Cy⟩
def Ld.keep{b}{f}{e}{ρ g}(h:Ld m lo hi s c up k b f e ρ)(u:Li m lo hi s c up (ξ k) g)(v:e=φ)(i:ρ<g\/ρ=g/\f<=s.bs k):Ld m lo hi s c up (k+1) b f e ρ:=by obtain⟨d,_⟩|⟨d,r,j,l,o,p⟩:=h;rw[v]at d;cases d;refine .inr ⟨d,r,j.inc,l,o,λw y q=>?_⟩;obtain q|rfl:=q.dn;exact p w y q;rw[<-Qf u q.1];exact i
def Ld.start{f:Bool}{ρ}(h:rm lo hi (s.nb c) (s.x (s.nb c)) up=if f then ξ ρ else θ):Ld m lo hi s c up 0 (-1) (s.nb c) f ρ:=by
 have g:∀{r d},cndK m 0 lo hi s c up r d->r=θ:=λ{r d} q=>by
  cases r with
  |none=>rfl
  |some i=>have:=q.2 i rfl;omega
 cases f with
 |false=>
  refine .inl ⟨ω,λr d q=>?_⟩;obtain rfl:=g q;have q:rm lo hi (s.nb c) (s.x (s.nb c)) up=ξ d:=q.1;rw[h]at q;cases q
 |true=>
  refine .inr ⟨ω,θ,⟨h,λi e=>by cases e⟩,.inl ⟨ω,ω⟩,ω,λj d q=>?_⟩;obtain rfl:=g q;exact .inr ⟨Qf (r:=θ) h q.1,Cy⟩
end
end
def Ky(up:Bool):Int:=if up then 1 else -1
theorem zr5{x y k}(b:k≠0)(h:x=y\/x= -y):x/ab k=y/k\/x/ab k= -(y/k):=by grind [ab,only]
def zmg(b c): -9223372036854775808<=Ky b*Ky c/\Ky b*Ky c<9223372036854775808:=by cases b<;>cases c<;>decide
def zmh(b c):(c==b)=φ↔0<Ky b*Ky c:=by cases b<;>cases c<;>decide
theorem zmd{t:Int}{d:Int}{s}(g:0<(d:Rat))(f:¬(t:Rat)/d=0)(h:s= -1/\((t:Rat)/d).num<0\/s=0/\((t:Rat)/d).num=0\/s=1/\0<((t:Rat)/d).num):s=Ky (decide (0<t)):=by
 have i:=Fi (a:=(t:Rat)) (show(d:Rat)≠0 by grind);generalize (t:Rat)/d=q at*;obtain⟨rfl,h⟩|⟨rfl,h⟩|⟨rfl,h⟩:=h;have e:q<0:=EZ.1 λe=>by have:=(FO).2 e;omega
 have b:¬0<t:=λb=>(by have j:(0:Rat)<t:=FR.2 b;have:=Gp (show 0< -q by grind) g;grind);rw[BG b];rfl;exact Cu (Fk.1 h) f;have e:0<q:=EZ.1 λe=>by
  have:=mt (FO (q:= -q)).1;have b:0<= -q:=by grind
  have:=(FO).2 b;rw[He]at this;omega
 have b:0<t:=FR.1 (by grind [Gp]);rw[Ct b];rfl
section
variable{B:Nat}{s:PS}{a:Nat->Nat->Int}{up:Bool}
def zia(k)(g:GG h n0)(sm:SM l h n0 bs d A)(H:SolP n m d s)(pb:PB n m a L s.toPT)(sz:SzP n m V T Z1 B d s)(lm:Lim V T Z1 D B)(hc:c<n)(hD:∀i,i<m->s.T i c≠0->∀q,(J6 d.lo (s.bs i)=ξ q\/J6 d.hi (s.bs i)=ξ q)->Sz D ((q-s.x (s.bs i))/((s.T i c:Rat)/s.d))):
  CX (J4 (k+13)) 53 [ε bs,υ (c:Int),υ (Ky up)] h n0 λw I J=>∃b f ρ b1 a1 l1 c1 d1 e1 f1 g1 F,w=.tuple #[υ b,.agg #[U b1,Y a1 l1 c1,U d1,Y e1 f1 g1],U F]/\IW I J b1 a1 l1 c1 ρ.num/\IW I J d1 e1 f1 g1 (denZ ρ)/\Ld m (J6 d.lo) (J6 d.hi) s c up m b f F ρ/\Sz D ρ:=by
 have⟨b0,a0,u0,c0,ty,st,i0⟩:=sm.st;have bg:=sm.bs.1;have cj:=H.nm;have:=lm.l1;have:=lm.l2;have:=lm.l3;have vl:=H.vl;have bl:=H.bl;have ll:=H.ll;have lh:=H.lh;have gc:=H.nb c hc;have ar:=pb.nv c hc;have gx:=H.va _ ar;have bo:up=φ↔0<Ky up:=by cases up<;>decide
 obtain⟨pl,R⟩:∃x,d.lo[s.nb c]?=ξ x:=⟨_,CD Z⟩;obtain⟨ph,P⟩:∃x,d.hi[s.nb c]?=ξ x:=⟨_,CD Z⟩;have al:=sz.va _ ar;have N:=sz.lo _ (CE R);have M:=sz.hi _ (CE P);have G:=cJ (x:=s.x (s.nb c)) (up:=up) R P;have bm:Sz D (qd (s.x (s.nb c)) pl ph up).2:=(by unfold qd;split;exact(Sz.subT M al).mono Z;exact(Sz.subT al N).mono Z);have⟨k4,o4,e4,m4,r4,t4⟩:=natS.at sm.nb.rs gc;apply zw R4;apply(Zk);intro h1 p1 x1;apply(zG);apply sI e4 r4;apply sL t4 m4 0;apply(zG);apply sC (Ta _ g.x sm.x gx R P al N M Z bo);rintro _ h2 p⟨b2,a2,l2,c2,d2,e2,f2,g2,rfl,i2,j2⟩ y2 x2;generalize hρ:(qd (s.x (s.nb c)) pl ph up).2=ρ0 at*;generalize hfd:(qd (s.x (s.nb c)) pl ph up).1=fd0 at*;apply(Zk);intro h3 p3 x3;apply sS [U b2,Y a2 l2 c2,U d2,Y e2 f2 g2];intro o p4 o4;have X4:Exo n0 h o:=⟨(show Tx n0 h (p+1) o from zx).2⟩;have T4:Tr n0 h (p+1) o:=zt;have i4:=i2.t (zt:Tr p h2 (p+1) o);have j4:=j2.t (zt:Tr p h2 (p+1) o);have cs:o (3*n0+2)=_:=(zp:o (3*n0+2)=_);have y2:n0+1<=p:=y2;have cy:o bs=_:=(X4.go bs bg).trans st;apply(zG);apply sF (α:=Nat×Int×Nat×Bool×Rat×Bool×Option Addr×Nat×Nat×Bool×Option Addr×Nat×Nat) (λz=>[(0,ε bs),(1,υ (c:Int)),(2,υ (Ky up)),(7,ε (3*n0+2)),(9,υ (z.2.2.1:Int)),(10,ε (3*p+2)),(11,U z.2.2.2.1),(12,υ z.2.1),(36,Y A.ba (O d.ba) (O d.ba)),(37,υ (O d.ba:Int)),(38,υ (z.1:Int))]) (λz I J w'=>w'=[]/\p+1<=J/\ExtB (p+1) [3*p+2] o I/\I (3*p+2)=ξ (.row [U z.2.2.2.2.2.1,Y z.2.2.2.2.2.2.1 z.2.2.2.2.2.2.2.1 z.2.2.2.2.2.2.2.2.1,U z.2.2.2.2.2.2.2.2.2.1,Y z.2.2.2.2.2.2.2.2.2.2.1 z.2.2.2.2.2.2.2.2.2.2.2.1 z.2.2.2.2.2.2.2.2.2.2.2.2] 68)/\IW I J z.2.2.2.2.2.1 z.2.2.2.2.2.2.1 z.2.2.2.2.2.2.2.1 z.2.2.2.2.2.2.2.2.1 z.2.2.2.2.1.num/\IW I J z.2.2.2.2.2.2.2.2.2.1 z.2.2.2.2.2.2.2.2.2.2.1 z.2.2.2.2.2.2.2.2.2.2.2.1 z.2.2.2.2.2.2.2.2.2.2.2.2 (denZ z.2.2.2.2.1)/\Ld m (J6 d.lo) (J6 d.hi) s c up z.1 z.2.1 z.2.2.1 z.2.2.2.1 z.2.2.2.2.1/\Sz D z.2.2.2.2.1/\z.1<=m) (λz=>m-z.1) (0,-1,s.nb c,fd0,ρ0,b2,a2,l2,c2,d2,e2,f2,g2) ⟨ω,Cy,Ed _ _ _,p4,i4,j4,.start G,bm,Cz⟩;rintro⟨j,b,f,F,ρ,bS,aS,lS,kS,uS,vS,wS,xS⟩ t h5 n5 _ ⟨rfl,y5,Y5,p5,W,Z3,hv,S,hj⟩;dsimp only at p5 W Z3 hv S hj y5;have X5:Exo n0 h h5:=⟨λc hc=>(Y5 c Z (λe=>by have:=CV.1 e;omega)).trans (X4.go c hc)⟩;have s5:=sm.ext (n':=n5) X5.go Z;have g5:=g.ext X5.go (by omega:n0<=n5);apply(zG);by_cases q5:(j:Int)<(O d.ba:Int);apply(zG);have v:j<m:=Z;have gw:=H.ba j v;have au:=pb.bv j v;have bf:=H.va _ au;have ak:=sz.va _ au;have⟨r0,g0,_,bd⟩:=H.ta j Z;have hT:=sz.tT j v c hc;have hd:=sz.dd;have bh:=pb.tab.dp;have af:=H.de;have⟨k9,o9,e9,m9,r9,t9⟩:=natS.at s5.ba.rs gw;apply sI e9 r9;apply sL t9 m9 0;apply(zG);apply sC (Nh _ g5 s5 g0 (bd c hc) (yU hT Z) (by rw[af];exact yU hd Z) (by rw[af];omega));rintro _ h6 n6⟨b6,a6,l6,c6,d6,e6,f6,g6,rfl,i6,j6⟩ y6 x6;have sc:Sz T (Dw (s.T j c) s.d):=xz bh hT hd;rw[af]at i6 j6;rw[Ev]at i6 j6 sc;apply(Zk);intro h7 p7 x7;apply(zG);apply sS [U b6,Y a6 l6 c6,U d6,Y e6 f6 g6];intro h8 p8 o8;apply(zG);apply sC (kD _ i6.t j6.t);rintro _ h9 n9⟨b9,rfl,b5⟩ y9 x9;obtain⟨rfl,q9⟩|⟨rfl,q9⟩:=J7 b5;apply(zG);apply sC (fD _ i6.t j6.t);rintro _ ce cl⟨c5,rfl,c3⟩ d8 cz;have ag:c5=Ky (decide (0<s.T j c)):=zmd pb.dpos q9 c3;obtain⟨pl,R⟩:∃x,d.lo[s.bs j]?=ξ x:=⟨_,CD Z⟩;obtain⟨ph,P⟩:∃x,d.hi[s.bs j]?=ξ x:=⟨_,CD Z⟩;have N:=sz.lo _ (CE R);have M:=sz.hi _ (CE P);apply(zG);refine st_mul ω ω ω ω ω ω (by rw[ag];exact zmg _ _) ?_;subst ag;apply sC (Ta _ g5.x s5.x bf R P ak N M Z (zmh _ _));rintro _ an y⟨b4,b3,l11,b7,b8,bb,bc,be,rfl,ah,ai⟩ d9 d0;have G:=cJ (x:=s.x (s.bs j)) (up:=(up==decide (0<s.T j c))) R P;generalize hρ:(qd (s.x (s.bs j)) pl ph (up==decide (0<s.T j c))).2=ρ1 at*;generalize hfd:(qd (s.x (s.bs j)) pl ph (up==decide (0<s.T j c))).1=fd1 at*;apply(Zk);intro cf cq d3;apply(zG);apply sS [U b4,Y b3 l11 b7,U b8,Y bb bc be];intro ad cr cn;apply(zG);cases fd1;apply(zG);exact sK (j+1,b,f,F,ρ,bS,aS,lS,kS,uS,vS,wS,xS) ⟨ω,Z,zy,zp,W.t zt,Z3.t zt,hv.no (λρ' hq=>by
  have⟨_,_,g',h1,_⟩:=hq;rw[G]at h1;cases h1),S,v⟩
 have Z4:s.T j c≠0:=λe=>q9 (by rw[e];exact pO _);have ay:=(pb.sgn (t:=s.T j c)).2.1 Z4;obtain⟨ap,aq,bn⟩:Li m (J6 d.lo) (J6 d.hi) s c up (ξ j) (ρ1/ab ((s.T j c:Rat)/s.d))/\Sz D (ρ1/ab ((s.T j c:Rat)/s.d))/\Sz D ρ1:=(by have hb:∃q,(J6 d.lo (s.bs j)=ξ q\/J6 d.hi (s.bs j)=ξ q)/\(ρ1=q-s.x (s.bs j)\/ρ1= -(q-s.x (s.bs j))):=(by generalize (up==decide (0<s.T j c))=u at G;cases u;exact⟨_,.inl (NN G),.inr aD⟩;exact⟨_,.inr (NM G),.inl aD⟩);have⟨q,bj,bk⟩:=hb;have h1:=hD j v Z4 q bj;have h0:Sz D ρ1:=(by rw[<-hρ];unfold qd;split;exact(Sz.subT M ak).mono Z;exact(Sz.subT ak N).mono Z);refine⟨⟨v,Z4,ρ1,G,ω⟩,?_,h0⟩;have o:ρ1/ab ((s.T j c:Rat)/s.d)=(q-s.x (s.bs j))/((s.T j c:Rat)/s.d)\/ρ1/ab ((s.T j c:Rat)/s.d)= -((q-s.x (s.bs j))/((s.T j c:Rat)/s.d)):=zr5 ay bk;obtain o|o:=o;rw[o];exact h1;rw[o];exact h1.neg);have az:Tr n5 h5 (y+1) ad:=zt;have ah:=ah.t (zt:Tr y an (y+1) ad);have ai:=ai.t (zt:Tr y an (y+1) ad);apply(Zh);apply dC (zr4 _ i6.t j6.t);rintro _ cg cm⟨c8,c7,ck,c9,ca,cb,cc,cd,rfl,bp,bt⟩ da d4;apply dC (divQ _ ((g5.t az).x zx) ah.t ai.t bp bt bn sc.ab Z);rintro _ ae K⟨a5,a4,aj,a7,a8,a9,aa,ac,rfl,av,aw⟩ db d5;apply dS [U a5,Y a4 aj a7,U a8,Y a9 aa ac];intro ao ct co;have bq:=av.t (zt:Tr K ae K ao);have bu:=aw.t (zt:Tr K ae K ao);apply(zJ);apply sC (xp _ bq bu W.t Z3.t aq S Z).cx;rintro _ Z0 ax⟨cw,rfl,C⟩ dc d7;generalize hr1:ρ1/ab ((s.T j c:Rat)/s.d)=ρ2 at*;have am:Tr K ae ax Z0:=zt;have cu:Z0 (3*y+2)=_:=(zp:Z0 (3*y+2)=_);have br:=av.t am;have bw:=aw.t am;apply(zM);simp only[yu,xg,zK,yY];refine yj (λz=>[(0,ε bs),(1,υ (c:Int)),(2,υ (Ky up)),(7,ε (3*n0+2)),(9,υ (f:Int)),(10,ε (3*p+2)),(11,U F),(12,υ b),(13,υ (j:Int)),(14,υ (s.bs j:Int)),(16,ε (3*y+2)),(36,Y A.ba (O d.ba) (O d.ba)),(37,υ (O d.ba:Int)),(38,υ (j:Int)),(82,U z)]) (λz I J w'=>w'=[]/\Z0=I/\ax=J/\(z=φ/\(F=χ\/ρ2<ρ\/ρ2=ρ/\s.bs j<f)\/z=χ/\F=φ/\(ρ<ρ2\/ρ=ρ2/\f<=s.bs j))) ?_ ?_;cases F;apply(zG);exact zA φ (by(repeat (first|exact trivial|refine⟨ω,?_⟩))) ⟨ω,ω,ω,.inl ⟨ω,.inl AJ⟩⟩;obtain⟨rfl,C⟩|⟨rfl,C⟩|⟨rfl,C⟩:=C;apply(zG);exact zA φ (by(repeat (first|exact trivial|refine⟨ω,?_⟩))) ⟨ω,ω,ω,.inl ⟨ω,.inr (.inl C)⟩⟩;by_cases a3:(s.bs j:Int)<(f:Int);apply(zG);exact zA φ (by(repeat (first|exact trivial|refine⟨ω,?_⟩))) ⟨ω,ω,ω,.inl ⟨ω,.inr (.inr ⟨C,Z⟩)⟩⟩;apply(zG);exact zA χ (by(repeat (first|exact trivial|refine⟨ω,?_⟩))) ⟨ω,ω,ω,.inr ⟨ω,AJ,.inr ⟨C.symm,Z⟩⟩⟩;apply(zG);exact zA χ (by(repeat (first|exact trivial|refine⟨ω,?_⟩))) ⟨ω,ω,ω,.inr ⟨ω,AJ,.inl C⟩⟩;rintro z t _ _ _⟨rfl,rfl,rfl,⟨rfl,a3⟩|⟨rfl,a3,c4⟩⟩;apply(Zh);apply dS [U a5,Y a4 aj a7,U a8,Y a9 aa ac];intro ch bz cp;apply(zJ);exact sK (j+1,(j:Int),s.bs j,φ,ρ2,a5,a4,aj,a7,a8,a9,aa,ac) ⟨ω,Z,zy,bz,br.t zt,bw.t zt,hv.take ap a3,aq,v⟩;apply(zG);exact sK (j+1,b,f,F,ρ,bS,aS,lS,kS,uS,vS,wS,xS) ⟨ω,Z,zy,zp,W.t zt,Z3.t zt,hv.keep ap a3 c4,S,v⟩;apply(zG);exact sK (j+1,b,f,F,ρ,bS,aS,lS,kS,uS,vS,wS,xS) ⟨ω,Z,zy,zp,W.t zt,Z3.t zt,hv.no λρ' hq=>(pb.sgn (t:=s.T j c)).2.1 hq.2.1 q9,S,v⟩;have bi:j=m:=Z;subst bi;apply(Zh);apply dS [U bS,Y aS lS kS,U uS,Y vS wS xS];intro ci cv bx;apply zq (hx:=⟨Z,λc hc=>(bx.1 c Z).trans (X5.go c hc)⟩);exact⟨_,_,_,_,_,_,_,_,_,_,_,_,ω,W.t zt,Z3.t zt,hv,S⟩
end
section
variable{h0:HF}{B Z4:Nat}{T:List Nat}
def AU.ext{h}{n}{w}(a:AU h0 n0 v0 h n w v T)(x:J3 n h h')(f:n<=n'):AU h0 n0 v0 h' n' w v T:=
 ⟨CU a.hn f,λb j i=>(x b (by have:=a.hn;omega)).trans (a.keep b j i),a.hw,Gro.ext a.g x f,a.or,a.wd⟩
theorem zjo{x s d}(a:V+c*P=Z4)(b:s+B*c'=d+c)(h3:x+d*P=V+s*P):x+c'*(P*B)=Z4:=by grind
theorem zog{P S X L}{w}(a:O L=O Z0)(b:wv L+c*18446744073709551616^O Z0=wv Z0+wv X*w):wv (P++(L++S))+c*18446744073709551616^(O P+O Z0)=wv (P++(Z0++S))+wv X*(18446744073709551616^O P*w):=by grind [wZ,only,wv]
section
variable{r:List Oper}{d:Tmp}
def TS(cs)(a:qt X ops t o d (Kd o.op=2/\Kl X.E o.op (J2 t)=ξ ⟨cs,e,χ,ξ (l,c)⟩))
  (k:∀h',h' (3*n+2)=ξ (.row cs e)->J3 n h h'->EO X ops r ⟨upd t d (Y (ξ ⟨3*n+2,0,θ⟩) l c),h',n+1,w⟩ Q):EO X ops (o::r) ⟨t,h,n,w⟩ Q:=by have⟨a,f,i,b,g⟩:=a;exact pZ ⟨a,f,i,b,g⟩ (k _ (zg _ _ _) (E9 Z))
end
def rQ(k){h}{n}{q}{X Z3}{aX aY}{lX lY cY}(g:GroU h n q T)(hT:J5 T)(hX:Sl h n 1 (Y aX lX cX) (u64s X))(hY:Sl h n 1 (Y aY lY cY) (u64s Z3))(wX:J5 X)(wY:J5 Z3)(oX:∀b,BkOf q b->Ks b (Y aX lX cX))(oY:∀b,BkOf q b->Ks b (Y aY lY cY))(hb:O T<1000000/\O X<1000000/\O Z3<1000000)(ao:O X<40\/O Z3<40):
  CF (J4 (k+3)) 134 [q,Y aX lX cX,Y aY lY cY] h n λv h' n' w=>∃T',AU h n q h' n' w v T'/\wv T'=wv T+wv X*wv Z3/\O T'<=max (O T) (O X+O Z3)+40:=by
 apply zw R4;have e1:=hX.lenW;have e2:=hY.lenW;subst e1 e2;apply(Za);apply(zM);apply st_I R5;apply(zM);refine st_I R5<|lW R6 ?_;simp only[yu,xg,zK,yY];refine yj (α:=(Option Addr×Nat×List Nat)×(Option Addr×Nat×List Nat)) (λz=>[(0,q),(1,Y z.1.1 (O z.1.2.2) z.1.2.1),(2,Y z.2.1 (O z.2.2.2) z.2.2.1)]) (λz h' n' w=>h=h'/\n=n'/\w=[]/\Sl h n 1 (Y z.1.1 (O z.1.2.2) z.1.2.1) (u64s z.1.2.2)/\Sl h n 1 (Y z.2.1 (O z.2.2.2) z.2.2.1) (u64s z.2.2.2)/\J5 z.1.2.2/\J5 z.2.2.2/\(∀b,BkOf q b->Ks b (Y z.1.1 (O z.1.2.2) z.1.2.1))/\(∀b,BkOf q b->Ks b (Y z.2.1 (O z.2.2.2) z.2.2.1))/\O z.2.2.2<40/\O z.1.2.2<1000000/\wv z.1.2.2*wv z.2.2.2=wv X*wv Z3/\O z.1.2.2+O z.2.2.2=O X+O Z3) ?_ ?_;by_cases hlt:O X<O Z3;rw[ze eU];apply(Za);exact zA ((aY,cY,Z3),(aX,cX,X)) ⟨ω,ω,ω,Cx⟩ ⟨ω,ω,ω,hY,hX,wY,wX,oY,oX,by show O X<40;omega,by show O Z3<_;omega,CY _ _,D6 _ _⟩;rw[za eS];apply(zN);exact zA ((aX,cX,X),(aY,cY,Z3)) ⟨ω,ω,ω,Cx⟩ ⟨ω,ω,ω,hX,hY,wX,wY,oX,oY,by show O Z3<40;omega,by show O X<_;omega,ω,ω⟩;rintro⟨⟨a,c,A⟩,⟨a',c',C⟩⟩ t _ _ _ ⟨rfl,rfl,rfl,hA,hC,wA,wC,oA,oC,an,ap,K,N⟩;simp only at hA hC wA wC oA oC an ap K N;rw[<-K,<-N];rw[<-N]at*;have b2:=hb.1;apply(Zi);apply st_I R5;apply(Zj);apply ye (λz=>[(0,z.1),(1,Y a (O A) c),(2,Y a' (O C) c')]) (λz h' n' w=>AU h n q h' n' w z.1 z.2/\wv z.2=wv T/\O z.2<=max (O T) (O A+O C)) (λz=>O A+O C-O z.2) (q,T) ⟨ω,ω,ω,Cx⟩ ⟨.refl g hT,ω,Nat.le_max_left _ _⟩ (by show O A+O C-O T<LL;unfold LL;omega);rintro⟨v1,p⟩ t h1 n1 w1 ⟨j,m,W⟩;simp only at j m W;obtain⟨ac,rfl,_⟩:=Jd j.g;apply(Zi);apply st_I R5;apply(zM);apply st_I R5;apply(zM);apply st_I R5;by_cases hlt:O p<O A+O C;apply(ZD);refine TS [ι 0] R5 λh2 p2 x2=>?_;refine SF (j.ext x2 Zq) R9 (yp p2 R2) Z λv3 h3 w3 a3=>?_;apply zZ R4 rfl;apply(zN);refine goOn (v3,p++[0]) aD ⟨ω,ω,ω,Cx⟩ ⟨a3,?_,?_⟩;simp only;rw[yO,Eo,DE,m];simp only;exact Bh;apply(ZB);apply st_I R5;apply(kG);apply ye (α:=ψ×List Nat×Nat) (λz=>[(0,z.1),(1,Y a (O A) c),(36,Y a' (O C) c'),(37,υ (O C:Int)),(38,υ (z.2.2:Int))]) (λz h' n' w=>AU h n q h' n' w z.1 z.2.1/\wv z.2.1=wv T+wv A*wv (C.take z.2.2)/\O A+O C<=O z.2.1/\O z.2.1<=max (O T) (O A+O C)+z.2.2/\z.2.2<=O C) (λz=>O C-z.2.2) (Y ac (O p) (O p),p,0) ⟨ω,ω,ω,ω,ω,Cx⟩ ⟨j,by simp[wv,dv]at m⊢;exact m,by show _<=O p;omega,W,Cz⟩ AG;rintro⟨v1,p,i⟩ t h1 n1 w1 ⟨j,m,ax,W,hi⟩;simp only at j m ax W hi;apply(zN);by_cases hiC:i=O C;subst hiC;rw[C3]at m;obtain⟨ac,rfl,_⟩:=Jd j.g;apply(Zp);exact retH _ ⟨ω,(zi ω),ω⟩ ⟨p,j,m,Z⟩;obtain⟨y,hy⟩:∃x,C[i]?=ξ x:=⟨C[i]'Z,CD Z⟩;have b0:=wC.get hy;obtain⟨b,rfl,a7,R,M⟩:=GroU.row j.g Z;obtain⟨P,Z0,S,D,hP,hZ⟩:∃P Z0 S,p=P++(Z0++S)/\O P=i/\O Z0=O A:=⟨p.take i,(p.drop i).take (O A),(p.drop i).drop (O A),by rw[DP,DP],Ab,ru⟩;have ad:=j.sl hA oA;have ae:=j.sl hC oC;have ab:=j.off hA oA b ⟨_,_,_,ω⟩;apply(Zs);refine yE R7 ae R2 hy (λ_=>rfl) R4 λ_=>?_;apply(Zl);apply rt i (i+O A) R9 ω ω Z;rw[show 0+i*1=O P from Z,show i+O A-i=O Z0 from Z];repeat apply(zR)
 have ai:=li k (n:=n1) (b:=b) (cZ:=O p-i) (P:=P) (Z0:=Z0) (S:=S) R (by rw[<-D];exact M) Z (λd F=>j.wd d (by rw[D];simp[F])) ad wA ab hZ Z b0;apply zF _ R5 ai;rintro _ h2 n2 w2⟨L,cc,rfl,aw,⟨al,rfl,am,ak⟩,af,a8,ag⟩;have a0:O (P++(L++S))=O p:=by rw[D];simp[a8]
 have a2:=j.trans (AU.row a7 R am al ak a0 (J5.append (λd F=>j.wd d (by rw[D];simp[F])) (J5.append af (λd F=>j.wd d (by rw[D];simp[F])))));have J:=zog (S:=S) (P:=P) a8 ag;rw[<-D,hP,hZ,m]at J;generalize hT2:P++(L++S)=T2 at a2 J a0;have J:wv T2+cc*18446744073709551616^(i+O A)=wv T+wv A*wv (C.take (i+1)):=(by rw[zQ hy,DS,J];omega);apply(ZC);apply st_I R5;apply(kG);rw[<-a0];apply ye (α:=ψ×List Nat×Nat×Nat) (λz=>[(0,z.1),(1,Y a (O A) c),(9,ι (z.2.2.1:Int)),(10,υ (z.2.2.2:Int)),(36,Y a' (O C) c'),(37,υ (O C:Int)),(38,υ (i:Int))]) (λz h' n' w=>AU h n q h' n' w z.1 z.2.1/\wv z.2.1+z.2.2.1*18446744073709551616^z.2.2.2=wv T+wv A*wv (C.take (i+1))/\O A+O C<=O z.2.1/\(O z.2.1<=max (O T) (O A+O C)+i\/(O z.2.1<=max (O T) (O A+O C)+i+1/\z.2.2.1=0))/\z.2.2.1<18446744073709551616/\z.2.2.2<=O z.2.1) (λz=>(O z.2.1-z.2.2.2)+(if z.2.2.1=0 then 0 else 1)) (Y (ξ ⟨b,0,θ⟩) (O T2) (O T2),T2,cc,i+O A) ⟨ω,ω,ω,by show υ _=υ _;rfl,ω,ω,ω,Cx⟩ ⟨by rw[a0];exact a2,J,by show _<=O T2;omega,.inl (by show O T2<=_;omega),aw,by show i+O A<=O T2;omega⟩ (by show(O T2-(i+O A))+_<LL;unfold LL;split<;>omega);rintro⟨v3,u,c3,f⟩ t h3 n3 w3 ⟨a3,Z1,aa,aj,au,aq⟩;simp only at a3 Z1 aa aj au aq;apply(zN);by_cases hc0:c3=0;subst hc0;rw[Nat.zero_mul,DE]at Z1;apply(Zp);refine goOn (v3,u,i+1) aD ⟨ω,ω,ω,ω,ω,Cx⟩ ⟨a3,Z1,aa,by show O u<=_+(i+1);omega,Ak⟩;have aj:O u<=max (O T) (O A+O C)+i:=Z;apply(Zo);obtain⟨b1,rfl,_⟩:=Jd a3.g;apply(Zb);refine st_I R5<|Mh R6 ?_;simp only[yu,xg,zK,yY];refine yj (α:=ψ×List Nat) (λz=>[(0,z.1),(1,Y a (O A) c),(9,ι (c3:Int)),(10,υ (f:Int)),(36,Y a' (O C) c'),(37,υ (O C:Int)),(38,υ (i:Int))]) (λz h' n' w=>AU h n q h' n' w z.1 z.2/\wv z.2=wv u/\f<O z.2/\O A+O C<=O z.2/\(O z.2=O u\/(O z.2=O u+1/\f=O u/\z.2[f]?=ξ 0))) ?_ ?_;by_cases hat:f=O u;rw[ze eU];apply(Zi);refine TS [ι 0] R5 λh4 p4 x4=>?_;refine SF (a3.ext x4 Zq) R9 (yp p4 R2) Z λv5 h5 w5 a5=>?_;apply zZ R4 rfl;apply(zN);refine zA (v5,u++[0]) ⟨ω,ω,ω,ω,ω,ω,ω,Cx⟩ ⟨a5,?_,?_,?_,.inr ⟨?_,hat,?_⟩⟩;simp only;rw[yO,Eo,DE];simp only;exact Bh;simp only;exact Bh;simp only;rw[CJ,List.length_singleton];simp only;rw[hat,Dn Cy,DY];rfl;rw[za eS];apply(zN);exact zA (_,u) ⟨ω,ω,ω,ω,ω,ω,ω,Cx⟩ ⟨a3,ω,by show f<O u;omega,aa,.inl ω⟩;rintro⟨v4,I⟩ t h4 n4 w4 ⟨a4,ah,a9,ay,H⟩;simp only at a4 ah a9 ay H;rw[<-ah]at Z1;obtain⟨b,rfl,a7,R,M⟩:=GroU.row a4.g Z;obtain⟨d,F⟩:∃x,I[f]?=ξ x:=⟨I[f]'Z,CD Z⟩;have b3:=a4.wd.get F;apply(Zg);refine yE R7 (Gro.sl a4.g) R2 F (λ_=>rfl) R4 λ_=>?_;repeat apply(zR)
 apply vt (c:=0) R5 zd;obtain⟨s,hs⟩:∃x,x=(d+c3+0)%18446744073709551616:=⟨_,ω⟩;obtain⟨c5,av⟩:∃x,x=(d+c3+0)/18446744073709551616:=⟨_,ω⟩;rw[<-hs,<-av];repeat apply(zR)
 refine zl6 R9 ⟨a9,by rw[zL];exact a9⟩ M (λ_=>rfl) ω ω ω (λ_=>rfl) ω λ_=>?_;rw[yk];apply(Zn);have a6:O (I.set f s)=O I:=DH;have a5:=a4.trans (AU.row (h':=upd h4 b (ξ (.row (u64s (I.set f s)) 152))) a7 R (λk hk az=>zm az) (λc hc=>CV.1 hc) (zg _ _ _) a6 (J5.set a4.wd Z));refine goOn (_,I.set f s,c5,f+1) ?_ ⟨ω,ω,ω,ω,ω,ω,ω,Cx⟩ ⟨a5,?_,?_,?_,?_,?_⟩;show(O (I.set f s)-(f+1))+(if c5=0 then 0 else 1)<(O u-f)+(if c3=0 then 0 else 1);rw[a6,Cv hc0];obtain H|⟨H,ar,G⟩:=H;split<;>omega;rw[F]at G;injection G with G;rw[Cw Z];omega;simp only;rw[C5];exact zjo Z1 Z (Mj s F);show _<=O (I.set f s);omega;show(I.set f s).length<=_\/_;rw[a6];obtain H|⟨H,ar,G⟩:=H;exact .inl Z;rw[F]at G;injection G with G;exact .inr ⟨Z,by show c5=0;omega⟩;show c5<_;omega;show f+1<=O (I.set f s);omega
end
section
variable{lo:Nat}{h0:HF}{T:List Nat}
def SumO(lo:Nat)(h:HF)(n bS:Nat)(z:Int)(m:Nat):Prop:=∃vP vN P N e,3*lo<=bS/\bS<3*n/\gro bS=χ/\h bS=ξ (.row [vP,vN] e)/\Gro h lo n 152 1 vP (O P) (u64s P)/\Gro h lo n 152 1 vN (O N) (u64s N)/\J5 P/\J5 N/\(∀b,BkOf vP b->¬BkOf vN b)/\z=(wv P:Int)-wv N/\O P<=m/\O N<=m
def SumO.ext{z}(s:SumO lo h n bS z m)(x:J3 n h h')(a:n<=n'):SumO lo h' n' bS z m:=by have⟨o,l,P,N,e,b,c,d,f,g,i,j⟩:=s;exact⟨o,l,P,N,e,b,Z,d,(x _ c).trans f,g.ext x a,i.ext x a,j⟩
def SumO.start(a:3*lo<=bS)(c:bS<3*n)(h3:gro bS=χ)(d:h bS=ξ (.row [η,η] e)):SumO lo h n bS 0 0:=
 ⟨_,_,[],[],e,a,c,h3,d,.nil,.nil,J5.nil,J5.nil,λb⟨_,_,_,h⟩=>Aa,ω,Cy,Cy⟩
def AU.gro(a:AU h0 n0 v0 h n w v T)(f:lo<=n0)(hv:∀b,BkOf v0 b->3*lo<=b):Gro h lo n 152 1 v (O T) (u64s T):=by
 have g:Gro h 0 n 152 1 v (O T) (u64s T):=a.g;have d:=a.or;generalize (O T)=tl at g;generalize u64s T=tc at g;cases g with
 |nil=>exact .nil
 | @at_ b _ _ hg _ hb hr hl ho2=>
  refine .at_ hg ?_ hb hr hl ho2;obtain e|c:=d;exact hv _ ⟨_,_,_,e.symm⟩;have c:3*n0<=b:=c;omega
def Gro.bk{C}(g:Gro h lo n e 1 v len C):∀b,BkOf v b->3*lo<=b/\b<3*n/\gro b=φ:=by
 rintro b⟨o,l,c,e⟩;cases g with
 |nil=>cases e
 |at_ hg hlo hb hr hl ho=>cases e;exact⟨hlo,hb,hg⟩
def Gro.weak{C}(g:Gro h lo n e 1 v len C):Gro h 0 n e 1 v len C:=by
 cases g with
 |nil=>exact .nil
 |at_ hg hlo hb hr hl ho=>exact .at_ hg Z hb hr hl ho
def Gro.beside{u}{C}(g:Gro h0 lo n0 e 1 u len C)(d:Keep v n0 h0 h)(a:∀b,BkOf u b->¬BkOf v b)(f:n0<=n):Gro h lo n e 1 u len C:=by
 cases g with
 |nil=>exact .nil
 |at_ hg hlo hb hr hl ho=>exact .at_ hg hlo Z ((d _ hb λo l c e=>a _ ⟨_,_,_,ω⟩ ⟨o,l,c,e⟩).trans hr) hl ho
def SumO.mono{z}(s:SumO lo h n bS z m)(hm:m<=m'):SumO lo h n bS z m':=by have⟨q,p,P,N,e,b,c,d,f,g,i,j,l,o,a,u,y⟩:=s;exact⟨q,p,P,N,e,b,c,d,f,g,i,j,l,o,a,Z,Z⟩
def Gro.off{C}{x}(g:Gro h lo n e 1 v len C)(hb:gro bS=χ):Gro (upd h bS x) lo n e 1 v len C:=by
 cases g with
 |nil=>exact .nil
 |at_ hg hlo hbn hr hl ho=>exact .at_ hg hlo hbn ((zm λe=>by rw[e,hb]at hg;cases hg).trans hr) hl ho
theorem zl1{x y}{p:Nat}(h:(decide (x<0)==decide (y<0))=φ):(p:Int)-n+x*y=((p+x.natAbs*y.natAbs:Nat):Int)-n:=by grind
theorem zl2{x y}{p:Nat}(h:¬(decide (x<0)==decide (y<0))=φ):(p:Int)-n+x*y=(p:Int)-((n+x.natAbs*y.natAbs:Nat):Int):=by grind
theorem nO(k){z}{x y}(hs:SumO lo h n bS z m)(W:lo<=n)(ix:IW h lo b1 a1 l1 c1 x)(iy:IW h lo b2 a2 l2 c2 y)(sx:l1<40)(sy:l2<40)(hm:m<=1000):
  CF (J4 (k+4)) 99 [ε bS,.agg #[U b1,Y a1 l1 c1],.agg #[U b2,Y a2 l2 c2]] h n λ_ h' n' w=>SumO lo h' n' bS (z+x*y) (m+130)/\n<=n'/\J3 lo h h'/\(x*y=0\/bS∈w)/\∀c∈w,3*lo<=c:=by
 obtain⟨rfl,X,sX,nX,vX⟩:=ix;obtain⟨rfl,Z3,sY,nY,vY⟩:=iy;have eX:=sX.lenW;have eY:=sY.lenW;subst eX eY;apply Lg R4;have R:x*y=0->SumO lo h n bS (z+x*y) (m+130):=λe=>by rw[e,It];exact hs.mono Z
 apply(zN);apply tK [U (decide (x<0)),Y a1 (O X) c1] R5;intro h5 p5 x5;apply tK [U (decide (y<0)),Y a2 (O Z3) c2] R5;intro h6 p6 x6;have q5:=(x6 (3*n+2) Z).trans p5;have p:J3 n h h6:=x5.trans x6 (C8 n);have I:∀(t:TF),x*y=0->(rI .ret=φ/\∃vs,resF Kc ⟨t,h6,n+1+1,[]⟩ (Tryz.f99).results.toList=ξ vs/\(SumO lo h6 (n+1+1) bS (z+x*y) (m+130)/\n<=n+1+1/\J3 lo h h6/\(x*y=0\/bS∈([]:List Nat))/\∀c∈([]:List Nat),3*lo<=c)/\(True->SumO lo h n bS (z+x*y) (m+130)/\n<=n/\J3 lo h h/\(x*y=0\/bS∈([]:List Nat))/\∀c∈([]:List Nat),3*lo<=c)):=λt e=>
  ⟨rfl,[],rfl,⟨(R e).ext p Z,Z,p.mono W,.inl e,λc hc=>Cu hc CO⟩,λ_=>⟨R e,Cy,Fy _ _,.inl e,λc hc=>Cu hc CO⟩⟩
 apply(Zi);apply zT R6 q5 R2;apply(zM);by_cases hX0:O X=0
 .have hx:x=0:=by rw[CT.1 hX0]at vX;have:wv []=0:=rfl;omega
  apply(Zo);exact I _ (by rw[hx,Gn])
 repeat apply(zR)
 apply zT R6 p6 R2;apply(zM);by_cases hY0:O Z3=0
 .have hy:y=0:=by rw[CT.1 hY0]at vY;have:wv []=0:=rfl;omega
  apply(Zo);exact I _ (by rw[hy,GS])
 apply(ZB);apply zT R6 q5 R2;apply(zM);apply zT R6 p6 R2;apply st_B R5;obtain⟨Z4,S,P,N,e,h1,h2,G,h4,D,B,wP,wN,hd,hz,lP,lN⟩:=hs;have q6:=(p bS h2).trans h4;have a0:=sX.ext (p.mono W) (show lo<=n+1+1 by omega);have a3:=sY.ext (p.mono W) (show lo<=n+1+1 by omega);have F:∀{v:ψ} {len:Nat} {C:List ψ} {e:TypeId} (_:Gro h lo n e 1 v len C) (a:Option Addr) (l c:Nat) {cs:List ψ} (_:Sl h lo 1 (Y a l c) cs),∀b,BkOf v b->Ks b (Y a l c):=λg a l c _ s b L=>s.below.off (g.bk b L).1;clear I R;apply(zN);by_cases hsg:(decide (x<0)==decide (y<0))=φ
 .rw[za (by show U _=_;rw[hsg];rfl)];apply(zl);apply(zE);apply(zE);apply(zE);apply(zE);apply yd R6 (nJ rfl q6 R2) R2;apply(zE);apply yd R6 (nJ rfl q5 R2) R2;apply(zE);apply yd R6 (nJ rfl p6 R2) R2;apply wa _ R7 (rQ k (D.weak.ext p Z) wP a0 a3 nX.1 nY.1 (F D a1 (O X) c1 sX) (F D a2 (O Z3) c2 sY) Z Z);rintro v7 h7 n7 w7⟨d,f,e7,l7⟩;obtain⟨j,rfl,_⟩:=Jd f.g;have H:=f.hn;refine⟨rfl,H,?_⟩;have q7:h7 bS=ξ (.row [Z4,S] e):=(f.keep bS Z λo l c i=>by
   have:=(D.bk bS ⟨o,l,c,i⟩).2.2;rw[G]at this;cases this).trans q6
  apply(zE);apply(zE);apply mX rfl rfl rfl (xn rfl rfl rfl rfl q7 zb) rfl rfl rfl Cy;rw[MW];apply(zN);have g7:=f.gro Z λb L=>(D.bk b L).1;have g8:=g7.off G (x:=ξ (.row [Y j (O d) (O d),S] e));have V:=((B.ext p Z).beside f.keep (λb u A=>hd b A u) H).off G (x:=ξ (.row [Y j (O d) (O d),S] e));have q:bS∈addW n [bS] (addW n w7 []):=wQ h2 (CV.2 rfl);refine⟨rfl,[],rfl,⟨⟨_,S,d,N,e,h1,Z,G,zg _ _ _,g8,V,f.wd,wN,?_,?_,Z,Z⟩,by show n<=n7;omega,λb L=>?_,.inr q,λc hc=>?_⟩,λZ1=>?_⟩
  .intro b u A;have q1:=B.bk b A;have Z0:Y j (O d) (O d)=Z4\/xC (n+1+1) (Y j (O d) (O d)):=f.or;rcases Z0 with i|M
   .exact hd b (i▸u) A
   obtain⟨o,l,c,i⟩:=u;have i:Y j (O d) (O d)=Y (ξ ⟨b,o,θ⟩) l c:=i;rw[i]at M;have M:3*(n+1+1)<=b:=M;omega
  .rw[e7,vX,vY,hz];exact zl1 hsg
  .refine(zm Z).trans ((f.keep b Z λo l c i=>?_).trans (p b Z));have:=(D.bk b ⟨o,l,c,i⟩).1;omega
  .rcases tI _ _ c hc with⟨J,_⟩|J
   .rw[CV.1 J];exact h1
   rcases tI _ _ c J with⟨K,_⟩|K
   .exact(D.bk c (f.hw c K)).1
   exact Cu K CO
  have Z1:addW n [bS] (addW n w7 [])=[]:=Z1;rw[Z1]at q;exact Cu q CO
 rw[ze (by show U _=_;rw[Bool.eq_false_iff.2 hsg];rfl)];apply(zl);apply(zE);apply(zE);apply(zE);apply(zE);apply yd R6 (nJ rfl q6 R2) R2;apply(zE);apply yd R6 (nJ rfl q5 R2) R2;apply(zE);apply yd R6 (nJ rfl p6 R2) R2;apply wa _ R7 (rQ k (B.weak.ext p Z) wN a0 a3 nX.1 nY.1 (F B a1 (O X) c1 sX) (F B a2 (O Z3) c2 sY) Z Z);rintro v7 h7 n7 w7⟨d,f,e7,l7⟩;obtain⟨j,rfl,_⟩:=Jd f.g;have H:=f.hn;refine⟨rfl,H,?_⟩;have q7:h7 bS=ξ (.row [Z4,S] e):=(f.keep bS Z λo l c i=>by
  have:=(B.bk bS ⟨o,l,c,i⟩).2.2;rw[G]at this;cases this).trans q6
 apply(zE);apply(zE);apply mX rfl rfl rfl (xn rfl rfl rfl rfl q7 zb) rfl rfl rfl Cy;rw[MW];apply(zN);have g7:=f.gro Z λb L=>(B.bk b L).1;have g8:=g7.off G (x:=ξ (.row [Z4,Y j (O d) (O d)] e));have V:=((D.ext p Z).beside f.keep (hd) H).off G (x:=ξ (.row [Z4,Y j (O d) (O d)] e));have q:bS∈addW n [bS] (addW n w7 []):=wQ h2 (CV.2 rfl);refine⟨rfl,[],rfl,⟨⟨Z4,_,P,d,e,h1,Z,G,zg _ _ _,V,g8,wP,f.wd,?_,?_,Z,Z⟩,by show n<=n7;omega,λb L=>?_,.inr q,λc hc=>?_⟩,λZ1=>?_⟩
 .intro b u A;have q1:=D.bk b u;have Z0:Y j (O d) (O d)=S\/xC (n+1+1) (Y j (O d) (O d)):=f.or;rcases Z0 with i|M
  .exact hd b u (i▸A)
  obtain⟨o,l,c,i⟩:=A;have i:Y j (O d) (O d)=Y (ξ ⟨b,o,θ⟩) l c:=i;rw[i]at M;have M:3*(n+1+1)<=b:=M;omega
 .rw[e7,vX,vY,hz];exact zl2 hsg
 .refine(zm Z).trans ((f.keep b Z λo l c i=>?_).trans (p b Z));have:=(B.bk b ⟨o,l,c,i⟩).1;omega
 .rcases tI _ _ c hc with⟨J,_⟩|J
  .rw[CV.1 J];exact h1
  rcases tI _ _ c J with⟨K,_⟩|K
  .exact(B.bk c (f.hw c K)).1
  exact Cu K CO
 have Z1:addW n [bS] (addW n w7 [])=[]:=Z1;rw[Z1]at q;exact Cu q CO
end
section
variable{lo:Nat}
def zmz(k)(h)(n)(b)(a)(l c):CF (J4 (k+2)) 102 [.agg #[U b,Y a l c]] h n λv g j w=>v=.agg #[U (!b&&decide (0<l)),Y a l c]/\n<=j/\w=[]/\J3 n h g:=by apply zw R4;apply(zN);refine tK [U b,Y a l c] R5 λA p y=>?_;refine wt [U χ,η] R6 λi q e=>?_;have d:=(e (3*n+2) Z).trans p;apply(Zi);apply zT R6 d R2;apply st_B R5;apply(zM);refine zT R6 d R2<|zF _ R5 (rx k i (n+1+1) (!b) a l c) ?_;rintro _ B D _⟨rfl,rfl,rfl,f⟩;have u:=(f (3*(n+1)+2) Z).trans q;refine mq [U (!b&&decide (0<l)),Y a l c] R5 u R3 zb ω eF λC s o=>?_;apply(zN);exact uq R5 s ω ⟨ω,by show n<=n+1+1+1;omega,ω,J3.st ((y.trans e (C8 n)).trans f Z) o Z⟩
theorem ff(k){z}{x y}(j:SumO lo h n bS z m)(d:lo<=n)(p:IW h lo b1 a1 l1 c1 x)(L:IW h lo b2 a2 l2 c2 y)(R:l1<40)(S:l2<40)(hm:m<=1000):
  CF (J4 (k+5)) 100 [ε bS,.agg #[U b1,Y a1 l1 c1],.agg #[U b2,Y a2 l2 c2]] h n λ_ s C w=>SumO lo s C bS (z-x*y) (m+130)/\n<=C/\J3 lo h s/\(x*y=0\/bS∈w)/\∀c∈w,3*lo<=c:=by
 have o:x=0↔l1=0:=by rw[p.2.zero];omega
 have q:=p.1;have K:∀{g:HF} (_:J3 lo h g),IW g lo (!b1&&decide (0<l1)) a1 l1 c1 (-x):=λT=>⟨by
  rw[q];by_cases a:l1=0;rw[a,o.2 a];rfl;have:x≠0:=λe=>a (o.1 e);rw[Ct (show 0<l1 from Z),Bool.and_true];by_cases hx:x<0;rw[Ct hx,BG (show ¬ -x<0 from Z)];rfl;rw[BG hx,Ct (show -x<0 from Z)];rfl,by rw[Int.natAbs_neg];exact p.2.ext T Cy⟩
 apply Lg R4;apply(zN);refine tK [U b1,Y a1 l1 c1] R5 λh5 N Z4=>?_;refine tK [U b2,Y a2 l2 c2] R5 λu Z1 H=>?_;have P:=(H (3*n+2) Z).trans N;have G:J3 n h u:=Z4.trans H (C8 n);apply(zN);apply(zl);apply(zE);refine yd R6 (yw R2 P ω zb ω) R2<|wa _ R7 (zmz (k+2) u (n+1+1) b1 a1 l1 c1) ?_;rintro _ J n7 _⟨rfl,Z3,rfl,V⟩;refine⟨ω,Z3,?_⟩;have b:J3 n h J:=G.trans V Z;refine yd R6 (yw R2 Z1 ω zb ω) R2<|wa _ R7 (nO k (j.ext b Z) Z (K (b.mono d)) (L.ext (b.mono d) Cy) R S hm) ?_;rintro v8 h8 M F⟨D,Z0,W,v,B⟩;refine⟨ω,Z0,?_⟩;rw[MW];have I:z+ -x*y=z-x*y:=by grind
 rw[I]at D;have A:bS<3*n:=(by have⟨_,_,_,_,_,_,g,_⟩:=j;exact g);have f:x*y=0\/bS∈addW n F []:=(by obtain a|a:=v;left;rw[Int.neg_mul]at a;omega;exact .inr (wQ A a));refine⟨ω,[],ω,⟨D,by show n<=M;omega,(b.mono d).trans W Cy,f,λc hc=>?_⟩,λl=>?_⟩;obtain⟨i,_⟩|i:=tI _ _ c hc;exact B c i;exact Cu i CO;have l:addW n F []=[]:=l;rw[l]at f;have a:x*y=0:=f.resolve_right CO;exact⟨by rw[a,Int.sub_zero];exact j.mono Z,Cy,Fy _ _,.inl a,λc hc=>Cu hc CO⟩
end
theorem TT(k){h}{n}{o p}{M q N s}{A C}(u:Sl h n 1 (Y o M q) (u64s A))(i:Sl h n 1 (Y p N s) (u64s C))(Z1:NW A)(P:NW C)(hb:O A<100000000)(F:wv C<=wv A):
  CF (J4 (k+2)) 136 [Y o M q,Y p N s] h n λv T Z3 w=>∃L,ResW n h v T Z3 w L/\wv L=wv A-wv C:=by
 apply zw R4;have R:=u.lenW;have S:=i.lenW;subst R S;have m:O C<=O A:=by
  rcases EB (O A) (O C) with j|j
  .have:=Z1.len_lt P j;omega
  exact j
 apply(Za);apply(zM);refine st_I R5<|vB R9 Z ?_;rw[show zn (ι 0)=[ι 0]from rfl,xO];generalize hh:upd h (3*n+2) _=h1;have d:∃e,h1 (3*n+2)=ξ (.row (u64s (CI (O A) 0)) e):=⟨_,gZ⟩;have⟨e,d⟩:=d;have f:J3 n h h1:=by grind [E9]
 apply(ZC);apply lZ R7 (uX (u.ext f (C8 n))) Cy d (by simp[zL,Dk]) (xW _) bJ;rw[List.drop_eq_nil_of_le (by simp[zL,Dk]),List.append_nil];generalize hh:upd h1 (3*n+2) _=h2;have G:h2 (3*n+2)=ξ (.row (u64s A) e):=by rw[<-hh,zg]
 have g:J3 n h h2:=λb hb=>by rw[<-hh,zm Z];exact f b hb
 apply(ZC);apply zF _ R5 (mB k Z G Cy Z1.1 (i.ext g (C8 n)) P.1 (i.below.off Z) m Z F);rintro _ h3 n3 w3⟨L,⟨J,rfl,K,H⟩,B,D,a0⟩;try simp only[tH]
 rw[my λy W=>by rw[J y W];show 3*n<=3*n+2;omega];apply(kG);apply(zM);have I:=xi k (n:=n+1) (a:=ξ ⟨3*n+2,0,θ⟩) (len:=O A) (cap:=O A) (l:=L) Z (λ_ e=>by injection e with e;rw[<-e]) (xr Z H D);apply zF _ R5 I;rintro _ _ _ _⟨rfl,rfl,rfl,rfl,V⟩;apply(kG);have⟨Z0,t2⟩:=xD B;exact retH _ ⟨rfl,(zi rfl),rfl⟩ ⟨_,⟨rfl,C8 n,λc Z4=>(K c Z Z).trans (g c Z4),V,Z0⟩,by rw[t2];omega⟩
section
variable{lo:Nat}
def Gro.form{C}(g:Gro h lo n e 1 v len C):∃a,v=Y a len len/\(∀b,a=ξ b->b.spot=θ):=by
 cases g with
 |nil=>exact⟨θ,ω,λb h=>by cases h⟩
 |at_ hg hlo hb hr hl ho=>exact⟨_,ω,λb h=>by injection h with h;rw[<-h]⟩
theorem zot(k){z}(R:SumO lo h n bS z m)(hm:m<=10000):CX (J4 (k+4)) 101 [ε bS] h n (IV z):=by
 have⟨vP,vN,P,N,e,h1,J,h3,K,B,A,wP,Z0,hd,hz,lP,lN⟩:=R;obtain⟨aP,rfl,W⟩:=B.form;obtain⟨aN,rfl,V⟩:=A.form;apply zw R4;apply(zN);refine wt [U χ,η] R6 λh5 D l=>?_;have F:=(l bS J).trans K;have Z4:=B.sl.ext l (C8 n);have T:=A.sl.ext l (C8 n);have⟨u,H⟩:=xD wP;have⟨s,G⟩:=xD Z0;have tP:=xU P;have tN:=xU N;apply(zN);apply(zl);apply(zE);apply(zE);apply(zE);refine yd R6 (nJ ω F R2) R2<|wa _ R7 (xi (k+2) Z W Z4) ?_;rintro _ _ _ _⟨rfl,rfl,rfl,rfl,zP⟩;refine⟨ω,Cy,?_⟩;apply(zE);apply(zE);apply(zE);refine yd R6 (nJ ω F R2) R2<|wa _ R7 (xi (k+2) Z V T) ?_;rintro _ _ _ _⟨rfl,rfl,rfl,rfl,zNg⟩;refine⟨ω,Cy,?_⟩;apply(zE);apply(zE);rw[MW];apply(Zt);apply yi _ R5 (uF k zP zNg u s Z);rintro _ rfl;rw[H,G];by_cases hle:wv N<=wv P;have hc:0<=cmpZ (wv P) (wv N):=by grind [cmpZ]
 apply(Zx);apply zF _ R5 (TT (k+1) zP zNg u s Z Z);rintro Z3 p a _⟨L,⟨rfl,y6,o,d,q⟩,y⟩;obtain⟨f,c,g,rfl,_⟩:=d.len;apply zF _ R5 (rx (k+2) p a χ f c g);rintro _ M S _⟨rfl,rfl,rfl,b⟩;have j:=(b (3*n+2) Z).trans ((o (3*n+2) Z).trans D);refine mq [U χ,Y f c g] R5 j R3 zb ω eF λZ1 w i=>?_;apply(zN);refine uq R5 w ω ⟨ω,by show n<=a+1;omega,J3.st ((l.trans o (C8 n)).trans b Z) i Z,_,_,_,_,ω,?_,?_⟩;rw[BG Z];exact WW.only ⟨L,d.ext b (C8 a),q,Z⟩ j ω i;have hc:cmpZ (wv P) (wv N)<0:=by grind [cmpZ]
 apply(ZE);apply zF _ R5 (TT (k+1) zNg zP s u Z Z);rintro Z3 p a _⟨L,⟨rfl,y6,o,d,q⟩,y⟩;obtain⟨f,c,g,rfl,_⟩:=d.len;apply zF _ R5 (rx (k+2) p a φ f c g);rintro _ M S _⟨rfl,rfl,rfl,b⟩;have C:0<c:=(by have:=d.lenW;subst this;refine Nat.pos_of_ne_zero λI=>?_;rw[CT.1 I]at y;have:wv []=0:=rfl;omega);rw[Ct C];have j:=(b (3*n+2) Z).trans ((o (3*n+2) Z).trans D);refine mq [U φ,Y f c g] R5 j R3 zb ω eF λZ1 w i=>?_;apply(zN);refine uq R5 w ω ⟨ω,by show n<=a+1;omega,J3.st ((l.trans o (C8 n)).trans b Z) i Z,_,_,_,_,ω,?_,?_⟩;rw[Ct Z];exact WW.only ⟨L,d.ext b (C8 a),q,Z⟩ j ω i
end
def rowL(N:Nat)(f:Nat->Int):List Int:=(DO N).map f
def yv{N}{f}:O (rowL N f)=N:=by unfold rowL;rw[CN,Ff]
def vu{N j}{f}(h:j<N):(rowL N f)[j]?=ξ (f j):=by unfold rowL;rw[Dx,GB h];rfl
def fI{N}{f:Nat->Int}{zs}(c:O zs=N)(h:∀j,j<N->zs[j]?=ξ (f j)):zs=rowL N f:=by refine Eh λj=>?_;by_cases hj:j<N;rw[h j hj,vu hj];rw[Dc Z,Dc (by rw[yv];omega)]
def zht{N j}{f}{q}:(rowL N f).set j q=rowL N (Ka f j q):=by refine fI (by rw[DH,yv]) λi c=>?_;rw[G3,yv];unfold Ka;by_cases e:j=i;subst e;rw[Cw ω,Cw c,Cw rfl];rw[Cv e,Cv λq=>e q.symm,vu c]
def LG(Z4:Nat->Nat->Int)(i j:Nat)(q:Int):Nat->Nat->Int:=λa=>if a=i then Ka (Z4 i) j q else Z4 a
structure Tb (h:HF)(n m N:Nat)(B:Nat->Nat)(Z4:Nat->Nat->Int):Prop where
 o:∀a,a<=m->OZ h n (B a) (rowL N (Z4 a))
 g:∀a,a<=m->gro (B a)=χ
 j:∀a b,a<=m->b<=m->B a=B b->a=b
section
variable{B:Nat->Nat}{Z4:Nat->Nat->Int}{q:Int}
def Tb.go(t:Tb h n m N B Z4)(T:Tr n h n' h')(e:∀a,a<=m->h' (B a)=h (B a)):Tb h' n' m N B Z4:=⟨λa c=>(t.o a c).go Fz T (e a c),t.g,t.j⟩
def Tb.x(t:Tb h n m N B Z4)(T:Tx n h n' h':=by exact zx):Tb h' n' m N B Z4:=⟨λa c=>(t.o a c).xx intP.kp T,t.g,t.j⟩
def Tb.as(t:Tb h n m N B Z4)(e:∀a b,a<=m->b<N->Z4 a b=U' a b):Tb h n m N B U':=⟨λa c=>(t.o a c).as (fI yv λj f=>by rw[vu f,e a j c f]),t.g,t.j⟩
theorem Tb.set(t:Tb h n m N B Z4)(hi:i<=m)(o:OZ h' n (B i) ((rowL N (Z4 i)).set j q))(S:Kp (B i) h h'):Tb h' n m N B (LG Z4 i j q):=by
 refine⟨λa c=>?_,t.g,t.j⟩;unfold LG;split
 .next e=>rw[e,<-zht];exact o
 next e=>exact(t.o a c).go Fz (FG S (Eg _ _)) (S.1 _ λf=>e (t.j a i c hi f))
def Tb.el(t:Tb h n m N B Z4)(hi:i<=m)(hj:j<N):∃b1 a1 l1 c1,At h (B i) (0+j*2) [U b1,Y a1 l1 c1]/\IW h n b1 a1 l1 c1 (Z4 i j):=by obtain⟨c,⟨g,f,u,c,rfl,p⟩,_,v⟩:=(t.o i hi).get (vu hj) (C9 _);exact⟨g,f,u,c,v,p⟩
end
def KE(T:Nat->Nat->Int)(d:Int)(r e i j:Nat):Nat->Nat->Int:=λa b=>if(a<i\/a=i/\b<j)/\a≠r/\b≠e then(T a b*T r e-T a e*T r b).tdiv d else T a b
section
variable{T:Nat->Nat->Int}{d:Int}{e a:Nat}
def zgz:KE T d r e 0 0=T:=by funext a b;unfold KE;rw[Cv Z]
def pS(h:a=r\/b=e\/a=i/\j<=b):KE T d r e i j a b=T a b:=by unfold KE;rw[Cv Z]
theorem TU(hi:i≠r)(hj:j≠e):LG (KE T d r e i j) i j ((T i j*T r e-T i e*T r j).tdiv d)=KE T d r e i (j+1):=by unfold LG Ka KE;grind
theorem zlp:KE T d r e i e=KE T d r e i (e+1):=by grind [KE]
theorem zg0(hi:i≠r)(hj:j≠e)(h:T i j=0)(h':T i e=0\/T r j=0):KE T d r e i j=KE T d r e i (j+1):=by
 rw[<-TU hi hj];have c:(T i j*T r e-T i e*T r j).tdiv d=0:=by rcases h' with h'|h'<;>rw[h,h']<;>simp
 rw[c];funext a b;unfold LG Ka;split
 .next q=>
  show _=if b=j then _ else _
  split
  .next q2=>rw[q,q2,pS (.inr (.inr ⟨rfl,Cy⟩)),h]
  rw[q]
 rfl
theorem zlm(hb:b<N):KE T d r e i N a b=KE T d r e (i+1) 0 a b:=by grind [KE]
theorem zln:KE T d r e r 0 a b=KE T d r e (r+1) 0 a b:=by grind [KE]
end
structure Apa (l m bs:Nat)(d:Sol)(A:Adr)(B:Nat->Nat):Prop where
 bs:3*l<=bs
 lo:∀i,i<=m->3*l<=B i
 inj:∀i j,i<=m->j<=m->B i=B j->i=j
 ta:∀i,i<=m->∃zs,d.ta[i]?=ξ (B i,zs)
 dj:∀b,BkOf (Y A.nb (O d.nb) (O d.nb)) b->¬BkOf (Y A.ba (O d.ba) (O d.ba)) b
section
variable{s:PS}{B:Nat->Nat}
def Apa.at(f:Apa l m bs d A B)(p:SolP n m d s){i}(hi:i<=m):d.ta[i]?=ξ (B i,rowL n (s.T i)):=by have⟨zs,e⟩:=f.ta i hi;have⟨r,c,g,o⟩:=p.ta i hi;rw[e]at c;cases c;have q:zs=rowL n (s.T i):=fI g o;rw[e,q]
def Apa.tb(c:Apa l m bs d A B)(g:SM l h n0 bs d A)(o:SolP n m d s):Tb h n0 m n B s.T:=
 ⟨λa f=>(g.rw _ (CE (c.at o f))).1,λa f=>(g.rw _ (CE (c.at o f))).2,c.inj⟩
def Apa.ne(v:Apa l m bs d A B)(o:SM l h n0 bs d A)(D:SolP n m d s)(C:0<n){i}(hi:i<=m):B i≠bs:=λe=>by
 have⟨b,a,u,c,L,F,_⟩:=o.st;have⟨H,G,K,I,p,_⟩:=(v.tb o D).el hi C;rw[e]at p;have⟨f,J,g,w,_,y⟩:=p;rw[F]at g;cases g;cases w;cases y
end
def Rec.key{C}{p}{h h'}{n n'}(g:Rec 1 (λc d=>KI c d h n) C p):∀{f:List (Nat×List Int)},f.map (λr=>(r.1,O r.2))=p.map (λr=>(r.1,O r.2))->Rec 1 (λc d=>KI c d h' n') C f:=by
 induction g with
 |nil=>
  intro f e;cases f with
  |nil=>exact .nil
  |cons x y=>cases e
 |cons hl o hr ih=>
  intro f e;cases f with
  |nil=>cases e
  |cons x y=>
   injection e with e1 e2;injection e1 with e3 e4;refine .cons hl ?_ (ih e2);show _=_;have o:_=_:=o;rw[o,e3,e4]
theorem GR.key{lo n}{h}{e}{v}{f c}(g:GR 1 KI lo h n e v f)(k:c.map (λr=>(r.1,O r.2))=f.map (λr=>(r.1,O r.2))):GR 1 KI lo h n e v c:=by
 have⟨C,o,p,u⟩:=g;have w:O c=O f:=by grind [O,CN]
 exact⟨C,by rw[w];exact o,p.key k,u⟩
theorem SM.piv{l n0 n' bs m H I}{h h'}{d}{A}{B:Nat->Nat}{L}{p w}{o}{b}{a}{u c}{ty}(f:SM l h n0 bs d A)(W:∀a,a<=m->gro (B a)=χ)(hv:A.ba=ξ ⟨H,0,θ⟩)(Z0:A.nb=ξ ⟨I,0,θ⟩)(T:Tr n0 h n' h')(K:∀b,b<3*n0->b≠bs->(∀a,a<=m->b≠B a)->b≠H->b≠I->h' b=h b)
  (st:h' bs=ξ (.row [υ (d.n:Int),Y A.sc (O d.sc) (O d.sc),Y A.lo (O d.lo) (O d.lo),Y A.hi (O d.hi) (O d.hi),Y A.va (O d.va) (O d.va),Y A.ba (O d.ba) (O d.ba),Y A.nb (O d.nb) (O d.nb),Y A.ta (O d.ta) (O d.ta),U b,Y a u c] ty))(i:IW h' n' b a u c L)(Z1:O p=O d.ba)(R:O w=O d.nb)(ob:GR 1 natP l h' n' 3 (Y A.ba (O d.ba) (O d.ba)) p)(on:GR 1 natP l h' n' 3 (Y A.nb (O d.nb) (O d.nb)) w)(k:o.map (λr=>(r.1,O r.2))=d.ta.map (λr=>(r.1,O r.2)))(V:∀r∈o,OZ h' n' r.1 r.2/\gro r.1=χ):SM l h' n' bs {d with den:=L,ba:=p,nb:=w,ta:=o} A:=by
 have S:O o=O d.ta:=by grind [O,CN]
 have F:∀{sz:Nat} {D:Type} {P:List ψ->D->HF->Nat->Prop} {ds:List D} {v:ψ} {e:TypeId},GR sz P l h n0 e v ds->(∀b,BkOf v b->b≠H/\b≠I)->∀b,BkOf v b->h' b=h b:=λg J b y=>(by have C:=g.bk b y;exact K b C.2.1 (λq=>by rw[q,f.bs.2]at C;cases C.2.2.1) (λa Z3 q=>by rw[q,W a Z3]at C;cases C.2.2.1) (J b y).1 (J b y).2);have G:∀{sz:Nat} {D:Type} {P:List ψ->D->HF->Nat->Prop} {ds:List D} {v:ψ} {e:TypeId},GR sz P l h n0 e v ds->e≠3->∀b,BkOf v b->b≠H/\b≠I:=λg M b y=>
  ⟨λq=>g.ne f.ba M b y ⟨0,O d.ba,O d.ba,by rw[hv,q]⟩,λq=>g.ne f.nb M b y ⟨0,O d.nb,O d.nb,by rw[Z0,q]⟩⟩
 refine⟨⟨b,a,u,c,ty,?_,i⟩,⟨by have:=f.bs.1;have:=T.1;omega,f.bs.2⟩,f.sc.go Ea T (F f.sc (G f.sc zd)),f.lo.go F0 T (F f.lo (G f.lo zd)),f.hi.go F0 T (F f.hi (G f.hi zd)),f.va.go Ea T (F f.va (G f.va zd)),?_,?_,?_,V,f.dj⟩;show h' bs=ξ (.row [_,_,_,_,_,Y A.ba (O p) (O p),Y A.nb (O w) (O w),Y A.ta (O o) (O o),_,_] ty);rw[Z1,R,S];exact st;show GR _ _ _ _ _ _ (Y A.ba (O p) (O p)) _;rw[Z1];exact ob;show GR _ _ _ _ _ _ (Y A.nb (O w) (O w)) _;rw[R];exact on;show GR _ _ _ _ _ _ (Y A.ta (O o) (O o)) _;rw[S];exact(f.ta.go JX T (F f.ta (G f.ta zd))).key k
def WW.l39P{h}{n}{a}{l m}(i:WW h n a l c m)(hm:m<BW):l<40:=by obtain⟨L,f,g,rfl⟩:=i;have:=g.len39 hm;have:=f.lenW;omega
def za9{a b c f:Int}{Z1 T}(p:a.natAbs<2^Z1)(q:b.natAbs<2^T)(h3:c.natAbs<2^Z1)(u:f.natAbs<2^T)(h:Z1+T+1<=2496):(0+a*b-c*f).natAbs<BW:=by have g:=GH p q;have o:=GH h3 u;rw[<-DV]at g o;refine yU (e:=Z1+T+1) ?_ h;have:=ac8 (a*b) (c*f);rw[Dl,Dl]at this;rw[an5,C5];omega
def At.k{h}{b o}{c}(a:At h b o c)(e:h' b=h b):At h' b o c:=by have⟨y,f,g,p⟩:=a.ex;exact⟨y,f,e.trans g,p⟩
def Lu(T:Nat->Nat->Int)(d:Int)(m r e j:Nat):Nat->Nat->Int:=λa b=>if a=r/\b<j then -T r b else KE T d r e (m+1) 0 a b
section
variable{T:Nat->Nat->Int}{d:Int}{e a:Nat}
def zg3:Lu T d m r e 0=KE T d r e (m+1) 0:=by funext a b;unfold Lu;rw[Cv Z]
def zlt:Lu T d m r e j r j=T r j:=by unfold Lu;rw[Cv Z,pS (.inl ω)]
theorem zg4:LG (Lu T d m r e j) r j (-T r j)=Lu T d m r e (j+1):=by unfold LG Ka Lu;grind
def Mn(T:Nat->Nat->Int)(d:Int)(m r e j:Nat):Nat->Nat->Int:=LG (Lu T d m r e j) r e d
def K6(Z4:Nat->Nat->Int)(i j:Nat):Nat->Nat->Int:=λa b=>if a<i\/a=i/\b<j then -Z4 a b else Z4 a b
def zg1{Z4}:K6 Z4 0 0=Z4:=by funext a b;unfold K6;rw[Cv Z]
def zlr{Z4}:K6 Z4 i j i j=Z4 i j:=by unfold K6;rw[Cv Z]
theorem zg2{Z4}:LG (K6 Z4 i j) i j (-Z4 i j)=K6 Z4 i (j+1):=by unfold LG Ka K6;grind
theorem zlq{Z4}(hb:b<N):K6 Z4 i N a b=K6 Z4 (i+1) 0 a b:=by grind [K6]
def zls{Z4}(f:a<=m):K6 Z4 (m+1) 0 a b= -Z4 a b:=by unfold K6;rw[Cw Z]
def TV(f:a<=m)(hb:b<N):sgn (T r e)*Mn T d m r e N a b=pT T d r e a b:=by unfold Mn pT LG Ka;by_cases h:a=r;rw[Cw h,Cw h];show _*(if b=e then _ else _)=_;by_cases h2:b=e;rw[Cw h2,Cw h2];rw[Cv h2,Cv h2];unfold Lu;rw[Cw ⟨ω,hb⟩];rw[Cv h,Cv h];unfold Lu KE;rw[Cv Z];by_cases h2:b=e;rw[Cv Z,Cw h2,h2];rw[Cw Z,Cv h2]
end
def Mp(m N:Nat)(B:Nat->Nat)(Z4:Nat->Nat->Int):List (Nat×List Int):=(DO (m+1)).map λi=>(B i,rowL N (Z4 i))
def TW{m}{B}{Z4}:O (Mp m N B Z4)=m+1:=by unfold Mp;rw[CN,Ff]
theorem Qg{m}{B}{Z4}(h:i<=m):(Mp m N B Z4)[i]?=ξ (B i,rowL N (Z4 i)):=by grind [Mp]
def zl0{l n m bs}{d}{A}{s}{B}{Z4}(f:SolP n m d s)(g:Apa l m bs d A B):(Mp m n B Z4).map (λr=>(r.1,O r.2))=d.ta.map (λr=>(r.1,O r.2)):=by refine Eh λi=>?_;rw[Dx,Dx];by_cases h:i<=m;rw[Qg h,g.at f h];show ξ (B i,O (rowL n (Z4 i)))=ξ (B i,O (rowL n (s.T i)));rw[yv,yv];rw[Dc (by rw[TW];omega),Dc (by have:=f.tl;omega)]
section
variable{e:Nat}{s:PS}{a:Nat->Nat->Int}{B:Nat->Nat}
def TX(k)(sm:SM l h n0 bs d A)(sp:SolP n m d s)(pb:PB n m a L s.toPT)(sz:SzP n m V T Z1 BB d s)(lm:Lim V T Z1 D BB)(ap:Apa l m bs d A B)(hr:r<m)(he:e<n)(ht:s.T r e≠0):
  CF (J4 (k+12)) 51 [ε bs,υ (r:Int),υ (e:Int)] h n0 λ_ h' u w=>n0<=u/\SM l h' u bs {d with den:=((s.T r e).natAbs:Int),ba:=d.ba.set r (s.nb e),nb:=d.nb.set e (s.bs r),ta:=Mp m n B (pT s.T s.d r e)} A/\Tr n0 h u h'/\(∀b,b<3*n0->b≠bs->(∀a,a<=m->b≠B a)->¬BkOf (Y A.ba (O d.ba) (O d.ba)) b->¬BkOf (Y A.nb (O d.nb) (O d.nb)) b->h' b=h b)/\(∀c∈w,3*l<=c)/\(∀b,BkOf (Y A.nb (O d.nb) (O d.nb)) b->b∈w):=by
 have⟨b0,a0,u0,c0,ty,st,i0⟩:=sm.st;have bg:=sm.bs.1;have ij:=sp.nm;have tl:=sp.tl;have nl:=sp.nl;have bl:=sp.bl;have tb:=ap.tb sm sp;have bh:=λi hi=>ap.ne sm sp (i:=i) Z hi;have e6:=sp.de;have ie:=pb.tab.dp;have fz:=sz.dd;have ig:=lm.l2;have g0:=lm.l4;have ii:=lm.l5;have av:∀i c,i<=m->c<n->(s.T i c).natAbs<2^Z1:=λi c hi hc=>(by by_cases q:i=m;rw[q];exact sz.tO c hc;exact CS (sz.tT i Z c hc) (CQ zd g0));have⟨bt,aq,lt,ct,tt,it⟩:=tb.el (DZ hr) he;have fy:=(tb.o r (DZ hr)).1;have⟨k1,o1,e1,m1,r1,t1⟩:=rwS.at sm.ta.rs (ap.at sp (DZ hr));apply Lg R4;apply(zG);apply sI e1 r1;apply sL t1 m1 0;apply(zG);apply sI ω (show e<O (rowL n (s.T r)) by rw[yv];exact he);apply sL tt fy 0;apply(Zk);intro h1 p1 x1;apply(zG);apply sS [U bt,Y aq lt ct];intro h2 p2 o2;have T2:Tr n0 h (n0+1) h2:=zt;have K2:∀b,b<3*n0->(∀a,a<=m->b≠B a)->h2 b=h b:=λb hb _=>(o2.1 b Z).trans (x1 b hb);have gs:Tb h2 (n0+1) m n B (KE s.T s.d r e 0 0):=by rw[zgz];exact tb.go T2 λa ha=>(o2.1 _ (by have:=(tb.o a ha).1;omega)).trans (x1 _ (tb.o a ha).1)
 have e7:∀{b},BkOf (Y A.ta (O d.ta) (O d.ta)) b->∀a,a<=m->b≠B a:=λhb a ha q=>(by have:=(sm.ta.bk _ hb).2.2.1;rw[q,tb.g a ha]at this;cases this);have ir:h2 bs=_:=(K2 bs bg λa ha q=>bh a ha q.symm).trans st;apply(zG);apply sF (α:=Nat) (λz=>[(0,ε bs),(1,υ (r:Int)),(2,υ (e:Int)),(6,Y (ξ ⟨B r,0,θ⟩) (O (rowL n (s.T r))) (O (rowL n (s.T r)))),(7,ε (3*n0+2)),(34,Y A.ta (O d.ta) (O d.ta)),(35,υ (O d.ta:Int)),(36,υ (z:Int))]) (λz h' u Z3=>n0+1<=u/\Tb h' u m n B (KE s.T s.d r e z 0)/\Tr n0 h u h'/\(∀b,b<3*n0->(∀a,a<=m->b≠B a)->h' b=h b)/\h' (3*n0+2)=ξ (.row [U bt,Y aq lt ct] 62)/\(∀c∈Z3,∃a,a<=m/\c=B a)/\z<=m+1) (λz=>m+1-z) 0 ⟨Cy,gs,T2,K2,p2,λc hc=>Cu hc CO,Cz⟩;rintro i t h3 n3 w3⟨y3,ac,T3,K3,p3,d1,hi⟩;have y3:n0+1<=n3:=y3;have ac:Tb h3 n3 m n B (KE s.T s.d r e i 0):=ac;have T3:Tr n0 h n3 h3:=T3;have K3:∀b,b<3*n0->(∀a,a<=m->b≠B a)->h3 b=h b:=K3;have p3:h3 (3*n0+2)=ξ (.row [U bt,Y aq lt ct] 62):=p3;have hi:i<=m+1:=hi;apply(zG);by_cases q3:(i:Int)<(O d.ta:Int);have y:i<=m:=Z;have⟨k4,o4,e4,m4,r4,t4⟩:=rwS.at sm.ta.rs (ap.at sp y);have t4:=t4.k (K3 k4 m4 (e7 ⟨o4,_,_,by rw[e4]⟩));have⟨b5,a5,l5,c5,t5,i5⟩:=ac.el y he;have fw:=(ac.o i y).1;apply(zG);apply sI e4 r4;apply sL t4 (show k4<3*n3 from Z) 0;apply(zG);apply sI ω (show e<O (rowL n (s.T i)) by rw[yv];exact he);apply sL t5 fw 0;apply(Zk);intro h6 p6 x6;apply(zG);apply sS [U b5,Y a5 l5 c5];intro h7 p7 o7;have T7:Tr n3 h3 (n3+1) h7:=zt;have k7:Exo n3 h3 h7:=⟨λb hb=>(o7.1 b Z).trans (x6 b hb)⟩;have ep:=ac.go T7 λa ha=>k7.go _ (ac.o a ha).1;have ej:=(k7.go (3*n0+2) Z).trans p3;have dy:Tr n0 h (n3+1) h7:=T3.trans T7;have du:∀b,b<3*n0->(∀a,a<=m->b≠B a)->h7 b=h b:=λb hb hn=>(k7.go b Z).trans (K3 b hb hn);have g6:=i5.t T7;by_cases q4:(i:Int)=(r:Int);apply(zG);exact sK (i+1) ⟨Z,ep.as λa b _ _=>by rw[show i=r by omega];exact zln,dy,du,ej,d1,Ak⟩;have e8:i≠r:=Z;apply(zG);apply sF (α:=Nat) (λz=>[(0,ε bs),(1,υ (r:Int)),(2,υ (e:Int)),(6,Y (ξ ⟨B r,0,θ⟩) (O (rowL n (s.T r))) (O (rowL n (s.T r)))),(7,ε (3*n0+2)),(9,Y (ξ ⟨B i,0,θ⟩) (O (rowL n (s.T i))) (O (rowL n (s.T i)))),(10,ε (3*n3+2)),(34,Y A.ta (O d.ta) (O d.ta)),(35,υ (O d.ta:Int)),(36,υ (i:Int)),(48,Y (ξ ⟨B i,0,θ⟩) (O (rowL n (s.T i))) (O (rowL n (s.T i)))),(49,υ (O (rowL n (s.T i)):Int)),(50,υ (z:Int))]) (λz h' u Z3=>n3+1<=u/\Tb h' u m n B (KE s.T s.d r e i z)/\Tr (n3+1) h7 u h'/\(∀b,b<3*(n3+1)->b≠B i->h' b=h7 b)/\(∀c∈Z3,∃a,a<=m/\c=B a)/\z<=n) (λz=>n-z) 0 ⟨Cy,ep,Eg _ _,λ_ _ _=>rfl,d1,Cz⟩;rintro j t W v w8⟨y8,I,T8,K8,aw,hj⟩;have y8:n3+1<=v:=y8;have I:Tb W v m n B (KE s.T s.d r e i j):=I;have T8:Tr (n3+1) h7 v W:=T8;have K8:∀b,b<3*(n3+1)->b≠B i->W b=h7 b:=K8;have hj:j<=n:=hj;have fx:B i<3*n0:=(tb.o i y).1;have be:Tr n0 h v W:=dy.trans T8;have bc:∀b,b<3*n0->(∀a,a<=m->b≠B a)->W b=h b:=λb hb hn=>(K8 b Z (hn i y)).trans (du b hb hn);have bj:=(K8 (3*n0+2) Z Z).trans ej;have gi:=(K8 (3*n3+2) Z (by have:=fx;omega)).trans p7;have eL:O (rowL n (s.T i))=n:=yv;apply(zG);by_cases q8:(j:Int)<(O (rowL n (s.T i)):Int);have H:j<n:=Z;have⟨b9,a9,l9,c9,t9,i9⟩:=I.el y H;rw[pS (.inr (.inr ⟨ω,Cy⟩))]at i9;have cv:=(I.o i y).1;apply(zG);apply sI ω (show j<O (rowL n (s.T i))from Z);apply sL t9 cv 0;apply(Zk);intro ar b1 bm;apply(zG);apply sS [U b9,Y a9 l9 c9];intro J ge bi;have an:Tr v W (v+1) J:=zt;have ay:Exo v W J:=⟨λb hb=>(bi.1 b Z).trans (bm b hb)⟩;have c1:=I.go an λa ha=>ay.go _ (I.o a ha).1;have gz:=(ay.go (3*n0+2) Z).trans bj;have i1:=(ay.go (3*n3+2) Z).trans gi;have b7:=i9.t an;have bq:=g6.t (T8.trans an);rw[pS (.inr (.inl ω))]at bq;have⟨cp,co,d5,cr,eo,ab⟩:=c1.el (DZ hr) H;rw[pS (.inl ω)]at ab;have cu:=(c1.o r (DZ hr)).1;simp only[yu,xg,zK,yY];refine yj (α:=Bool) (λz=>[(0,ε bs),(1,υ (r:Int)),(2,υ (e:Int)),(6,Y (ξ ⟨B r,0,θ⟩) (O (rowL n (s.T r))) (O (rowL n (s.T r)))),(7,ε (3*n0+2)),(9,Y (ξ ⟨B i,0,θ⟩) (O (rowL n (s.T i))) (O (rowL n (s.T i)))),(10,ε (3*n3+2)),(11,υ (j:Int)),(12,ε (3*v+2)),(34,Y A.ta (O d.ta) (O d.ta)),(35,υ (O d.ta:Int)),(36,υ (i:Int)),(48,Y (ξ ⟨B i,0,θ⟩) (O (rowL n (s.T i))) (O (rowL n (s.T i)))),(49,υ (O (rowL n (s.T i)):Int)),(50,υ (j:Int)),(72,U z)]) (λz h' u Z3=>w8=Z3/\v+1<=u/\J3 (v+1) J h'/\(z=φ/\(j=e\/j≠e/\s.T i j=0/\(s.T i e=0\/s.T r j=0))\/z=χ/\j≠e)) ?_ ?_;have ce:(j:Int)≠(e:Int)->j≠e:=λh q=>h (by rw[q]);by_cases q9:(j:Int)=(e:Int);apply(zG);exact zA φ (by(repeat (first|exact trivial|refine⟨ω,?_⟩))) ⟨ω,Cy,Fy _ _,.inl ⟨ω,.inl Z⟩⟩;apply(zG);apply sC (yK _ b7);rintro _ c4 a2⟨cq,rfl,ey⟩ b6 bn;obtain⟨rfl,da⟩|⟨rfl,da⟩:=J7 ey;apply(zG);exact zA χ (by(repeat (first|exact trivial|refine⟨ω,?_⟩))) ⟨ω,b6,bn,.inr ⟨ω,ce q9⟩⟩;apply(zG);apply sC (yK _ bq.x);rintro _ a6 eg⟨i4,rfl,ez⟩ j0 iy;obtain⟨rfl,em⟩|⟨rfl,em⟩:=J7 ez;apply(zG);apply sI ω (show j<O (rowL n (s.T r)) by rw[yv];exact H);apply sL eo cu 0;apply(zG);apply sC (yK _ ab.x);rintro _ R F⟨i6,rfl,f0⟩ dq iz;obtain⟨rfl,db⟩|⟨rfl,db⟩:=J7 f0;apply(zG);exact zA χ (by(repeat (first|exact trivial|refine⟨ω,?_⟩))) ⟨ω,(show Tx (v+1) J F R from zx).1,(show Tx (v+1) J F R from zx).2,.inr ⟨ω,ce q9⟩⟩;apply(zG);exact zA φ (by(repeat (first|exact trivial|refine⟨ω,?_⟩))) ⟨ω,(show Tx (v+1) J F R from zx).1,(show Tx (v+1) J F R from zx).2,.inl ⟨ω,.inr ⟨ce q9,da,.inr db⟩⟩⟩;apply(zG);exact zA φ (by(repeat (first|exact trivial|refine⟨ω,?_⟩))) ⟨ω,(show Tx (v+1) J eg a6 from zx).1,(show Tx (v+1) J eg a6 from zx).2,.inl ⟨ω,.inr ⟨ce q9,da,.inl em⟩⟩⟩;rintro z t G f _⟨rfl,a3,b2,hz⟩;have a3:v+1<=f:=a3;have b2:J3 (v+1) J G:=b2;have aa:Tr v W f G:=an.e b2 a3;have c3:Exo (v+1) J G:=⟨b2⟩;have P:=c1.x ⟨a3,b2⟩;have d3:Exo v W G:=⟨λb hb=>(b2 b Z).trans (ay.go b hb)⟩;have ex:∀b,b<3*n0->(∀a,a<=m->b≠B a)->G b=h b:=λb hb hn=>(d3.go b Z).trans (bc b hb hn);obtain⟨rfl,hz⟩|⟨rfl,hz⟩:=hz;apply(zG);exact sK (j+1) ⟨Z,P.as λa b _ _=>by obtain rfl|⟨hz,h1,h2⟩:=hz;rw[zlp];rw[zg0 e8 hz h1 h2],T8.trans aa,λb (hb:b<3*(n3+1)) hn=>(d3.go b Z).trans (K8 b hb hn),aw,oB⟩;have e3:Tr n0 h f G:=be.trans aa;apply(Zk);intro M gh ae;have gj:SumO f M (f+1) (3*f+2) 0 0:=SumO.start Z Z (zB f) gh;have ax:IW M f b9 a9 l9 c9 (s.T i j):=(b7.x ⟨a3,c3.go⟩).ext ae Cy;have az:IW M f bt aq lt ct (s.T r e):=(it.t e3).ext ae Cy;have ec:IW M f b5 a5 l5 c5 (s.T i e):=(bq.x ⟨a3,c3.go⟩).ext ae Cy;have ed:IW M f cp co d5 cr (s.T r j):=(ab.x ⟨a3,c3.go⟩).ext ae Cy;apply(zG);apply zF _ R5 (nO _ gj Zq ax az (ax.2.l39P (yU (av _ _ y H) Z)) (az.2.l39P (yU (av _ _ (DZ hr) he) Z)) Z);rintro _ ag im iw⟨gk,j1,b3,_,f4⟩;rw[my (λb hb=>by have:=f4 b hb;show 3*n0<=b;omega)];have b3:J3 f M ag:=b3;have bz:ag bs=_:=(b3 bs Z).trans ((ae bs Z).trans ((ex bs bg λa ha q=>bh a ha q.symm).trans st));have fa:=eo.ext c3.go cu;apply(Zh);apply dI ω (show j<O (rowL n (s.T r)) by rw[yv];exact H);apply dL fa (show B r<3*f from Z) 0;apply(zH);apply wa _ R7 (ff _ gk Z (ec.ext b3 Cy) (ed.ext b3 Cy) (ec.2.l39P (yU (av _ _ y he) Z)) (ed.2.l39P (yU (av _ _ (DZ hr) H) Z)) Z);rintro _ fv io ix⟨gl,gx,ci,_,f5⟩;refine⟨ω,gx,?_⟩;have ci:J3 f ag fv:=ci;rw[MW,my (λb hb=>by have:=f5 b hb;show 3*n0<=b;omega)];apply(Zh);apply dC (zot _ gl Z);rintro _ c6 eh⟨i7,i3,ik,ib,rfl,g4⟩ j2 et;have i2:c6 bs=_:=(et bs Z).trans ((ci bs Z).trans bz);apply(zH);have ee:Exo f G c6:=⟨λb hb=>(et b Z).trans ((ci b Z).trans ((b3 b Z).trans (ae b hb)))⟩;have f6:IW c6 eh b0 a0 u0 c0 s.d:=((i0.t e3).ext ee.go Z).as e6;apply dC (quoX _ g4 f6 (za9 (av _ _ y H) (sz.tT r hr e he) (av _ _ y he) (sz.tT r hr j H) Z) (yU fz Z) Z);rintro _ cs d6⟨fn,fk,ga,fq,rfl,g5⟩ j3 dn;have dn:J3 eh c6 cs:=dn;have d7:f<=d6:=Z;have d4:Exo f G cs:=⟨λb hb=>(dn b Z).trans (ee.go b hb)⟩;have dk:=P.x (n':=d6) ⟨d7,d4.go⟩;have fh:Tr f G d6 cs:=⟨d7,λc hc=>.inl (d4.go c hc)⟩;have ou:=dk.o i y;apply(zH);apply dI ω (show j<O (rowL n (s.T i))from Z);refine dZ (n0:=n0) (j:=j) [U fn,Y fk ga fq] ou Fz (by rw[yv];exact H) (C9 _) ⟨_,_,_,_,ω,g5⟩ ?_;intro id gd cl _;have dl:=dk.set y gd cl;rw[an5,TU e8 hz]at dl;apply(zG);exact sK (j+1) ⟨Z,dl,FG cl (T8.trans (aa.trans fh)),λb (hb:b<3*(n3+1)) hn=>(cl.1 b hn).trans ((d4.go b Z).trans ((d3.go b Z).trans (K8 b hb hn))),yL (λc hc=>⟨i,y,CV.1 hc⟩) aw,oB⟩;have H:j=n:=Z;subst H;apply(zG);exact sK (i+1) ⟨Z,I.as λa b _ hb=>zlm hb,be,bc,bj,aw,Ak⟩;have cx:i=m+1:=Z;subst cx;rw[<-zg3]at ac;apply(zG);have eR:O (rowL n (s.T r))=n:=yv;apply sF (α:=Nat) (λz=>[(0,ε bs),(1,υ (r:Int)),(2,υ (e:Int)),(6,Y (ξ ⟨B r,0,θ⟩) (O (rowL n (s.T r))) (O (rowL n (s.T r)))),(7,ε (3*n0+2)),(93,Y (ξ ⟨B r,0,θ⟩) (O (rowL n (s.T r))) (O (rowL n (s.T r)))),(94,υ (O (rowL n (s.T r)):Int)),(95,υ (z:Int))]) (λz h' u Z3=>n3<=u/\Tb h' u m n B (Lu s.T s.d m r e z)/\Tr n3 h3 u h'/\(∀b,b<3*n3->b≠B r->h' b=h3 b)/\(∀c∈Z3,∃a,a<=m/\c=B a)/\z<=n) (λz=>n-z) 0 ⟨Cy,ac,Eg _ _,λ_ _ _=>rfl,d1,Cz⟩;rintro j t W v w8⟨y8,I,T8,K8,aw,hj⟩;have y8:n3<=v:=y8;have I:Tb W v m n B (Lu s.T s.d m r e j):=I;have T8:Tr n3 h3 v W:=T8;have K8:∀b,b<3*n3->b≠B r->W b=h3 b:=K8;have hj:j<=n:=hj;have Z0:=DZ hr;have be:Tr n0 h v W:=T3.trans T8;have bc:∀b,b<3*n0->(∀a,a<=m->b≠B a)->W b=h b:=λb hb hn=>(K8 b Z (hn r Z0)).trans (K3 b hb hn);have bj:=(K8 (3*n0+2) Z Z).trans p3;apply(zG);by_cases q8:(j:Int)<(O (rowL n (s.T r)):Int);have H:j<n:=Z;have⟨b9,a9,l9,c9,t9,i9⟩:=I.el Z0 H;rw[zlt]at i9;have cv:=(I.o r Z0).1;apply(zG);apply sI ω (show j<O (rowL n (s.T r))from Z);apply sL t9 cv 0;apply(Zk);intro ar b1 bm;apply(zG);apply sS [U b9,Y a9 l9 c9];intro J ge bi;have an:Tr v W (v+1) J:=zt;have ay:Exo v W J:=⟨λb hb=>(bi.1 b Z).trans (bm b hb)⟩;have b7:=i9.t an;apply(zG);apply sC (negX _ b7);rintro _ au a7⟨cp,co,d5,cr,rfl,ab⟩ b4 ch;have a1:Exo v W au:=⟨λb hb=>(ch b Z).trans (ay.go b hb)⟩;have a8:=I.x (n':=a7) ⟨Z,a1.go⟩;apply sI ω (show j<O (rowL n (s.T r))from Z);refine sZ (n0:=n0) (j:=j) [U cp,Y co d5 cr] (a8.o r Z0) Fz (by rw[yv];exact H) (C9 _) ⟨_,_,_,_,ω,ab⟩ ?_;intro c4 gb ck;have df:=a8.set Z0 gb ck;rw[zg4]at df;apply(zG);exact sK (j+1) ⟨Z,df,FG ck (T8.trans ⟨Z,λc hc=>.inl (a1.go c hc)⟩),λb (hb:b<3*n3) hn=>(ck.1 b hn).trans ((a1.go b Z).trans (K8 b hb hn)),yL (λc hc=>⟨r,Z0,CV.1 hc⟩) aw,oB⟩;have H:j=n:=Z;subst H;have cw:∀a,a<=m->bs≠B a:=λa ha q=>bh a ha q.symm;have gm:=(bc bs bg cw).trans st;apply(zG);apply sI ω (show e<O (rowL j (s.T r))from Z);refine sZ (n0:=n0) (j:=e) [U b0,Y a0 u0 c0] (I.o r Z0) Fz (by rw[yv];exact he) (C9 _) ⟨_,_,_,_,ω,i0.t be⟩ ?_;intro h9 o9 S9;have eq:=I.set Z0 o9 S9;have en:=(S9.1 bs (cw r Z0)).trans gm;have ek:=(S9.1 (3*n0+2) Z).trans bj;have fd:=FG S9 be;apply(zG);refine PO (n0:=n0) [υ (d.n:Int),Y A.sc (O d.sc) (O d.sc),Y A.lo (O d.lo) (O d.lo),Y A.hi (O d.hi) (O d.hi),Y A.va (O d.va) (O d.va),Y A.ba (O d.ba) (O d.ba),Y A.nb (O d.nb) (O d.nb),Y A.ta (O d.ta) (O d.ta),U bt,Y aq lt ct] en λar b1 al=>?_;have cm:=FG al fd;have d2:=it.t cm;have dv:∀b,b<3*n0->b≠bs->(∀a,a<=m->b≠B a)->ar b=h b:=λb hb h1 h2=>(al.1 b h1).trans ((S9.1 b (h2 r Z0)).trans (bc b hb h2));have d9:=(al.1 (3*n0+2) Z).trans ek;have aj:=eq.go (FG al (Eg _ _)) λa ha=>al.1 _ (bh a ha);have bp:∀c∈addW n0 [bs] (addW n0 [B r] w8),c=bs\/∃a,a<=m/\c=B a:=yL (λc hc=>.inl (CV.1 hc)) (yL (λc hc=>.inr ⟨r,Z0,CV.1 hc⟩) λc hc=>.inr (aw c hc));have c8:bs∈addW n0 [bs] (addW n0 [B r] w8):=wQ bg eC;generalize addW n0 [bs] (addW n0 [B r] w8)=w10 at bp c8⊢;rw[e6]at aj;have aj:Tb ar v m j B (Mn s.T s.d m r e j):=aj;simp only[yu,xg,zK,yY];refine yj (α:=Bool) (λz=>[(0,ε bs),(1,υ (r:Int)),(2,υ (e:Int)),(7,ε (3*n0+2)),(119,U z)]) (λz h' u Z3=>w10=Z3/\v<=u/\J3 v ar h'/\(z=φ/\s.T r e<0\/z=χ/\0<s.T r e)) ?_ ?_;apply(zG);apply sC (M9 _ d2.t);rintro _ J il⟨iq,rfl,ai⟩ eu er;obtain⟨rfl,ai⟩|⟨rfl,ai⟩|⟨rfl,ai⟩:=ai;apply(zG);exact zA φ (by(repeat (first|exact trivial|refine⟨ω,?_⟩))) ⟨ω,eu,er,.inl ⟨ω,ai⟩⟩;exact Cu ai ht;apply(zG);exact zA χ (by(repeat (first|exact trivial|refine⟨ω,?_⟩))) ⟨ω,eu,er,.inr ⟨ω,ai⟩⟩;rintro z t au a7 _⟨rfl,b4,ch,hz⟩;have b4:v<=a7:=b4;have a1:Exo v ar au:=⟨ch⟩;have cn:Tr n0 h a7 au:=cm.trans ⟨b4,λc hc=>.inl (a1.go c hc)⟩;have cj:∀b,b<3*n0->b≠bs->(∀a,a<=m->b≠B a)->au b=h b:=λb hb h1 h2=>(a1.go b Z).trans (dv b hb h1 h2);have f8:=(a1.go (3*n0+2) Z).trans d9;have bx:=(a1.go bs Z).trans b1;have a8:=aj.x ⟨b4,a1.go⟩;have ab:=d2.ext a1.go b4;refine yj (α:=Bool×Option Addr×Nat×Nat) (λ_=>[(0,ε bs),(1,υ (r:Int)),(2,υ (e:Int))]) (λz h' u Z3=>a7<=u/\h' bs=ξ (.row [υ (d.n:Int),Y A.sc (O d.sc) (O d.sc),Y A.lo (O d.lo) (O d.lo),Y A.hi (O d.hi) (O d.hi),Y A.va (O d.va) (O d.va),Y A.ba (O d.ba) (O d.ba),Y A.nb (O d.nb) (O d.nb),Y A.ta (O d.ta) (O d.ta),U z.1,Y z.2.1 z.2.2.1 z.2.2.2] ty)/\IW h' u z.1 z.2.1 z.2.2.1 z.2.2.2 ((s.T r e).natAbs:Int)/\Tb h' u m j B (pT s.T s.d r e)/\Tr n0 h u h'/\(∀b,b<3*n0->b≠bs->(∀a,a<=m->b≠B a)->h' b=h b)/\(∀c∈Z3,c=bs\/∃a,a<=m/\c=B a)/\bs∈Z3) ?_ ?_;obtain⟨rfl,hz⟩|⟨rfl,hz⟩:=hz;apply(zG);apply sC (negX _ ab);rintro _ c4 a2⟨cq,e0,ef,e2,rfl,ea⟩ b6 bn;have cg:Exo a7 au c4:=⟨bn⟩;have b6:a7<=a2:=b6;have dc:=(bn bs Z).trans bx;apply(zG);refine PO (n0:=n0) [υ (d.n:Int),Y A.sc (O d.sc) (O d.sc),Y A.lo (O d.lo) (O d.lo),Y A.hi (O d.hi) (O d.hi),Y A.va (O d.va) (O d.va),Y A.ba (O d.ba) (O d.ba),Y A.nb (O d.nb) (O d.nb),Y A.ta (O d.ta) (O d.ta),U cq,Y e0 ef e2] dc λa6 gf am=>?_;have fe:Tr n0 h a2 a6:=FG am (cn.trans ⟨b6,λc hc=>.inl (cg.go c hc)⟩);have dw:∀b,b<3*n0->b≠bs->(∀a,a<=m->b≠B a)->a6 b=h b:=λb hb h1 h2=>(am.1 b h1).trans ((cg.go b Z).trans (cj b hb h1 h2));have dg:=(a8.x ⟨b6,cg.go⟩).go (FG am (Eg _ _)) λa ha=>am.1 _ (bh a ha);rw[<-zg1 (Z4:=Mn s.T s.d m r e j)]at dg;have g2:=ea.t (FG am (Eg a2 c4));have cy:∀c∈addW n0 [bs] w10,c=bs\/∃a,a<=m/\c=B a:=yL (λc hc=>.inl (CV.1 hc)) bp;have ca:bs∈addW n0 [bs] w10:=wQ bg eC;generalize addW n0 [bs] w10=w14 at cy ca⊢;apply(zG);apply sF (α:=Nat) (λz=>[(0,ε bs),(1,υ (r:Int)),(2,υ (e:Int)),(128,Y A.ta (O d.ta) (O d.ta)),(129,υ (O d.ta:Int)),(130,υ (z:Int))]) (λz h' u Z3=>a2<=u/\Tb h' u m j B (K6 (Mn s.T s.d m r e j) z 0)/\Tr a2 a6 u h'/\(∀b,b<3*a2->(∀a,a<=m->b≠B a)->h' b=a6 b)/\(∀c∈Z3,c=bs\/∃a,a<=m/\c=B a)/\bs∈Z3/\z<=m+1) (λz=>m+1-z) 0 ⟨Cy,dg,Eg _ _,λ_ _ _=>rfl,cy,ca,Cz⟩;rintro i t R F iu⟨dq,b8,bf,ak,cz,cb,hi⟩;have dq:a2<=F:=dq;have b8:Tb R F m j B (K6 (Mn s.T s.d m r e j) i 0):=b8;have bf:Tr a2 a6 F R:=bf;have ak:∀b,b<3*a2->(∀a,a<=m->b≠B a)->R b=a6 b:=ak;have hi:i<=m+1:=hi;apply(zG);by_cases db:(i:Int)<(O d.ta:Int);have y:i<=m:=Z;have⟨k4,o4,e4,m4,r4,t4⟩:=rwS.at sm.ta.rs (ap.at sp y);have e9:=e7 ⟨o4,_,_,by rw[e4]⟩;have f2:k4≠bs:=λq=>(by have h1:=(sm.ta.bk k4 ⟨o4,_,_,by rw[e4]⟩).2.2.1;rw[q,sm.bs.2]at h1;cases h1);have t4:=t4.k ((ak k4 Z e9).trans (dw k4 m4 f2 e9));apply(zG);apply sI e4 r4;apply sL t4 (show k4<3*F from Z) 0;apply(zG);have eL:O (rowL j (s.T i))=j:=yv;apply sF (α:=Nat) (λz=>[(0,ε bs),(1,υ (r:Int)),(2,υ (e:Int)),(17,Y (ξ ⟨B i,0,θ⟩) (O (rowL j (s.T i))) (O (rowL j (s.T i)))),(128,Y A.ta (O d.ta) (O d.ta)),(129,υ (O d.ta:Int)),(130,υ (i:Int)),(134,Y (ξ ⟨B i,0,θ⟩) (O (rowL j (s.T i))) (O (rowL j (s.T i)))),(135,υ (O (rowL j (s.T i)):Int)),(136,υ (z:Int))]) (λz h' u Z3=>F<=u/\Tb h' u m j B (K6 (Mn s.T s.d m r e j) i z)/\Tr F R u h'/\(∀b,b<3*F->b≠B i->h' b=R b)/\(∀c∈Z3,c=bs\/∃a,a<=m/\c=B a)/\bs∈Z3/\z<=j) (λz=>j-z) 0 ⟨Cy,b8,Eg _ _,λ_ _ _=>rfl,cz,cb,Cz⟩;rintro c t G f iv⟨a3,P,aa,c2,d0,cc,hc⟩;have a3:F<=f:=a3;have P:Tb G f m j B (K6 (Mn s.T s.d m r e j) i c):=P;have aa:Tr F R f G:=aa;have c2:∀b,b<3*F->b≠B i->G b=R b:=c2;have hc:c<=j:=hc;apply(zG);by_cases q16:(c:Int)<(O (rowL j (s.T i)):Int);have c7:c<j:=Z;have⟨fl,fi,g8,fo,gn,eb⟩:=P.el y c7;rw[zlr]at eb;have f1:=(P.o i y).1;apply(zG);apply sI ω (show c<O (rowL j (s.T i))from Z);apply sL gn f1 0;apply(Zk);intro ic gg es;apply(zG);apply sS [U fl,Y fi g8 fo];intro e5 ip ei;have fg:Tr f G (f+1) e5:=zt;have g7:Exo f G e5:=⟨λb hb=>(ei.1 b Z).trans (es b hb)⟩;have g3:=eb.t fg;apply(zG);apply sC (negX _ g3);rintro _ M ah⟨fm,fj,g9,fp,rfl,ax⟩ dr ae;have az:Exo f G M:=⟨λb hb=>(ae b Z).trans (g7.go b hb)⟩;have bb:=P.x (n':=ah) ⟨Z,az.go⟩;apply sI ω (show c<O (rowL j (s.T i))from Z);refine sZ (n0:=n0) (j:=c) [U fm,Y fj g9 fp] (bb.o i y) Fz (by rw[yv];exact c7) (C9 _) ⟨_,_,_,_,ω,ax⟩ ?_;intro fu d8 K;have dh:=bb.set y d8 K;rw[zg2]at dh;apply(zG);exact sK (c+1) ⟨Z,dh,FG K (aa.trans ⟨Z,λc hc=>.inl (az.go c hc)⟩),λb (hb:b<3*F) hn=>(K.1 b hn).trans ((az.go b Z).trans (c2 b hb hn)),yL (λc hc=>.inr ⟨i,y,CV.1 hc⟩) d0,nM _ _ _ cc,by show c+1<=j;omega⟩;have c7:c=j:=Z;subst c7;apply(zG);exact sK (i+1) ⟨Z,P.as λa b _ hb=>zlq hb,bf.trans aa,λb (hb:b<3*a2) hn=>(c2 b Z (hn i y)).trans (ak b hb hn),d0,cc,Ak⟩;have cx:i=m+1:=Z;subst cx;apply(zG);have e1:sgn (s.T r e)= -1:=Cw hz;exact zA (cq,e0,ef,e2) (by(repeat (first|exact trivial|refine⟨ω,?_⟩))) ⟨(show a7<=F from Z),(ak bs Z cw).trans gf,(g2.t bf).as Z,b8.as λa b ha hb=>by rw[zls ha,<-TV ha hb,e1];omega,fe.trans bf,λb hb h1 h2=>(ak b Z h2).trans (dw b hb h1 h2),cz,cb⟩;apply(zG);have e1:sgn (s.T r e)=1:=Cv Z;exact zA (bt,aq,lt,ct) (by(repeat (first|exact trivial|refine⟨ω,?_⟩))) ⟨Cy,bx,ab.as Z,a8.as λa b ha hb=>by rw[<-TV ha hb,e1,JD],cn,cj,bp,c8⟩;rintro⟨bd,ad,ud,cd⟩ t M ah dm ⟨dr,f9,ax,bb,ao,af,f3,gy⟩;have dr:a7<=ah:=dr;have ao:Tr n0 h ah M:=ao;have af:∀b,b<3*n0->b≠bs->(∀a,a<=m->b≠B a)->M b=h b:=af;have S:∀{b},gro b=φ->b≠bs/\∀a,a<=m->b≠B a:=λhb=>⟨λq=>(by rw[q,sm.bs.2]at hb;cases hb),λa ha q=>(by rw[q,tb.g a ha]at hb;cases hb)⟩;have ft:=sp.nb e he;have fs:=sp.ba r hr;have⟨bv,ev,gv,lv,ov,gt⟩:=sm.ba.or ω (show O d.ba≠0 from Z);have⟨bw,ew,gw,lw,ow,gu⟩:=sm.nb.or ω (show O d.nb≠0 from Z);injection ev with ev;injection ew with ew;have cf:bv≠bw:=λq=>ap.dj bw ⟨0,O d.nb,O d.nb,by rw[ew]⟩ ⟨0,O d.ba,O d.ba,by rw[ev,q]⟩;have br:=ov.go FK ao (af bv ov.1 (S gv).1 (S gv).2);have bu:=ow.go FK ao (af bw ow.1 (S gw).1 (S gw).2);obtain⟨i8,rfl,_,gp⟩:=bu.get ft (off:=0+e*1) Z;obtain⟨ia,rfl,_,gq⟩:=br.get fs (off:=0+r*1) Z;have f7:n0<=ah:=ao.1;apply(Zh);apply dI ew (show e<O d.nb from Z);apply dL gp bu.1 0;apply(zH);apply dI ev (show r<O d.ba from Z);apply dL gq br.1 0;apply dI ev (show r<O d.ba from Z);refine dZ (n0:=n0) (j:=r) [υ (s.nb e:Int)] br FK Z (C9 _) ω λfu d8 K fb=>?_;apply(zH);apply dI ew (show e<O d.nb from Z);refine dZ (n0:=n0) (j:=e) [υ (s.bs r:Int)] (bu.go FK (FG K (Eg _ _)) (K.1 bw (λq=>cf q.symm))) FK Z (C9 _) ω λag gc a4 fc=>?_;apply(zG);have dz:Tr n0 h ah ag:=FG a4 (FG K ao);have di:=bb.go (FG a4 (FG K (Eg _ _))) λa ha=>(a4.1 _ λq=>(S gw).2 a ha q.symm).trans (K.1 _ λq=>(S gv).2 a ha q.symm);have dx:∀b,b<3*n0->b≠bs->(∀a,a<=m->b≠B a)->b≠bv->b≠bw->ag b=h b:=λb hb h1 h2 h3 h4=>(a4.1 b h4).trans ((K.1 b h3).trans (af b hb h1 h2));have bz:=(a4.1 bs λq=>(S gw).1 q.symm).trans ((K.1 bs λq=>(S gv).1 q.symm).trans f9);have ds:KR M bv 3:=(by have⟨C,hC⟩:=gt;exact⟨C,(af bv ov.1 (S gv).1 (S gv).2).trans hC⟩);have dt:KR M bw 3:=(by have⟨C,hC⟩:=gu;exact⟨C,(af bw ow.1 (S gw).1 (S gw).2).trans hC⟩);have ob:=(d8.go FK (FG a4 (Eg _ _)) (a4.1 bv cf)).gr FK (by
  have⟨C,hC⟩:=fb _ ds;exact⟨C,(a4.1 bv cf).trans hC⟩) gv lv (L:=O d.ba) (DH ..)
 have on:=gc.gr FK (fc _ (by
  have⟨C,hC⟩:=dt;exact⟨C,(K.1 bw λq=>cf q.symm).trans hC⟩)) gw lw (L:=O d.nb) (DH ..)
 rw[<-ev]at ob;rw[<-ew]at on;have fr:SM l ag ah bs {d with den:=((s.T r e).natAbs:Int),ba:=d.ba.set r (s.nb e),nb:=d.nb.set e (s.bs r),ta:=Mp m j B (pT s.T s.d r e)} A:=sm.piv tb.g ev ew dz dx bz (ax.t (FG a4 (FG K (Eg _ _)))) (DH ..) (DH ..) ob on (zl0 sp ap) λp hp=>(by obtain⟨q,hq,rfl⟩:=DL.1 hp;have hq:=GI.1 hq;exact⟨di.o q Z,di.g q Z⟩);have g1:∀c∈addW n0 [bw] (addW n0 [bv] dm),3*l<=c:=yL (λc hc=>by rw[CV.1 hc];exact lw) (yL (λc hc=>by rw[CV.1 hc];exact lv) λc hc=>by
  obtain rfl|⟨a,ha,rfl⟩:=f3 c hc;exact ap.bs;exact ap.lo a ha)
 have bo:bw∈addW n0 [bw] (addW n0 [bv] dm):=wQ ow.1 eC;refine⟨ω,[],ω,⟨f7,fr,dz,λb hb h1 h2 h3 h4=>dx b hb h1 h2 (λq=>h3 ⟨0,O d.ba,O d.ba,by rw[ev,q]⟩) (λq=>h4 ⟨0,O d.nb,O d.nb,by rw[ew,q]⟩),g1,λb hb=>?_⟩,λhw=>by rw[show addW n0 [bw] (addW n0 [bv] dm)=[]from hw]at bo;cases bo⟩;have⟨o,l',c',q⟩:=hb;rw[ew]at q;injection q with q;injection q with q;injection q with q;exact q▸bo
end
theorem cF{l}{f:Nat->Nat}{N w x}(h:∀v,v<N->l[v]?=ξ (f v))(a:O l=N):∀v,v<N->(l.set w x)[v]?=ξ (Ka f w x v):=by grind [hv,Ka]
def Sol.piv(d:Sol)(m n:Nat)(B:Nat->Nat)(t:PT)(r e:Nat):Sol:={d with den:=((t.T r e).natAbs:Int),ba:=d.ba.set r (t.nb e),nb:=d.nb.set e (t.bs r),ta:=Mp m n B (pT t.T t.d r e)}
section
variable{e:Nat}{s:PS}{B:Nat->Nat}
def SolP.piv(a:SolP n m d s):SolP n m (d.piv m n B s.toPT r e) ⟨s.toPT.piv r e,s.x⟩:=
 ⟨(DH ..).trans a.nl,cF a.nb a.nl,(DH ..).trans a.bl,cF a.ba a.bl,a.vl,a.va,TW,λi f=>⟨_,Qg f,yv,λc b=>vu b⟩,ω,a.ll,a.lh,a.nm,a.ls,a.dn⟩
def Apa.piv(a:Apa l m bs d A B){t}:Apa l m bs (d.piv m n B t r e) A B:=
 ⟨a.bs,a.lo,a.inj,λi c=>⟨_,Qg c⟩,by
  show ∀b,BkOf (Y A.nb (O (d.nb.set e (t.bs r))) (O (d.nb.set e (t.bs r)))) b->¬BkOf (Y A.ba (O (d.ba.set r (t.nb e))) (O (d.ba.set r (t.nb e)))) b;rw[DH,DH];exact a.dj⟩
def Apa.mv(a:Apa l m bs d A B){b}:Apa l m bs {d with va:=b} A B:=⟨a.bs,a.lo,a.inj,a.ta,a.dj⟩
end
def TY{l}{v}{x}{p}(h:l[v]?=ξ p):cG (J6 l) v x↔(p.1=χ\/x<p.2):=by have⟨b,q⟩:=p;unfold cG;cases b;rw[pj h];exact⟨λ_=>.inl ω,λ_ u a=>by cases a⟩;exact BP
def TZ{l}{v}{x}{p}(h:l[v]?=ξ p):cS (J6 l) v x↔(p.1=χ\/p.2<x):=by have⟨b,q⟩:=p;unfold cS;cases b;rw[pj h];exact⟨λ_=>.inl ω,λ_ u a=>by cases a⟩;exact BP
section
variable{lo hi:Nat->Option Rat}{s:PS}{k:Nat}
theorem zg7{e}(hv:Viol lo hi s r low g):suit lo hi (rdOf m s r e low) c↔(0<Ky (decide (0<s.T r c))*g.num/\s.T r c≠0/\cG hi (s.nb c) (s.x (s.nb c))\/Ky (decide (0<s.T r c))*g.num<0/\s.T r c≠0/\cS lo (s.nb c) (s.x (s.nb c))):=by
 have j:((s.T r c:Rat)<0↔s.T r c<0):=aE;have o:((0:Rat)<(s.T r c:Rat)↔0<s.T r c):=FR;unfold suit rdOf;dsimp only;rw[j,o];unfold Viol at hv;have v:Ky (decide (0<s.T r c))=if 0<s.T r c then 1 else -1:=by grind [Ky]
 rw[v];cases low with
 |true=>
  rw[Cw rfl]at hv⊢;obtain⟨l,p,u,rfl⟩:=hv;have b:0<(l-s.x (s.bs r)).num:=by
   have d:0<l-s.x (s.bs r):=by grind
   have:=(FO (q:=l-s.x (s.bs r))).2 (D9 d);have:(l-s.x (s.bs r)).num≠0:=λq=>by rw[Fk.1 q]at d;exact Gu d
   omega
  generalize (l-s.x (s.bs r)).num=z at b;split<;>constructor<;>rintro(⟨i,a⟩|⟨i,a⟩);exact .inl ⟨Z,Z,a⟩;omega;exact .inl ⟨Z,a.2⟩;omega;omega;exact .inr ⟨Z,Z,a⟩;omega;exact .inr ⟨Z,a.2⟩
 |false=>
  rw[Cv EL]at hv⊢;obtain⟨l,p,u,rfl⟩:=hv;have b:(l-s.x (s.bs r)).num<0:=by grind [FO,EZ.2]
  generalize (l-s.x (s.bs r)).num=z at b;split<;>constructor<;>rintro(⟨i,a⟩|⟨i,a⟩);omega;exact .inr ⟨Z,Z,a⟩;omega;exact .inr ⟨Z,a.2⟩;exact .inl ⟨Z,Z,a⟩;omega;exact .inl ⟨Z,a.2⟩;omega
def LR(n m:Nat)(lo hi:Nat->Option Rat)(s:PS)(r:Nat)(low:Bool)(k:Nat)(f:Int):Prop:=
 (f= -1/\∀c,c<k->¬suit lo hi (rdOf m s r 0 low) c)\/∃c:Nat,f=(c:Int)/\c<k/\suit lo hi (rdOf m s r 0 low) c/\∀c',c'<k->s.nb c'<s.nb c->¬suit lo hi (rdOf m s r 0 low) c'
def LR.no(h:LR n m lo hi s r low k f)(d:¬suit lo hi (rdOf m s r 0 low) k):LR n m lo hi s r low (k+1) f:=by obtain⟨h,b⟩|⟨c,j,b,l,o⟩:=h;refine .inl ⟨h,λc p=>?_⟩;by_cases e:c=k;rw[e];exact d;exact b c Z;refine .inr ⟨c,j,Z,l,λa p i=>?_⟩;by_cases e:a=k;rw[e];exact d;exact o a Z i
def LR.skip(h:LR n m lo hi s r low k (c:Int))(q:s.nb c<=s.nb k):LR n m lo hi s r low (k+1) (c:Int):=by obtain⟨h,i⟩|⟨d,o,i,j,l⟩:=h;omega;obtain rfl:c=d:=Z;refine .inr ⟨c,ω,Z,j,λa p b=>?_⟩;by_cases e:a=k;subst e;omega;exact l a Z b
theorem LR.take(h:LR n m lo hi s r low k f)(o:suit lo hi (rdOf m s r 0 low) k)(i:f= -1\/∃c:Nat,f=(c:Int)/\s.nb k<=s.nb c):LR n m lo hi s r low (k+1) (k:Int):=by
 refine .inr ⟨k,ω,Fv _,o,λa b p=>?_⟩;have b:a<k:=by grind
 obtain⟨h,d⟩|⟨j,q,d,u,l⟩:=h;exact d a b;obtain i|⟨c,e,hi⟩:=i;omega;obtain rfl:c=j:=Z;exact l a b Z
end
structure Cap (n M Mo N V T Z1 D B:Nat):Prop where
 t:KD n*(M^(n-1)*M)<2^T
 d:KD n*M^n<2^T
 o:KD n*(M^(n-1)*Mo)<2^Z1
 v1:vN n M N<2^V
 v2:vD n N<2^V
 s1:vN n M N*N+N*vD n N<2^D
 s2:vD n N*N<2^D
 b:N<2^B
theorem QB.sz{A B a}(h:QB A B q)(l:A<2^a)(o:B<2^a):Sz a q:=by
 have⟨x,y,b,f,g,j⟩:=h;have e:q=Dw x y:=by grind [Ev,El.1,FZ,Rat.mul_div_cancel]
 rw[e];exact xz b Z Z
section
variable{B:Nat}{s:PS}{a:Nat->Nat->Int}
structure Fix (n m M Mo N V T Z1 D B:Nat)(a:Nat->Nat->Int)(d:Sol):Prop where
 b:Bnd n m a (J6 d.lo) (J6 d.hi) M N
 o:∀j,j<n->(a (n+m) j).natAbs<=Mo
 c:Cap n M Mo N V T Z1 D B
 l:Lim V T Z1 D B
 lo:∀p∈d.lo,Sz B p.2
 hi:∀p∈d.hi,Sz B p.2
 le:∀v l u,J6 d.lo v=ξ l->J6 d.hi v=ξ u->l<=u
def Fix.szp(x:Fix n m M Mo N V T Z1 D B a d)(e:PInv n m a (J6 d.lo) (J6 d.hi) L s):SzP n m V T Z1 B d s:=by have⟨p,g⟩:=e.vtx x.b;refine⟨λv l=>(g.qb Z (x.b.aM v l)).sz x.c.v1 x.c.v2,x.lo,x.hi,λi j c f=>?_,λc f=>?_,C7 (e.toPB.bD x.b.aM) x.c.d⟩;exact C7 (e.toPB.bT x.b.aM Z f (x.b.aM _ (e.bv i j))) x.c.t;exact C7 (e.toPB.bT x.b.aM Cy f (by rw[e.bm];exact x.o)) x.c.o
def Fix.stp(x:Fix n m M Mo N V T Z1 D B a d)(e:PInv n m a (J6 d.lo) (J6 d.hi) L s)(g:c<n)(hi:i<m)(f:s.T i c≠0)(j:J6 d.lo (s.bs i)=ξ q\/J6 d.hi (s.bs i)=ξ q):Sz D ((q-s.x (s.bs i))/((s.T i c:Rat)/s.d)):=
 (e.stp x.b g hi f j).sz x.c.s1 x.c.s2
end
theorem zgx{lo hi}{s}{r}{low}{g}(h:Viol lo hi s r low g):g.num≠0/\(low=φ↔0<g.num):=by
 unfold Viol at h;cases low with
 |true=>
  rw[Cw rfl]at h;obtain⟨l,_,c,rfl⟩:=h;have b:0<l-s.x (s.bs r):=by grind
  have:=(FO (q:=l-s.x (s.bs r))).2 (D9 b);have:(l-s.x (s.bs r)).num≠0:=λq=>by rw[Fk.1 q]at b;exact Gu b
  exact⟨this,λ_=>Z,λ_=>rfl⟩
 |false=>
  rw[Cv EL]at h;obtain⟨l,_,c,rfl⟩:=h;have b:l-s.x (s.bs r)<0:=by grind
  have:=mt (FO (q:=l-s.x (s.bs r))).1 (EZ.2 b);exact⟨Z,λq=>(by cases q),λq=>Z⟩
theorem Ua{l:List (Bool×Rat)}{v a}{q}(b:∀p∈l,Sz a p.2)(h:J6 l v=ξ q):Sz a q:=by grind [J6]
structure Same (d d':Sol):Prop where
 n:d'.n=d.n
 sc:d'.sc=d.sc
 lo:d'.lo=d.lo
 hi:d'.hi=d.hi
theorem Same.refl(d):Same d d:=⟨rfl,rfl,rfl,rfl⟩
structure Ste (l n m bs:Nat)(a:Nat->Nat->Int)(L:(Nat->Rat)->Prop)(A:Adr)(B:Nat->Nat)(d0:Sol)(h:HF)(n0:Nat)(d:Sol)(s:PS):Prop where
 sm:SM l h n0 bs d A
 sp:SolP n m d s
 iv:PInv n m a (J6 d0.lo) (J6 d0.hi) L s
 ap:Apa l m bs d A B
 eq:Same d0 d
section
variable{s:PS}{a:Nat->Nat->Int}{B:Nat->Nat}
def Fix.same{f}(x:Fix n m M Mo N V T Z1 D BB a d)(e:Same d f):Fix n m M Mo N V T Z1 D BB a f:=by have⟨v,w,b,c⟩:=e;have⟨g,i,j,o,p,q,u⟩:=x;refine⟨?_,i,j,o,?_,?_,?_⟩;rw[b,c];exact g;rw[b];exact p;rw[c];exact q;rw[b,c];exact u
def zmn(k)(g:GG h n0)(S:Ste l n m bs a L A B d h n0 d s)(x:Fix n m M Mo N V T Z1 D BB a d)(hn:0<n)(ce:n+m<=11):
  CF (J4 (k+15)) 20 [ε bs] h n0 λw h' n' W=>∃d' s',n0<=n'/\Ste l n m bs a L A B d h' n' d' s'/\Tr n0 h n' h'/\(∀b,b<3*l->h' b=h b)/\(∀c∈W,3*l<=c)/\(w=.tuple #[υ 0,υ 0,U φ]/\Feas m (J6 d.lo) (J6 d.hi) s'\/∃(r:Nat) (low:Bool) (q:Rat),w=.tuple #[υ (r:Int),υ (Ky low),U χ]/\Vio m (J6 d.lo) (J6 d.hi) s' r low q/\∀c,c<n->¬suit (J6 d.lo) (J6 d.hi) (rdOf m s' r 0 low) c):=by
 have⟨bw,ew,gw,lw,ow,dn⟩:=S.sm.nb.or ω (show O d.nb≠0 by have:=S.sp.nl;omega);injection ew with ew;have hl:3*l<=3*n0:=by have:=S.ap.bs;have:=S.sm.bs.1;omega
 have h4:4^(n+m)<=4^11:=CQ zd ce;apply Lg R4;apply(zG);apply sF (α:=Nat×Sol×PS) (λ_=>[(0,ε bs)]) (λz h' n' w'=>n0<=n'/\Ste l n m bs a L A B d h' n' z.2.1 z.2.2/\Tr n0 h n' h'/\(∀b,b<3*l->h' b=h b)/\(∀c∈w',3*l<=c)/\(z=(0,d,s)\/bw∈w')/\nT (Tu n m a (J6 d.lo) (J6 d.hi) L) (λs=>KV m (J6 d.lo) (J6 d.hi) s (n+m)) z.1 z.2.2) (λz=>4^(n+m)-z.1) (0,d,s) ⟨Cy,S,Eg _ _,λ_ _=>rfl,λc hc=>Cu hc CO,.inl ω,nT.start⟩ (hm:=by show _<LL;unfold LL;(try dsimp only);omega);rintro⟨q,I,u⟩ t h1 n1 w1 ⟨y1,y,T1,K1,ar,an,b8⟩;(try dsimp only at y1 y T1);have hq:q<4^(n+m):=b8.lt λs=>iI _;have x1:=x.same y.eq;have el:=y.eq.lo;have eh:=y.eq.hi;have I1:PInv n m a (J6 I.lo) (J6 I.hi) L u:=by rw[el,eh];exact y.iv
 have J:=x1.szp I1;apply(zG);apply sC (zcl _ (g.t T1) y.sm y.sp y.iv.bv J x.l);rintro _ h2 P⟨f,qf,Z0,b2,a2,l2,c2,d2,e2,f2,g2,fd,rfl,i2,j2,hv,hf⟩ y2 x2;rw[el,eh]at hv;have S2:Ste l n m bs a L A B d h2 P I u:=⟨y.sm.ext x2 y2,y.sp,y.iv,y.ap,y.eq⟩;have T2:Tr n0 h P h2:=T1.trans ⟨y2,λc hc=>.inl (x2 c hc)⟩;have K2:∀b,b<3*l->h2 b=h b:=λb hb=>(x2 b Z).trans (K1 b hb);have y2:n1<=P:=y2;apply(Zk);intro h3 p3 x3;apply(zG);apply sS [U b2,Y a2 l2 c2,U d2,Y e2 f2 g2];intro h4 p4 o4;have k4:Exo P h2 h4:=⟨λc hc=>(o4.1 c Z).trans (x3 c hc)⟩;have i4:=i2.t (zt:Tr P h2 (P+1) h4);have j4:=j2.t (zt:Tr P h2 (P+1) h4);have S4:Ste l n m bs a L A B d h4 (P+1) I u:=⟨S2.sm.ext k4.go Zq,y.sp,y.iv,y.ap,y.eq⟩;have T4:Tr n0 h (P+1) h4:=T2.trans ⟨C8 _,λc hc=>.inl (k4.go c hc)⟩;have K4:∀b,b<3*l->h4 b=h b:=λb hb=>(k4.go b Z).trans (K2 b hb);apply(zG);obtain⟨rfl,hf,rfl⟩|⟨rfl,rfl⟩:=hf;obtain⟨hv,_⟩|⟨r,low,rfl,Z4,a3,bf⟩:=hv;omega;have dj:=y.sp.nl;have db:=S4.sm.bs.1;have⟨b9,a9,u9,c9,dm,dl,_⟩:=S4.sm.st;apply(zG);apply sF (α:=Nat×Int) (λz=>[(0,ε bs),(5,υ (r:Int)),(6,ε (3*P+2)),(8,υ z.2),(23,Y A.nb (O I.nb) (O I.nb)),(24,υ (O I.nb:Int)),(25,υ (z.1:Int))]) (λz h' n' w'=>w1=w'/\P+1<=n'/\J3 (P+1) h4 h'/\LR n m (J6 d.lo) (J6 d.hi) u r low z.1 z.2/\z.1<=n) (λz=>n-z.1) (0,-1) ⟨ω,Cy,Fy _ _,.inl ⟨ω,λc hc=>Cu hc (DM _)⟩,Cz⟩ (hm:=by have:=y.sp.nm;show _<LL;unfold LL;(try dsimp only);omega);rintro⟨j,f⟩ t H G _ ⟨rfl,y5,x5,hu,hj⟩;(try dsimp only at y5 hu hj);have k5:Exo (P+1) h4 H:=⟨x5⟩;have R:Ste l n m bs a L A B d H G I u:=⟨S4.sm.ext k5.go y5,y.sp,y.iv,y.ap,y.eq⟩;have T5:Tr n0 h G H:=T4.trans ⟨y5,λc hc=>.inl (k5.go c hc)⟩;have p5:=(k5.go (3*P+2) Z).trans p4;have i5:=i4.ext k5.go y5;have j5:=j4.ext k5.go y5;have bg:=R.sm.st;have⟨b0,a0,u0,c0,ty,bg,_⟩:=bg;have dc:=R.sm.bs.1;apply(zG);by_cases q5:(j:Int)<(O I.nb:Int);have aa:j<n:=Z;have gv:=y.sp.nb j aa;have⟨k6,o6,e6,m6,r6,t6⟩:=natS.at R.sm.nb.rs gv;apply(zG);apply sI e6 r6;apply sL t6 m6 0;have go:(∃i:Nat,f=(i:Int)/\i<n/\u.nb i<u.nb j)\/f= -1\/(∃i:Nat,f=(i:Int)/\i<n/\u.nb j<=u.nb i):=(by obtain⟨h1,_⟩|⟨i,h1,h2,h3,_⟩:=hu;exact .inr (.inl h1);by_cases hw:u.nb i<u.nb j;exact .inl ⟨i,h1,Z,hw⟩;exact .inr (.inr ⟨i,h1,Z,Z⟩));apply(Zb);simp only[yu,xg,zK,yY];refine yj (α:=Bool) (λz=>[(0,ε bs),(5,υ (r:Int)),(6,ε (3*P+2)),(8,υ f),(9,υ (j:Int)),(10,υ (u.nb j:Int)),(23,Y A.nb (O I.nb) (O I.nb)),(24,υ (O I.nb:Int)),(25,υ (j:Int)),(42,U z)]) (λz h' n' w'=>w1=w'/\H=h'/\G=n'/\(z=φ/\(∃i:Nat,f=(i:Int)/\i<n/\u.nb i<u.nb j)\/z=χ/\(f= -1\/∃i:Nat,f=(i:Int)/\u.nb j<=u.nb i))) ?_ ?_;obtain⟨i,rfl,a7,hw⟩|rfl|⟨i,rfl,a7,hw⟩:=go;apply(zG);have⟨k7,o7,e7,m7,r7,t7⟩:=natS.at R.sm.nb.rs (y.sp.nb i a7);apply sI e7 r7;apply sL t7 m7 0;apply(zG);exact zA φ (by(repeat (first|exact trivial|refine⟨ω,?_⟩))) ⟨ω,ω,ω,.inl ⟨ω,i,ω,a7,hw⟩⟩;apply(zG);exact zA χ (by(repeat (first|exact trivial|refine⟨ω,?_⟩))) ⟨ω,ω,ω,.inr ⟨ω,.inl AJ⟩⟩;apply(zG);have⟨k7,o7,e7,m7,r7,t7⟩:=natS.at R.sm.nb.rs (y.sp.nb i a7);apply sI e7 r7;apply sL t7 m7 0;apply(zG);exact zA χ (by(repeat (first|exact trivial|refine⟨ω,?_⟩))) ⟨ω,ω,ω,.inr ⟨ω,.inr ⟨i,ω,hw⟩⟩⟩;rintro z t _ _ _⟨rfl,rfl,rfl,⟨rfl,i,rfl,a7,hw⟩|⟨rfl,bb⟩⟩;apply(zG);exact sK (j+1,(i:Int)) ⟨ω,y5,k5.go,hu.skip Z,oB⟩;have⟨k8,o8,e8,m8,r8,t8⟩:=rwS.at R.sm.ta.rs (y.ap.at y.sp (DZ Z4));have⟨cv,cr,l10,cy,cm,ch⟩:=(R.ap.tb R.sm R.sp).el (DZ Z4) aa;have bi:=((R.ap.tb R.sm R.sp).o r (DZ Z4)).1;apply(zG);refine yj (α:=Int) (λz=>[(0,ε bs),(5,υ (r:Int)),(6,ε (3*P+2)),(8,υ f),(9,υ (j:Int)),(10,υ (u.nb j:Int)),(11,υ z),(23,Y A.nb (O I.nb) (O I.nb)),(24,υ (O I.nb:Int)),(25,υ (j:Int))]) (λz h' n' w'=>w1=w'/\G<=n'/\J3 G H h'/\(z=1/\u.T r j≠0/\0<Ky (decide (0<u.T r j))*Z0.num\/z=0/\(u.T r j=0\/Z0.num=0)\/z= -1/\u.T r j≠0/\Ky (decide (0<u.T r j))*Z0.num<0)) ?_ ?_;apply(zl);apply(zH);apply dI e8 r8;apply dL t8 m8 0;apply(zH);apply dI ω (show j<O (rowL n (u.T r)) by rw[yv];exact aa);apply dL cm bi 0;apply dC (M9 _ ch);rintro _ aj ay⟨ag,rfl,Z3⟩ ah ac;apply(zH);apply dC (fD _ i5.x j5.x);rintro _ C F⟨dk,rfl,K⟩ cp cn;obtain⟨rfl,Z3⟩|⟨rfl,Z3⟩|⟨rfl,Z3⟩:=Z3;obtain⟨rfl,K⟩|⟨rfl,K⟩|⟨rfl,K⟩:=K;apply(zH);apply yQ (v:=υ (1)) R5;apply(zJ);exact zA (1) (by(repeat (first|exact trivial|refine⟨ω,?_⟩))) ⟨ω,(show Tx G H F C from zx).1,(show Tx G H F C from zx).2,.inl ⟨ω,Z,(by rw[BG (show ¬0<u.T r j by omega)];show 0<(-1:Int)*Z0.num;omega)⟩⟩;apply(zH);apply yQ (v:=υ (0)) R5;apply(zJ);exact zA (0) (by(repeat (first|exact trivial|refine⟨ω,?_⟩))) ⟨ω,(show Tx G H F C from zx).1,(show Tx G H F C from zx).2,.inr (.inl ⟨ω,.inr K⟩)⟩;apply(zH);apply yQ (v:=υ (-1)) R5;apply(zJ);exact zA (-1) (by(repeat (first|exact trivial|refine⟨ω,?_⟩))) ⟨ω,(show Tx G H F C from zx).1,(show Tx G H F C from zx).2,.inr (.inr ⟨ω,Z,(by rw[BG (show ¬0<u.T r j by omega)];show(-1:Int)*Z0.num<0;omega)⟩)⟩;obtain⟨rfl,K⟩|⟨rfl,K⟩|⟨rfl,K⟩:=K;apply(zH);apply yQ (v:=υ (0)) R5;apply(zJ);exact zA (0) (by(repeat (first|exact trivial|refine⟨ω,?_⟩))) ⟨ω,(show Tx G H F C from zx).1,(show Tx G H F C from zx).2,.inr (.inl ⟨ω,.inl Z3⟩)⟩;apply(zH);apply yQ (v:=υ (0)) R5;apply(zJ);exact zA (0) (by(repeat (first|exact trivial|refine⟨ω,?_⟩))) ⟨ω,(show Tx G H F C from zx).1,(show Tx G H F C from zx).2,.inr (.inl ⟨ω,.inl Z3⟩)⟩;apply(zH);apply yQ (v:=υ (0)) R5;apply(zJ);exact zA (0) (by(repeat (first|exact trivial|refine⟨ω,?_⟩))) ⟨ω,(show Tx G H F C from zx).1,(show Tx G H F C from zx).2,.inr (.inl ⟨ω,.inl Z3⟩)⟩;obtain⟨rfl,K⟩|⟨rfl,K⟩|⟨rfl,K⟩:=K;apply(zH);apply yQ (v:=υ (-1)) R5;apply(zJ);exact zA (-1) (by(repeat (first|exact trivial|refine⟨ω,?_⟩))) ⟨ω,(show Tx G H F C from zx).1,(show Tx G H F C from zx).2,.inr (.inr ⟨ω,Z,(by rw[Ct (show 0<u.T r j from Z3)];show(1:Int)*Z0.num<0;omega)⟩)⟩;apply(zH);apply yQ (v:=υ (0)) R5;apply(zJ);exact zA (0) (by(repeat (first|exact trivial|refine⟨ω,?_⟩))) ⟨ω,(show Tx G H F C from zx).1,(show Tx G H F C from zx).2,.inr (.inl ⟨ω,.inr K⟩)⟩;apply(zH);apply yQ (v:=υ (1)) R5;apply(zJ);exact zA (1) (by(repeat (first|exact trivial|refine⟨ω,?_⟩))) ⟨ω,(show Tx G H F C from zx).1,(show Tx G H F C from zx).2,.inl ⟨ω,Z,(by rw[Ct (show 0<u.T r j from Z3)];show 0<(1:Int)*Z0.num;omega)⟩⟩;rintro z t ak b1 _⟨rfl,ai,bh,hz⟩;(try dsimp only at ai bh);have aq:=y.iv.nv j aa;have gx:=y.sp.va _ aq;obtain⟨pl,gl⟩:∃x,I.lo[u.nb j]?=ξ x:=⟨_,CD (by have:=y.sp.ll;omega)⟩;obtain⟨ph,gh⟩:∃x,I.hi[u.nb j]?=ξ x:=⟨_,CD (by have:=y.sp.lh;omega)⟩;have cg:=TY (x:=u.x (u.nb j)) gh;have cs:=TZ (x:=u.x (u.nb j)) gl;rw[eh]at cg;rw[el]at cs;have a1:=zg7 (m:=m) (c:=j) (e:=0) a3;have cd:=x.l.l1;have dh:=x.l.l3;obtain⟨rfl,hz,au⟩|⟨rfl,hz⟩|⟨rfl,hz,au⟩:=hz;apply(zG);apply sC (aG _ (R.sm.x zx) gx gh (J.va _ aq) (J.hi _ (CE gh)) Z);rintro _ a6 ab⟨c7,rfl,ad⟩ cq co;obtain⟨rfl,a5⟩|⟨rfl,a5⟩:=J7 ad;apply(zG);exact sK (j+1,f) ⟨ω,Z,k5.go.trans (show Tx G H ab a6 from zx).2 y5,hu.no (λq=>by obtain⟨_,_,q⟩|⟨q,_⟩:=a1.1 q;exact a5 (cg.1 q);omega),oB⟩;apply(zG);exact sK (j+1,(j:Int)) ⟨ω,Z,k5.go.trans (show Tx G H ab a6 from zx).2 y5,hu.take (a1.2 (.inl ⟨au,hz,cg.2 a5⟩)) bb,oB⟩;apply(zG);exact sK (j+1,f) ⟨ω,Z,k5.go.trans (show Tx G H b1 ak from zx).2 y5,hu.no (λq=>by obtain hz|hz:=hz;obtain⟨_,q,_⟩|⟨_,q,_⟩:=a1.1 q<;>exact q hz;obtain⟨q,_⟩|⟨q,_⟩:=a1.1 q<;>(rw[hz,GS]at q;omega)),oB⟩;apply(zG);apply sC (lg _ (R.sm.x zx) gx gl (J.va _ aq) (J.lo _ (CE gl)) Z);rintro _ a6 ab⟨c7,rfl,ad⟩ cq co;obtain⟨rfl,a5⟩|⟨rfl,a5⟩:=J7 ad;apply(zG);exact sK (j+1,f) ⟨ω,Z,k5.go.trans (show Tx G H ab a6 from zx).2 y5,hu.no (λq=>by obtain⟨q,_⟩|⟨_,_,q⟩:=a1.1 q;omega;exact a5 (cs.1 q)),oB⟩;apply(zG);exact sK (j+1,(j:Int)) ⟨ω,Z,k5.go.trans (show Tx G H ab a6 from zx).2 y5,hu.take (a1.2 (.inr ⟨au,hz,cs.2 a5⟩)) bb,oB⟩;have aa:j=n:=Z;have be:Z0.num≠0/\(low=φ↔0<Z0.num):=zgx a3;obtain⟨rfl,af⟩|⟨c,rfl,hc,a1,bl⟩:=hu;apply(zG);apply sC (fD _ i5 j5);rintro _ aj ay⟨ag,rfl,Z3⟩ ah ac;have c3:Ste l n m bs a L A B d aj ay I u:=⟨R.sm.ext ac ah,y.sp,y.iv,y.ap,y.eq⟩;have bj:ag=Ky low:=by
  cases low;have:¬0<Z0.num:=λq=>by cases be.2.2 q
  show ag= -1;omega;have:=be.2.1 rfl;show ag=1;omega
 subst bj;have hV:Vio m (J6 d.lo) (J6 d.hi) u r low Z0:=⟨Z4,a3,bf⟩;have af:∀c,c<n->¬suit (J6 d.lo) (J6 d.hi) (rdOf m u r 0 low) c:=λc hc=>af c Z;apply(zG);refine⟨ω,[_,_,_],ω,⟨I,u,Z,c3,T5.trans ⟨ah,λc hc=>.inl (ac c hc)⟩,λb hb=>(ac b Z).trans ((k5.go b Z).trans (K4 b hb)),ar,.inr ⟨r,low,Z0,ω,hV,af⟩⟩,λhw=>?_⟩;have hw:w1=[]:=hw;obtain e|a8:=an;cases e;exact⟨_,_,Cy,S,Eg _ _,AT,λc hc=>Cu hc CO,.inr ⟨r,low,Z0,ω,hV,af⟩⟩;rw[hw]at a8;cases a8;have a4:c<n:=Z;have hR:RepS n m (J6 d.lo) (J6 d.hi) u r c low Z0:=⟨⟨Z4,a3,bf⟩,a4,a1,λc' df=>bl c' Z⟩;have al:=hR.ne;obtain⟨bq,bd,rfl⟩:∃q,(J6 d.lo (u.bs r)=ξ q\/J6 d.hi (u.bs r)=ξ q)/\Z0=q-u.x (u.bs r):=(by unfold Viol at a3;split at a3;have⟨l,h1,_,h2⟩:=a3;exact⟨l,.inl h1,h2⟩;have⟨l,h1,_,h2⟩:=a3;exact⟨l,.inr h1,h2⟩);have b5:=x.stp y.iv a4 Z4 al bd;have cd:=x.l.l1;have dg:=x.l.l2;have cf:Sz BB bq:=(by obtain h|h:=bd;exact Ua x.lo h;exact Ua x.hi h);have cc:Sz D (bq-u.x (u.bs r)):=(Sz.subT cf (J.va _ (y.iv.bv r Z4))).mono Z;have cb:=y.iv.toPB.tab.dp;have am:=y.sp.de;apply(Zh);apply dC (Nh _ (g.t T5) R.sm (y.ap.at y.sp (DZ Z4)) (vu a4) (yU (J.tT r Z4 c a4) Z) (by rw[am];exact yU J.dd Z) (by rw[am];omega));rintro _ aj ay⟨cw,ct,l11,cz,d3,d5,d7,d9,rfl,av,aw⟩ ah ac;have sc:Sz T (Dw (u.T r c) u.d):=xz cb (J.tT r Z4 c a4) J.dd;rw[am]at av aw;rw[Ev]at av aw sc;apply dC (divQ _ ((g.t T5).x zx) i5.x j5.x av aw cc sc Z);rintro _ C F⟨cx,cu,di,d0,d4,d6,d8,da,rfl,ci,cj⟩ cp cn;have ax:Exo G H C:=⟨(show Tx G H F C from zx).2⟩;have az:G<=F:=(show Tx G H F C from zx).1;have b6:Ste l n m bs a L A B d C F I u:=⟨R.sm.ext ax.go az,y.sp,y.iv,y.ap,y.eq⟩;have b7:Tr n0 h F C:=T5.trans ⟨az,λc hc=>.inl (ax.go c hc)⟩;apply wa _ R7 (TQ _ (g.t b7) b6.sm y.sp y.iv.toPB J x.l a4 ci cj b5);rintro _ ak b1 dq⟨ai,va,bx,bt,ae,c5,bz,bn,_⟩;refine⟨rF ω ω,ai,?_⟩;have IN:=hR.inv (by rw[<-el,<-eh];exact x1.le) y.iv;have bu:∀v,v<n+m->va[v]?=ξ (Kk u c ((bq-u.x (u.bs r))/((u.T r c:Rat)/u.d)) (m+1) v):=λv hv=>(bt v hv).trans (congrArg ξ (vi (by rw[y.iv.bm];omega)).symm);have b3:=y.sp.mv bx bu;have cl:=x.szp (s:=repN m u r c (bq-u.x (u.bs r))) IN;have br:SzP n m V T Z1 BB {I with va:=va} ⟨u.toPT,Kk u c ((bq-u.x (u.bs r))/((u.T r c:Rat)/u.d)) (m+1)⟩:=⟨cl.va,J.lo,J.hi,J.tT,J.tO,J.dd⟩;apply(zJ);apply zF _ R5 (TX _ ae b3 y.iv.toPB br x.l y.ap.mv Z4 a4 al);rintro _ bc ck dr⟨ds,bp,c6,c1,bo,b4⟩;have c4:Ste l n m bs a L A B d bc ck ({I with va:=va}.piv m n B u.toPT r c) (repN m u r c (bq-u.x (u.bs r))):=⟨bp,b3.piv,IN,y.ap.mv.piv,⟨y.eq.n,y.eq.sc,y.eq.lo,y.eq.hi⟩⟩;have ca:=b8.next (λp τ hp hs hk=>zmx p τ hp hs x.le hk) ⟨y.iv,r,c,low,_,hR,ω⟩;have hT:=(b7.trans c5).trans c6;have ao:∀{v:ψ},(∀b,BkOf v b->3*l<=b)->∀b,b<3*l->¬BkOf v b:=λhv b hb c8=>by have:=hv b c8;omega
 have KF:∀b,b<3*l->bc b=h b:=λb hb=>(c1 b Z (λe=>by have:=y.ap.bs;omega) (λa ha e=>by have:=y.ap.lo a ha;omega) (ao (λb hb=>(ae.ba.bk b hb).1) b hb) (ao (λb hb=>(ae.nb.bk b hb).1) b hb)).trans ((bz b Z (ao (λb hb=>(b6.sm.va.bk b hb).1) b hb)).trans ((ax.go b Z).trans ((k5.go b Z).trans (K4 b hb))));apply(zG);exact sK (q+1,_,_) ⟨Z,c4,hT,KF,yL bo (yL bn ar),.inr (wQ ow.1 (b4 bw ⟨0,O I.nb,O I.nb,by rw[ew]⟩)),ca⟩;have hF:Feas m (J6 d.lo) (J6 d.hi) u:=(by obtain⟨_,h⟩|⟨i,low,h,_⟩:=hv;exact h;omega);apply(zG);refine⟨ω,[_,_,_],ω,⟨I,u,Z,S4,T4,K4,ar,.inl ⟨ω,hF⟩⟩,λhw=>?_⟩;have hw:w1=[]:=hw;obtain e|a8:=an;cases e;exact⟨_,_,Cy,S,Eg _ _,AT,λc hc=>Cu hc CO,.inl ⟨ω,hF⟩⟩;rw[hw]at a8;cases a8
end
section
variable{a:Nat}
theorem ko(V):V<10^O (decT V):=by
 have h:∀V,V<10^O (decD V):=by
  intro V;induction V using Nat.strongRecOn with
  |_ V ih=>
   by_cases h0:V=0;grind;rw[wy h0,CJ];grind
 unfold decT;split;rename_i h0;rw[h0];decide;rw[CN,kY];exact h V
def Kg.of{m}(h:O s<=m)(hm:m<500)(j:10^m<=2^a)(g:1<=a):Kg a s:=by refine⟨Z,?_⟩;by_cases hn:vF s;have u:=qr hn;generalize zj s=q at u;have f:=congrArg O u;unfold ratT at f;simp only[CJ]at f;constructor;exact BR;by_cases h2:q.den=1;rw[h2];exact CS (by decide:(1:Nat)<2^1) (CQ zd g);rw[Cv h2,DJ]at f;exact BR;rw[xX hn];exact H8 a g
def txt8(h:(O s:Int)<=8):Kg 27 s:=.of (m:=8) Z zd zd zd
def zo8{h}{n}{t}(f:h b=ξ (.row [CG ⟨⟨s⟩⟩,CG ⟨⟨t⟩⟩] e))(hb:b<3*n):Sl h n 1 (Y (ξ ⟨b,0,θ⟩) 2 2) (strs [s,t]):=.at_ hb f ω Cy Cy rfl
def wz(k){h}{n}(g:GG h n):VF (J4 (k+1)) 5 [] h n λv=>v=U φ:=⟨_,_,_,_,W1 k g.1 n,ω,ω,ω,ω⟩
section
variable{r:List Oper}{d:Tmp}
def Ub(cs)(f:qt X ops t o d (Kd o.op=2/\Kl X.E o.op (J2 t)=ξ ⟨cs,e,χ,ξ (l,c)⟩))
  (k:∀h',h' (3*n+2)=ξ (.row cs e)->J3 n h h'->ED X ops r ms (i+1) ⟨⟨upd t d (Y (ξ ⟨3*n+2,0,θ⟩) l c),h',n+1,w⟩,(i,3*n+2)::al,ld,ef⟩ Q):ED X ops (o::r) (m::ms) i ⟨⟨t,h,n,w⟩,al,ld,ef⟩ Q:=by have⟨f,j,v,g,u⟩:=f;exact Q9 f j v g u (k _ (zg _ _ _) (E9 Z))
end
def mI(k){h}{n}(m)(C:Sl h n 1 (Y ax lx cx) (strs S))(hb:O S<100000000):VF (J4 (k+1)) 14 [υ m,Y ax lx cx] h n λv=>∃b:Bool,v=U b/\(b=φ↔∀s∈S,(O s:Int)<=m):=by
 have Z1:=z8 C;apply zO R4;apply(zG);apply sF (α:=Nat) (λz=>[(0,υ m),(1,Y ax lx cx),(5,υ (z:Int))]) (λz H K L=>L=[]/\n<=K/\ExtB n [] h H/\z<=O S/\∀s∈S.take z,(O s:Int)<=m) (λz=>O S-z) 0 ⟨ω,Cy,Ed _ _ _,Cz,(λs J=>Cu J eC)⟩;rintro j t M P _⟨rfl,T,u,hj,f⟩;(try dsimp only at hj f);apply(zG);by_cases q12:(j:Int)<(lx:Int);apply(zG);obtain⟨A,g⟩:∃d,(S)[j]?=ξ d:=⟨_,CD Z⟩;have⟨N,R,B,D,F,G⟩:=vM C g;apply sI B F;apply sL G D 0;apply st_I R5;apply(zG);by_cases q14:(O A:Int)>m;apply(zf);exact J8 λI=>by have:=I _ (CE g);omega
 apply(zG);exact sK (j+1) ⟨ω,Z,u,Z,(ot f g Z)⟩;apply(zf);exact Ki aD
section
variable{x:Rat}{q:Nat}
theorem yb(x):zj (ratT x)=x:=pA rfl
end
end
def Mq:List Rat->Nat
 |[]=>1
 |q::l=>q.den*Mq l
def NP:∀{l:List Rat},(∀q∈l,NE E P q)->1<=Mq l/\Mq l<=E^O l
 |[],_=>⟨Cy,Cy⟩
 |q::l,h=>by
  have⟨h1,h2⟩:=NP (l:=l) λx c=>h x (EV _ c);have a:=(h q D4).den;have b:=q.den_pos;refine⟨Et b h1,?_⟩;show q.den*Mq l<=E^(O l+1);rw[C5,CY];exact C6 h2 a
def iW:∀{l:List Rat} {q:Rat},(∀q∈l,NE E P q)->q∈l->∃r,Mq l=q.den*r/\r<=E^(O l-1)
 |[],q,_,h=>Cu h CO
 |p::l,q,h,hq=>by
  have hl:∀q∈l,NE E P q:=λx e=>h x (EV _ e);obtain rfl|a:=De.1 hq
  .exact⟨Mq l,ω,(NP hl).2⟩
  have⟨r,b,c⟩:=iW hl a;have f:=List.length_pos_of_mem a;have d:=(h p D4).den;refine⟨p.den*r,?_,?_⟩
  .show p.den*Mq l=_;rw[b,<-Di,<-Di,CY p.den]
  refine CU (C6 d c) ?_;show E*E^(O l-1)<=E^O l;rw[CY,<-C5,show(O l-1).succ=O l by omega];exact Ej _
def ed:∀{l:List Rat} {q:Rat},q∈l->q.den∣Mq l
 |[],_,h=>Cu h CO
 |p::l,q,h=>by
  obtain rfl|hm:=De.1 h
  .exact ac9 _ _
  exact Nat.dvd_trans (ed hm) (ad9 _ _)
def OJ{l}(h:∀q∈l,NE E P q):0<lcmD l 1/\lcmD l 1<=E^O l:=
 ⟨kt zd,CU (H9 (NP h).1 (kv (λq a=>ed a) (af8 _))) (NP h).2⟩
theorem Uc{l}(h:∀q∈l,NE E P q)(a:q∈l):∃w:Int,((lcmD l 1:Nat):Rat)*q=w/\w.natAbs<=P*E^(O l-1):=by
 obtain⟨k,c⟩:=ku a;obtain⟨t,f⟩:=kv (λq a=>ed a) (af8 _);obtain⟨r,i,o⟩:=iW h a;have d:k<=r:=by
  have e:q.den*(k*t)=q.den*r:=by rw[<-Di,<-c,<-f,i]
  have e:=Nat.eq_of_mul_eq_mul_left q.den_pos e;have g:0<t:=by
   rcases Nat.eq_zero_or_pos t with b|b
   .rw[b,Eo]at f;have:=(NP h).1;omega
   exact b
  rw[<-e];exact EF _ g
 refine⟨q.num*k,?_,?_⟩
 .rw[c,Rat.natCast_mul,Du,Dj,<-LQ q]
  grind
 rw[Dl,CR];exact C6 (h q a).num (CU d o)
def LS(zs:List Int)(j:Nat):Int:=(zs[j]?).getD 0
def atR(qs:List Rat)(j:Nat):Rat:=(qs[j]?).getD 0
def aW{zs}{z}(h:zs[j]?=ξ z):LS zs j=z:=by unfold LS;rw[h];rfl
theorem wg(h:qs[j]?=ξ q):atR qs j=q:=by unfold atR;rw[h];rfl
theorem ScR.scF{y}{zs}{s}(h:ScR qs y zs s)(l:∀q∈qs,NE E P q)(C:1<=E)(F:1<=P)(H:O qs=n):ScF n (E^n) (P*E^(n-1)) (atR qs) (LS zs) s:=by
 subst H;have d:∀k,1<=E^k:=λk=>Ds C;have D:1<=P*E^(O qs-1):=Et F (d _);have e:∀j,j<O qs->(LS zs j:Rat)=s*atR qs j:=λj a=>(by have b:=CD a;have c:=CD (by rw[h.len];exact a);rw[aW c,wg b];exact h.eq j _ _ b c);refine⟨h.pos,e,?_⟩;obtain⟨rfl,b⟩|⟨g,G,b,z,J,v⟩:=h.fr;refine⟨1,1,IT,IT,FB _,d _,D,λj a=>?_⟩;have c:=CD (by rw[h.len];exact a);rw[aW c,b _ (CE c)];exact HA _;have i:∀j,j<O qs->g*(LS zs j).natAbs<=P*E^(O qs-1):=λj a=>(by have o:=CD a;have⟨w,I,f⟩:=Uc l (CE o);have A:((g*LS zs j:Int):Rat)=(w:Rat):=(by rw[<-I,<-b,Du,e j a,wg o,Dj];grind);have B:=Rat.intCast_inj.1 A;rw[<-B,Dl,CR]at f;exact f);have⟨j,a⟩:=EE.1 J;have u:j<O qs:=by have:=(CK.1 a).1;rw[h.len]at this;exact this
 have p:=i j u;rw[aW a]at p;exact⟨lcmD qs 1,g,(OJ l).1,G,b,(OJ l).2,CU (EF _ (Int.natAbs_pos.2 v)) p,i⟩
def neM(hm:2<=m)(h:O s<=m):NE (10^(m-2)) (10^m) (zj s):=by by_cases hn:vF s;have b:=qr hn;generalize zj s=q at b;have a:=congrArg O b;unfold ratT at a;simp only[CJ]at a;have c:∀V,1<=O (decT V):=λV=>List.length_pos_iff.2 (wx V).2.2;have d:=c q.num.natAbs;constructor;by_cases h2:q.den=1;rw[h2];exact Ds zd;rw[Cv h2,DJ]at a;exact DZ (CS (ko _) (CQ zd (show _<=m-2 from Z)));exact DZ (CS (ko _) (CQ zd (show _<=m from Z)));rw[xX hn];exact⟨Ds zd,Cz⟩
def Mr(h:(O s:Int)<=8):NE (10^6) (10^8) (zj s):=neM (m:=8) zd Z
def cap8{n}(a:1<=n)(b:n<=5):Cap n (10^32) (10^54) (10^38) 750 540 620 880 127:=by have h:n=1\/n=2\/n=3\/n=4\/n=5:=Z;obtain rfl|rfl|rfl|rfl|rfl:=h<;>exact⟨cA,cA,cA,cA,cA,cA,cA,cA⟩
def lim8:Lim 750 540 620 880 127:=⟨by decide,by decide,by decide,by decide,by decide⟩
def jW{n}(a:1<=n)(b:n<=5):10^8*(10^6)^(n-1)<=10^32/\(10^6)^n<=10^30:=by have h:n=1\/n=2\/n=3\/n=4\/n=5:=Z;obtain rfl|rfl|rfl|rfl|rfl:=h<;>exact⟨cA,cA⟩
def zwg{n}(a:1<=n)(b:n<=5):10^14*(10^10)^(n-1)<=10^54/\(10^10)^n<=10^50:=by have h:n=1\/n=2\/n=3\/n=4\/n=5:=Z;obtain rfl|rfl|rfl|rfl|rfl:=h<;>exact⟨cA,cA⟩
def NE.up(h:NE (10^6) (10^8) q):NE (10^10) (10^14) q:=
 ⟨CU h.den zd,CU h.num zd⟩
def ScF.mono{n DB M a b}{f}{z}{σ}(h:ScF n DB M f z σ)(v:DB<=a)(l:M<=b):ScF n a b f z σ:=by have⟨D,g,c,d,e,p,u,i⟩:=h.ex;exact⟨h.pos,h.eq,D,g,c,d,e,Z,Z,λj o=>CU (i j o) l⟩
section
variable{lo hi:List (Bool×Rat)}
def zof(k)(g:GG h n)(st:h bs=ξ (.row [υ (N:Int),Y asc m m,Y alo m m,Y ahi m m,Y a4 l4 c4,Y a5 l5 c5,Y a6 l6 c6,Y a7 l7 c7,U b8,Y a9 l9 c9] ty))(aq:bs<3*n)(f:gro bs=χ)(hl:l<=n)(Z4:GR 4 ratP l h n 68 (Y asc m m) sc)(gl:GR 5 bndZ l h n 91 (Y alo m m) lo)(gh:GR 5 bndZ l h n 91 (Y ahi m m) hi)(dj:∀b,BkOf (Y ahi m m) b->¬BkOf (Y alo m m) b)
  (ms:O sc=m)(ml:O lo=m)(mh:O hi=m)(hm:m<999999){aA}{lA kA}{x1 b1 d1 x2 b2 d2 H Z1}{a1 e1 a2 e2 F R}{l1 c1 f1 u1 l2 c2 f2 u2 l3 J T u3}{q1 q2 r}(i1:IW h n b1 a1 l1 c1 q1.num)(j1:IW h n d1 e1 f1 u1 (denZ q1))(i2:IW h n b2 a2 l2 c2 q2.num)(j2:IW h n d2 e2 f2 u2 (denZ q2))(i3:IW h n H F l3 J r.num)(j3:IW h n Z1 R T u3 (denZ r)){a b}(z1:Sz a q1)(z2:Sz a q2)(z3:Sz b r)(ap:a+b<=2496):
  CF (J4 (k+11)) 42 [ε bs,.agg #[Y aA lA kA,U x1,U b1,Y a1 l1 c1,U d1,Y e1 f1 u1,U x2,U b2,Y a2 l2 c2,U d2,Y e2 f2 u2],.agg #[U H,Y F l3 J,U Z1,Y R T u3]] h n λ_ y n' w=>n<=n'/\∃o al v,y bs=ξ (.row [υ (N:Int),Y o (m+1) (m+1),Y al (m+1) (m+1),Y v (m+1) (m+1),Y a4 l4 c4,Y a5 l5 c5,Y a6 l6 c6,Y a7 l7 c7,U b8,Y a9 l9 c9] ty)/\GR 4 ratP l y n' 68 (Y o (m+1) (m+1)) (sc++[r])/\GR 5 bndZ l y n' 91 (Y al (m+1) (m+1)) (lo++[(x1,q1*r)])/\GR 5 bndZ l y n' 91 (Y v (m+1) (m+1)) (hi++[(x2,q2*r)])/\(∀b,BkOf (Y v (m+1) (m+1)) b->¬BkOf (Y al (m+1) (m+1)) b)/\(∀b,BkOf (Y o (m+1) (m+1)) b->3*n<=b)/\Tr n h n' y/\(∀b,b<3*n->b≠bs->¬BkOf (Y asc m m) b->¬BkOf (Y alo m m) b->¬BkOf (Y ahi m m) b->y b=h b)/\(∀c∈w,c=bs\/3*l<=c):=by apply Lg R4;apply(zG);apply sB [Y aA lA kA,U x1,U b1,Y a1 l1 c1,U d1,Y e1 f1 u1,U x2,U b2,Y a2 l2 c2,U d2,Y e2 f2 u2];intro h1 p1 y1;apply sB [U H,Y F l3 J,U Z1,Y R T u3];intro h2 p2 y2;apply(Zh);apply MH [U H,Y F l3 J,U Z1,Y R T u3];intro A p3 y3;have D:Exo n h A:=⟨(show Tx n h (n+1+1+1) A from zx).2⟩;refine MG (n0:=n) (q:=r) [U H,Y F l3 J,U Z1,Y R T u3] (Z4.ext Ea D.go Z) Ea ⟨_,_,_,_,_,_,_,_,ω,i3.ext D.go Z,j3.ext D.go Z⟩ (yp p3 R2) Z Z (λW hW=>by(repeat (first|rfl|(refine rF ω ?_)))) (k:=?_);intro v4 h4 W4 b0 g4 T4 E4 K4 F4;obtain⟨o,rfl⟩:=g4.shape (L:=m+1) aD;have nS:∀k,¬BkOf (Y asc m m) (3*k+2):=λk=>Z4.nbk (zB _);have s4:=(K4 bs Z (Z4.nbk f)).trans ((D.go bs aq).trans st);apply(zH);apply ME (n0:=n) [υ (N:Int),Y o (m+1) (m+1),Y alo m m,Y ahi m m,Y a4 l4 c4,Y a5 l5 c5,Y a6 l6 c6,Y a7 l7 c7,U b8,Y a9 l9 c9] s4;intro d p5 o5;have j:Tr n h (n+1+1+1+1) d:=FG o5 ((show Tr n h (n+1+1+1) A from zt).trans T4);have k5:∀c,c<3*(n+1+1+1)->c≠bs->¬BkOf (Y asc m m) c->d c=A c:=λc hc h1 h2=>(o5.1 c h1).trans (K4 c hc h2);have au:d (3*n+2)=_:=(k5 (3*n+2) Z Z (nS _)).trans zp;have av:d (3*(n+1)+2)=_:=(k5 (3*(n+1)+2) Z Z (nS _)).trans zp;have am:=g4.go Ea (FG o5 (Eg _ _)) λb hb=>o5.1 b (by have:=F4 b hb;omega);have K5:∀b,b<3*n->b≠bs->¬BkOf (Y asc m m) b->d b=h b:=λb hb h1 h2=>(k5 b Z h1 h2).trans (D.go b hb);have aj:=gl.kb F0 j f K5 (gl.ne Z4 zd);have az:=gh.kb F0 j f K5 (gh.ne Z4 zd);apply(Zh);apply dC (mulQ _ (g.t j) (i1.t j) (j1.t j) (i3.t j) (j3.t j) z1 z3 ap);rintro _ h6 B⟨b6,v6,a8,K,d6,e6,f6,u6,rfl,i6,j6⟩ y6 x6;apply dT #[U x1,U b6,Y v6 a8 K,U d6,Y e6 f6 u6];apply MH [U x1,U b6,Y v6 a8 K,U d6,Y e6 f6 u6];intro h7 p7 x7;have X7:Exo (n+1+1+1+1) d h7:=⟨(show Tx (n+1+1+1+1) d (B+1) h7 from zx).2⟩;refine MG (n0:=n) (q:=(x1,q1*r)) [U x1,U b6,Y v6 a8 K,U d6,Y e6 f6 u6] (aj.ext F0 X7.go Z) F0 ⟨_,_,_,_,_,_,_,_,ω,i6.ext x7 Zq,j6.ext x7 Zq⟩ (yp p7 R2) Z Z (λW hW=>by(repeat (first|rfl|(refine rF ω ?_)))) (k:=?_);intro v8 h8 W8 b4 g8 T8 E8 K8 F8;obtain⟨al,rfl⟩:=g8.shape (L:=m+1) aD;have nL:∀k,¬BkOf (Y alo m m) (3*k+2):=λk=>gl.nbk (zB _);have s8:=(K8 bs Z (gl.nbk f)).trans ((X7.go bs Z).trans p5);apply(zH);apply ME (n0:=n) [υ (N:Int),Y o (m+1) (m+1),Y al (m+1) (m+1),Y ahi m m,Y a4 l4 c4,Y a5 l5 c5,Y a6 l6 c6,Y a7 l7 c7,U b8,Y a9 l9 c9] s8;intro i p9 o9;have T9:Tr (n+1+1+1+1) d (B+1+1) i:=FG o9 ((show Tr (n+1+1+1+1) d (B+1) h7 from⟨Z,λc hc=>.inl (X7.go c hc)⟩).trans T8);have k9:∀c,c<3*(n+1+1+1+1)->c≠bs->¬BkOf (Y alo m m) c->i c=d c:=λc hc h1 h2=>(o9.1 c h1).trans ((K8 c Z h2).trans (X7.go c hc));have bg:i (3*n+2)=_:=(k9 (3*n+2) Z Z (nL _)).trans au;have bh:i (3*(n+1)+2)=_:=(k9 (3*(n+1)+2) Z Z (nL _)).trans av;have an:=am.kb Ea T9 f k9 (am.ne aj zd);have ak:=g8.go F0 (FG o9 (Eg _ _)) λb hb=>o9.1 b (by have:=F8 b hb;omega);have ai:=az.kb F0 T9 f k9 dj;have e:=j.trans T9;have n9:n+1+1+1+1<=B+1+1:=Z;have bf:n+1+1+1+1<=B:=y6;generalize B+1+1=m9 at*;apply(Zh);apply dC (mulQ _ (g.t e) (i2.t e) (j2.t e) (i3.t e) (j3.t e) z2 z3 ap);rintro _ bd aa⟨G,ac,a0,I,M,P,S,ab,rfl,b5,b7⟩ bl bj;apply dT #[U x2,U G,Y ac a0 I,U M,Y P S ab];apply MH [U x2,U G,Y ac a0 I,U M,Y P S ab];intro V b9 aw;have p:Exo m9 i V:=⟨(show Tx m9 i (aa+1) V from zx).2⟩;refine MG (n0:=n) (q:=(x2,q2*r)) [U x2,U G,Y ac a0 I,U M,Y P S ab] (ai.ext F0 p.go Z) F0 ⟨_,_,_,_,_,_,_,_,ω,b5.ext aw Zq,b7.ext aw Zq⟩ (yp b9 R2) Z Z (λW hW=>by(repeat (first|rfl|(refine rF ω ?_)))) (k:=?_);intro bi be af ax ag ay bc ae ad;obtain⟨v,rfl⟩:=ag.shape (L:=m+1) aD;have bb:=(ae bs Z (gh.nbk f)).trans ((p.go bs Z).trans p9);apply(zH);apply ME (n0:=n) [υ (N:Int),Y o (m+1) (m+1),Y al (m+1) (m+1),Y v (m+1) (m+1),Y a4 l4 c4,Y a5 l5 c5,Y a6 l6 c6,Y a7 l7 c7,U b8,Y a9 l9 c9] bb;intro ao ba u;have C:Tr m9 i (aa+1+1) ao:=FG u ((show Tr m9 i (aa+1) V from⟨Z,λc hc=>.inl (p.go c hc)⟩).trans ay);have Z0:∀c,c<3*m9->c≠bs->¬BkOf (Y ahi m m) c->ao c=i c:=λc hc h1 h2=>(u.1 c h1).trans ((ae c Z h2).trans (p.go c hc));apply(zG);have ar:bs∈addW n [bs] (addW n af (addW n [bs] (addW n W8 (addW n [bs] (addW n W4 []))))):=wQ aq eC;refine⟨ω,[],ω,⟨Z,o,al,v,ba,an.kb Ea C f Z0 (an.ne ai zd),ak.kb F0 C f Z0 (λb hb Z3=>?_),ag.go F0 (FG u (Eg _ _)) (λb hb=>u.1 b (by have:=ad b hb;omega)),λb hb Z3=>?_,λb hb=>by have:=F4 b hb;omega,e.trans C,λb hb h1 h2 A h4=>(Z0 b Z h1 h4).trans ((k9 b Z h1 A).trans (K5 b hb h1 h2)),yL (λc hc=>.inl (CV.1 hc)) (yL (λc hc=>.inr (ax c hc)) (yL (λc hc=>.inl (CV.1 hc)) (yL (λc hc=>.inr (b4 c hc)) (yL (λc hc=>.inl (CV.1 hc)) (yL (λc hc=>.inr (b0 c hc)) (λc hc=>Cu hc CO))))))⟩,λhw=>?_⟩;have h1:=F8 b hb;have h2:=(gh.bk b Z3).2.1;omega;have h1:=ad b hb;have h2:=(ak.bk b Z3).2.1;omega;(try dsimp only at hw);rw[hw]at ar;cases ar
end
section
variable{D:Type}{sz:Nat}
structure SN (l:Nat)(h:HF)(n bt:Nat)(d:Sol)(A:Adr):Prop extends SM l h n bt d A where
 dh:∀b,BkOf (Y A.hi (O d.hi) (O d.hi)) b->¬BkOf (Y A.lo (O d.lo) (O d.lo)) b
 db:∀b,BkOf (Y A.nb (O d.nb) (O d.nb)) b->¬BkOf (Y A.ba (O d.ba) (O d.ba)) b
 rl:∀r∈d.ta,3*l<=r.1/\r.1≠bt
 rj:(d.ta.map (·.1)).Nodup
 lb:3*l<=bt
theorem len1(l)(x:α):O (l++[x])=O l+1:=by rw[CJ];rfl
section
variable{b:Bool}{a:Option Addr}{u:Nat}
def SN.ext(s:SN l h n bs d A)(x:J3 n h h')(f:n<=n'):SN l h' n' bs d A:=⟨s.toSM.ext x f,s.dh,s.db,s.rl,s.rj,s.lb⟩
def SM.rwk(s:SM l h n bs d A){P}{i:List D}(g:GR sz P l h n e v i)(T:Tr n h n' h')(K:∀c,c<3*n->c≠bs->¬BkOf v c->h' c=h c)(j:∀r∈d.ta,r.1≠bs):∀r∈d.ta,OZ h' n' r.1 r.2/\gro r.1=χ:=
 λr f=>⟨(s.rw r f).1.go Fz T (K _ (s.rw r f).1.1 (j r f) (g.nbk (s.rw r f).2)),(s.rw r f).2⟩
def SN.aNb(s:SN l h n bs d A){x}(T:Tr n h n' h')(K:∀c,c<3*n->c≠bs->¬BkOf (Y A.nb (O d.nb) (O d.nb)) c->h' c=h c)(g:GR 1 natP l h' n' 3 (Y aX (O d.nb+1) (O d.nb+1)) (d.nb++[x]))(F:∀b,BkOf (Y aX (O d.nb+1) (O d.nb+1)) b->3*n<=b)
  (q:h' bs=ξ (.row [υ (d.n:Int),Y A.sc (O d.sc) (O d.sc),Y A.lo (O d.lo) (O d.lo),Y A.hi (O d.hi) (O d.hi),Y A.va (O d.va) (O d.va),Y A.ba (O d.ba) (O d.ba),Y aX (O d.nb+1) (O d.nb+1),Y A.ta (O d.ta) (O d.ta),U b,Y a u c] ty))(i:IW h' n' b a u c d.den):SN l h' n' bs {d with nb:=d.nb++[x]} {A with nb:=aX}:=by have e:=len1 d.nb x;have f:=s.bs.2;refine⟨⟨⟨b,a,u,c,ty,?_,i⟩,⟨Ar,f⟩,s.sc.kb Ea T f K (s.sc.ne s.nb zd),s.lo.kb F0 T f K (s.lo.ne s.nb zd),s.hi.kb F0 T f K (s.hi.ne s.nb zd),s.va.kb Ea T f K (s.va.ne s.nb zd),s.ba.kb FK T f K (λb o j=>s.db b j o),?_,s.ta.kb JX T f K (s.ta.ne s.nb zd),s.rwk s.nb T K λr p=>(s.rl r p).2,s.dj⟩,s.dh,?_,s.rl,s.rj,s.lb⟩;show h' bs=ξ (.row [_,_,_,_,_,_,Y aX (O (d.nb++[x])) (O (d.nb++[x])),_,_,_] ty);rw[e];exact q;show GR _ _ _ _ _ _ (Y aX (O (d.nb++[x])) (O (d.nb++[x]))) _;rw[e];exact g;show ∀b,BkOf (Y aX (O (d.nb++[x])) (O (d.nb++[x]))) b->¬BkOf (Y A.ba (O d.ba) (O d.ba)) b;rw[e];intro b o j;have:=F b o;have:=(s.ba.bk b j).2.1;omega
def SN.aBa(s:SN l h n bs d A){x}(T:Tr n h n' h')(K:∀c,c<3*n->c≠bs->¬BkOf (Y A.ba (O d.ba) (O d.ba)) c->h' c=h c)(g:GR 1 natP l h' n' 3 (Y aX (O d.ba+1) (O d.ba+1)) (d.ba++[x]))(F:∀b,BkOf (Y aX (O d.ba+1) (O d.ba+1)) b->3*n<=b)
  (q:h' bs=ξ (.row [υ (d.n:Int),Y A.sc (O d.sc) (O d.sc),Y A.lo (O d.lo) (O d.lo),Y A.hi (O d.hi) (O d.hi),Y A.va (O d.va) (O d.va),Y aX (O d.ba+1) (O d.ba+1),Y A.nb (O d.nb) (O d.nb),Y A.ta (O d.ta) (O d.ta),U b,Y a u c] ty))(i:IW h' n' b a u c d.den):SN l h' n' bs {d with ba:=d.ba++[x]} {A with ba:=aX}:=by have e:=len1 d.ba x;have f:=s.bs.2;refine⟨⟨⟨b,a,u,c,ty,?_,i⟩,⟨Ar,f⟩,s.sc.kb Ea T f K (s.sc.ne s.ba zd),s.lo.kb F0 T f K (s.lo.ne s.ba zd),s.hi.kb F0 T f K (s.hi.ne s.ba zd),s.va.kb Ea T f K (s.va.ne s.ba zd),?_,s.nb.kb FK T f K s.db,s.ta.kb JX T f K (s.ta.ne s.ba zd),s.rwk s.ba T K λr p=>(s.rl r p).2,s.dj⟩,s.dh,?_,s.rl,s.rj,s.lb⟩;show h' bs=ξ (.row [_,_,_,_,_,Y aX (O (d.ba++[x])) (O (d.ba++[x])),_,_,_,_] ty);rw[e];exact q;show GR _ _ _ _ _ _ (Y aX (O (d.ba++[x])) (O (d.ba++[x]))) _;rw[e];exact g;show ∀b,BkOf (Y A.nb (O d.nb) (O d.nb)) b->¬BkOf (Y aX (O (d.ba++[x])) (O (d.ba++[x]))) b;rw[e];intro b j o;have:=F b o;have:=(s.nb.bk b j).2.1;omega
def SN.aVa(s:SN l h n bs d A){x}(T:Tr n h n' h')(K:∀c,c<3*n->c≠bs->¬BkOf (Y A.va (O d.va) (O d.va)) c->h' c=h c)(g:GR 4 ratP l h' n' 68 (Y aX (O d.va+1) (O d.va+1)) (d.va++[x]))(F:∀b,BkOf (Y aX (O d.va+1) (O d.va+1)) b->3*n<=b)
  (q:h' bs=ξ (.row [υ (d.n:Int),Y A.sc (O d.sc) (O d.sc),Y A.lo (O d.lo) (O d.lo),Y A.hi (O d.hi) (O d.hi),Y aX (O d.va+1) (O d.va+1),Y A.ba (O d.ba) (O d.ba),Y A.nb (O d.nb) (O d.nb),Y A.ta (O d.ta) (O d.ta),U b,Y a u c] ty))(i:IW h' n' b a u c d.den):SN l h' n' bs {d with va:=d.va++[x]} {A with va:=aX}:=by have e:=len1 d.va x;have f:=s.bs.2;refine⟨⟨⟨b,a,u,c,ty,?_,i⟩,⟨Ar,f⟩,s.sc.kb Ea T f K (λb o j=>s.dj b j o),s.lo.kb F0 T f K (s.lo.ne s.va zd),s.hi.kb F0 T f K (s.hi.ne s.va zd),?_,s.ba.kb FK T f K (s.ba.ne s.va zd),s.nb.kb FK T f K (s.nb.ne s.va zd),s.ta.kb JX T f K (s.ta.ne s.va zd),s.rwk s.va T K λr p=>(s.rl r p).2,?_⟩,s.dh,s.db,s.rl,s.rj,s.lb⟩;show h' bs=ξ (.row [_,_,_,_,Y aX (O (d.va++[x])) (O (d.va++[x])),_,_,_,_,_] ty);rw[e];exact q;show GR _ _ _ _ _ _ (Y aX (O (d.va++[x])) (O (d.va++[x]))) _;rw[e];exact g;show ∀b,BkOf (Y aX (O (d.va++[x])) (O (d.va++[x]))) b->¬BkOf (Y A.sc (O d.sc) (O d.sc)) b;rw[e];intro b o j;have:=F b o;have:=(s.sc.bk b j).2.1;omega
def SN.aTa(s:SN l h n bs d A){x:Nat×List Int}(T:Tr n h n' h')(K:∀c,c<3*n->c≠bs->¬BkOf (Y A.ta (O d.ta) (O d.ta)) c->h' c=h c)(g:GR 1 KI l h' n' 66 (Y aX (O d.ta+1) (O d.ta+1)) (d.ta++[x]))(o:OZ h' n' x.1 x.2)(w:gro x.1=χ)(hx:x.1≠bs/\3*l<=x.1/\∀r∈d.ta,r.1<x.1)
  (F:h' bs=ξ (.row [υ (d.n:Int),Y A.sc (O d.sc) (O d.sc),Y A.lo (O d.lo) (O d.lo),Y A.hi (O d.hi) (O d.hi),Y A.va (O d.va) (O d.va),Y A.ba (O d.ba) (O d.ba),Y A.nb (O d.nb) (O d.nb),Y aX (O d.ta+1) (O d.ta+1),U b,Y a u c] ty))(i:IW h' n' b a u c d.den):SN l h' n' bs {d with ta:=d.ta++[x]} {A with ta:=aX}:=by have e:=len1 d.ta x;have j:=s.bs.2;have C:=s.rwk s.ta T K λr f=>(s.rl r f).2;refine⟨⟨⟨b,a,u,c,ty,?_,i⟩,⟨Ar,j⟩,s.sc.kb Ea T j K (s.sc.ne s.ta zd),s.lo.kb F0 T j K (s.lo.ne s.ta zd),s.hi.kb F0 T j K (s.hi.ne s.ta zd),s.va.kb Ea T j K (s.va.ne s.ta zd),s.ba.kb FK T j K (s.ba.ne s.ta zd),s.nb.kb FK T j K (s.nb.ne s.ta zd),?_,λr f=>?_,s.dj⟩,s.dh,s.db,λr f=>?_,?_,s.lb⟩;show h' bs=ξ (.row [_,_,_,_,_,_,_,Y aX (O (d.ta++[x])) (O (d.ta++[x])),_,_] ty);rw[e];exact F;show GR _ _ _ _ _ _ (Y aX (O (d.ta++[x])) (O (d.ta++[x]))) _;rw[e];exact g;obtain f|f:=DQ.1 f;exact C r f;rw[CV.1 f];exact⟨o,w⟩;obtain f|f:=DQ.1 f;exact s.rl r f;rw[CV.1 f];exact⟨hx.2.1,hx.1⟩;show((d.ta++[x]).map (·.1)).Nodup;rw[Eu,List.nodup_append];refine⟨s.rj,List.nodup_cons.2 ⟨CO,Ix⟩,λp y q B=>?_⟩;obtain⟨r,f,rfl⟩:=DL.1 y;have:=hx.2.2 r f;have G:q=x.1:=CV.1 B;omega
def Ud(k)(g:GG h n)(s:SN l h n bs d A)(hl:l<=n)(G:O d.sc=m)(Z1:O d.lo=m)(N:O d.hi=m)(hm:m<999999){x1 d1 x2 d2 b3 d3}{e2 Z0 e3}{l3 c3 f3 u3}{f i r}(i1:IW h n b1 a1 l1 c1 f.num)(j1:IW h n d1 e1 f1 u1 (denZ f))(i2:IW h n b2 a2 l2 c2 i.num)(j2:IW h n d2 e2 f2 u2 (denZ i))(i3:IW h n b3 Z0 l3 c3 r.num)(j3:IW h n d3 e3 f3 u3 (denZ r)){a b}(z1:Sz a f)(z2:Sz a i)(z3:Sz b r)(a8:a+b<=2496):
  CF (J4 (k+11)) 42 [ε bs,.agg #[Y aA lA kA,U x1,U b1,Y a1 l1 c1,U d1,Y e1 f1 u1,U x2,U b2,Y a2 l2 c2,U d2,Y e2 f2 u2],.agg #[U b3,Y Z0 l3 c3,U d3,Y e3 f3 u3]] h n λ_ h' n' w=>n<=n'/\(∃A',SN l h' n' bs {d with sc:=d.sc++[r],lo:=d.lo++[(x1,f*r)],hi:=d.hi++[(x2,i*r)]} A')/\Tr n h n' h'/\(∀b,b<3*n->b≠bs->gro b=χ->h' b=h b)/\(∀b,b<3*l->h' b=h b)/\(∀c∈w,3*l<=c):=by have⟨b0,a0,u0,c0,ty,st,iD⟩:=s.st;have V:=s.bs.2;have q:=s.sc;have p:=s.lo;have o:=s.hi;have Z4:=s.dh;rw[G,Z1,N]at st;rw[G]at q;rw[Z1]at p Z4;rw[N]at o Z4;apply wc (zof k g st s.bs.1 V hl q p o Z4 G Z1 N hm i1 j1 i2 j2 i3 j3 z1 z2 z3 a8);rintro _ h' n' w⟨y,H,J,I,p8,a7,a6,a5,a4,F8,T,Z3,aa⟩;have R:∀{D:Type} {sz:Nat} {P:List ψ->D->HF->Nat->Prop} {v:ψ} {e:TypeId} {l':List D},KP sz P->GR sz P l h n e v l'->(∀b,BkOf v b->¬BkOf (Y A.sc m m) b)->(∀b,BkOf v b->¬BkOf (Y A.lo m m) b)->(∀b,BkOf v b->¬BkOf (Y A.hi m m) b)->GR sz P l h' n' e v l':=λkp g W B h3=>g.go kp T λb j=>Z3 b (g.bk b j).2.1 (λe=>by have:=(g.bk b j).2.2.1;rw[e,V]at this;cases this) (W b j) (B b j) (h3 b j);have S:=s.dj;rw[G]at S;have M:=len1 d.sc r;have L:=len1 d.lo (x1,f*r);have K:=len1 d.hi (x2,i*r);rw[G]at M;rw[Z1]at L;rw[N]at K;have kf:∀b,b<3*n->b≠bs->gro b=χ->h' b=h b:=λb j W B=>Z3 b j W (q.nbk B) (p.nbk B) (o.nbk B);refine⟨y,⟨⟨H,J,I,A.va,A.ba,A.nb,A.ta⟩,⟨⟨b0,a0,u0,c0,ty,?_,iD.t T⟩,⟨by have:=s.bs.1;omega,V⟩,?_,?_,?_,R Ea s.va S (s.va.ne p zd) (s.va.ne o zd),R FK s.ba (s.ba.ne q zd) (s.ba.ne p zd) (s.ba.ne o zd),R FK s.nb (s.nb.ne q zd) (s.nb.ne p zd) (s.nb.ne o zd),R JX s.ta (s.ta.ne q zd) (s.ta.ne p zd) (s.ta.ne o zd),λr C=>⟨(s.rw r C).1.go Fz T (kf _ (s.rw r C).1.1 (s.rl r C).2 (s.rw r C).2),(s.rw r C).2⟩,?_⟩,?_,s.db,s.rl,s.rj,s.lb⟩,T,kf,λb j=>Z3 b Z (λe=>by have:=s.lb;omega) (λF=>by have:=(q.bk b F).1;omega) (λF=>by have:=(p.bk b F).1;omega) (λF=>by have:=(o.bk b F).1;omega),λc hc=>by obtain rfl|h:=aa c hc;exact s.lb;exact h⟩;show h' bs=ξ (.row [_,Y H (O (d.sc++[r])) (O (d.sc++[r])),Y J (O (d.lo++[(x1,f*r)])) (O (d.lo++[(x1,f*r)])),Y I (O (d.hi++[(x2,i*r)])) (O (d.hi++[(x2,i*r)])),_,_,_,_,_,_] ty);rw[M,L,K];exact p8;show GR _ _ _ _ _ _ (Y H (O (d.sc++[r])) (O (d.sc++[r]))) _;rw[M];exact a7;show GR _ _ _ _ _ _ (Y J (O (d.lo++[(x1,f*r)])) (O (d.lo++[(x1,f*r)]))) _;rw[L];exact a6;show GR _ _ _ _ _ _ (Y I (O (d.hi++[(x2,i*r)])) (O (d.hi++[(x2,i*r)]))) _;rw[K];exact a5;show ∀b,BkOf (Y A.va (O d.va) (O d.va)) b->¬BkOf (Y H (O (d.sc++[r])) (O (d.sc++[r]))) b;rw[M];intro b j a9;have:=F8 b a9;have:=(s.va.bk b j).2.1;omega;show ∀b,BkOf (Y I (O (d.hi++[(x2,i*r)])) (O (d.hi++[(x2,i*r)]))) b->¬BkOf (Y J (O (d.lo++[(x1,f*r)])) (O (d.lo++[(x1,f*r)]))) b;rw[K,L];exact a4
end
end
def bL(d:SideD)(s:Rat):Bool×Rat:=(decide (d.lo≠[]),zj d.lo*s)
def bH(d:SideD)(s:Rat):Bool×Rat:=(decide (d.hi≠[]),zj d.hi*s)
def KA(d:SideD):Rat:=if d.lo≠[]then zj d.lo else if d.hi≠[]then zj d.hi else 0
def solC(N:Nat)(cs:List SideD):Sol:=⟨N,CI (O cs) 1,cs.map λd=>bL d 1,cs.map λd=>bH d 1,cs.map KA,[],DO (O cs),[],1⟩
def solR(cs rs:List SideD)(ss:List Rat)(bz:List (Nat×List Int)):Sol:=⟨O cs,CI (O cs) 1++ss,(cs.map λd=>bL d 1)++D2 bL rs ss,(cs.map λd=>bH d 1)++D2 bH rs ss,cs.map KA++D2 (λr s=>dotR r.A (cs.map KA)*s) rs ss,(DO (O ss)).map (O cs+ ·),DO (O cs),bz,1⟩
def zdc{N}{cs}{d}:solC N (cs++[d])=⟨N,CI (O cs) 1++[1],(cs.map λd=>bL d 1)++[bL d 1],(cs.map λd=>bH d 1)++[bH d 1],cs.map KA++[KA d],[],DO (O cs)++[O cs],[],1⟩:=by unfold solC;rw[len1,List.replicate_succ',ah4,Eu,Eu,Eu];rfl
theorem zda{cs rs}:solR cs rs [] []=solC (O cs) cs:=by grind [solR,solC,Jp]
theorem s0{α β γ:Type}{f:α->β->γ}:∀{rs:List α} {ss:List β} {r:α} {s:β},rs[O ss]?=ξ r->D2 f rs (ss++[s])=D2 f rs ss++[f r s]
 |[],ss,r,s,h=>by cases h
 |x::rs,[],r,s,h=>by
  injection h with h
  subst h;show f x s::D2 f rs []=_;rw[Jp];rfl
 |x::rs,y::ss,r,s,h=>by
  show f x y::D2 f rs (ss++[s])=f x y::(D2 f rs ss++[f r s]);rw[s0 (rs:=rs) (ss:=ss) h]
theorem zdb{cs rs}{ss}{a}{r}{s}{z}(h:rs[O ss]?=ξ r):solR cs rs (ss++[s]) (a++[z])=⟨O cs,(CI (O cs) 1++ss)++[s],((cs.map λd=>bL d 1)++D2 bL rs ss)++[bL r s],((cs.map λd=>bH d 1)++D2 bH rs ss)++[bH r s],(cs.map KA++D2 (λr s=>dotR r.A (cs.map KA)*s) rs ss)++[dotR r.A (cs.map KA)*s],(DO (O ss)).map (O cs+ ·)++[O cs+O ss],DO (O cs),a++[z],1⟩:=by grind [solR,len1,s0,ah4,List.append_assoc]
theorem OK{x}{p}[Decidable p](v:x=φ↔p):x=decide p:=by grind
def lD{α β γ:Type}{f:α->β->γ}{rs}{ss}(h:O ss<=O rs):O (D2 f rs ss)=O ss:=by rw[Ho];omega
def za7(k){h}{n}(g:GG h n){ao aR ac}{lo co lR cR lc cc}{ob}{rs cs}(io:QS h n (Y ao lo co) ob)(ir:Kx h n (Y aR lR cR) rs)(ic:Kx h n (Y ac lc cc) cs){a P}(hc:∀d∈cs,Sz a (zj d.lo)/\Sz a (zj d.hi))(hr:∀d∈rs,Sz a (zj d.lo)/\Sz a (zj d.hi)/\O d.A=O cs/\∀q∈d.A,Sz a q)(hz:∀q∈ob,Sz a q)(gp:O ob=O cs)(h0:0<O cs)(hP:a*O cs+a+1<=P)(jf:O cs*(a+a+2)+a+a+3+P<=2490)(hL:O cs<=900)(hR:O rs<=900):
  CX (J4 (k+13)) 19 [.agg #[Y ao lo co,Y aR lR cR,Y ac lc cc]] h n λw h' n'=>∃u A p M B zs s,w=ε u/\SN n h' n' u {solR cs rs p M with ta:=M++[(B,zs)]} A/\O p=O rs/\O M=O rs/\(∀(i:Nat) r z q,rs[i]?=ξ r->M[i]?=ξ z->p[i]?=ξ q->ScR r.A P z.2 q)/\ScR ob P zs s:=by
 have i1:=io.len;have gz:=ir.len;have i0:=ic.len;subst i1 gz i0;have ha:a<=P:=Z;apply zw R4;apply(zG);apply sB [Y ao (O ob) co,Y aR (O rs) cR,Y ac (O cs) cc];intro h1 p1 x1;apply(Zh);apply dC (NH _ _ _);rintro _ h2 n2⟨b2,a2,l2,c2,rfl,i2⟩ y2 x2;apply dT #[υ (O cs:Int),η,η,η,η,η,η,η,U b2,Y a2 l2 c2];apply dB [υ (O cs:Int),η,η,η,η,η,η,η,U b2,Y a2 l2 c2];intro h3 p3 x3;obtain⟨u,hB⟩:∃B,B=3*n2+2:=⟨_,ω⟩;have gb:gro u=χ:=by rw[hB];exact zB _
 rw[<-hB]at p3⊢;have nn:∀{P:Prop} b,BkOf (η) b->P:=λb hb=>(by have⟨o,l,c,e⟩:=hb;cases e);have s3:SN n h3 (n2+1) u (solC (O cs) (cs.take 0)) ⟨θ,θ,θ,θ,θ,θ,θ⟩:=⟨⟨⟨b2,a2,l2,c2,_,p3,i2.ext x3 Zq⟩,⟨Z,gb⟩,ae0,ae0,ae0,ae0,ae0,ae0,ae0,λr hr=>Cu hr CO,λb hb=>nn b hb⟩,λb hb=>nn b hb,λb hb=>nn b hb,λr hr=>Cu hr CO,Ix,Z⟩;have X3:Exo n h h3:=⟨(show Tx n h (n2+1) h3 from zx).2⟩;have i4:h3 (3*n+2)=_:=(zp:h3 (3*n+2)=_);have y3:n+1<=n2:=y2;apply(zJ);apply sF (α:=Nat×Adr) (λz=>[(1,ε (3*n+2)),(3,ε u),(19,Y ac (O cs) cc),(20,υ (O cs:Int)),(21,υ (z.1:Int))]) (λz h' n' w'=>w'=[]/\n2+1<=n'/\J3 n h h'/\h' (3*n+2)=ξ (.row [Y ao (O ob) co,Y aR (O rs) cR,Y ac (O cs) cc] 47)/\SN n h' n' u (solC (O cs) (cs.take z.1)) z.2/\z.1<=O cs) (λz=>O cs-z.1) (0,⟨θ,θ,θ,θ,θ,θ,θ⟩) ⟨ω,Cy,X3.go,i4,s3,Cz⟩;rintro⟨j,A⟩ t h4 n4 _ ⟨rfl,y4,X4,p4,s4,hj⟩;have y4:n2+1<=n4:=y4;replace X4:Exo n h h4:=⟨X4⟩;(try dsimp only at p4 s4 hj);have g4:GG h4 n4:=g.ext X4.go Z;have b4:O (cs.take j)=j:=by rw[List.length_take];omega
 generalize hcj:cs.take j=cj at*;apply(zG);by_cases q4:(j:Int)<(O cs:Int);apply(zG);have dm:j<O cs:=Z;obtain⟨d,gd⟩:∃d,cs[j]?=ξ d:=⟨_,CD dm⟩;have⟨zlo,zhi⟩:=hc d (CE gd);have⟨bb,off,aA,lA,kA,bo,b6,a6,l6,c6,d6,e6,f6,u6,bp,b7,a7,l7,c7,d7,e7,f7,u7,e8,m8,r8,t8,_,v6,i6,j6,v7,i7,j7⟩:=Kx.at (ic.ext (n':=n4) X4.go Z) gd;apply sI e8 r8;apply sL t8 m8 0;apply(sA);intro h5 p5 x5;apply(zG);apply sS [Y aA lA kA,U bo,U b6,Y a6 l6 c6,U d6,Y e6 f6 u6,U bp,U b7,Y a7 l7 c7,U d7,Y e7 f7 u7];intro h6 p6 o6;apply(Zh);apply dC (SG _ _ _);rintro _ h7 n7⟨b9,a9,l9,c9,d9,e9,f9,u9,rfl,i9,j9⟩ y7 x7;have T7:Tr n4 h4 n7 h7:=zt;have k7:∀c,c<3*n4->h7 c=h4 c:=λc hc=>(by have e0:h4 c=h4 c:=rfl;exact zp);have X7:Exo n4 h4 h7:=⟨k7⟩;have jj:n4+1<=n7:=y7;have fi:h7 (3*n4+2)=_:=(x7 _ Z).trans p6;have l1:(solC (O cs) cj).sc.length=j:=by show(CI (O cj) (1:Rat)).length=j;rw[Dk];exact b4
 have l2:(solC (O cs) cj).lo.length=j:=by show(cj.map _).length=j;rw[CN];exact b4
 have l3:(solC (O cs) cj).hi.length=j:=by show(cj.map _).length=j;rw[CN];exact b4
 have az:=Ud (k+1) (g4.t T7) (s4.ext X7.go Z) (show n<=n7 from Z) l1 l2 l3 Z (aA:=aA) (lA:=lA) (kA:=kA) (x1:=bo) (x2:=bp) (i6.t T7) (j6.t T7) (i7.t T7) (j7.t T7) i9 j9 zlo zhi (b:=1) (show Sz 1 (1:Rat)from⟨by decide,by decide⟩) Z;apply wa _ R7 az;rintro _ h8 J w8⟨y8,⟨A8,s8⟩,T8,k8,L8,f5⟩;refine⟨rF ω ω,y8,?_⟩;rw[mY,my f5];have bn:=T7.trans T8;have fj:h8 (3*n4+2)=_:=(k8 _ Z Z (zB _)).trans fi;have fh:h8 (3*n+2)=_:=(k8 _ Z Z (zB _)).trans ((k7 _ Z).trans p4);have X8:Exo n h h8:=⟨λc hc=>(L8 c hc).trans ((k7 c Z).trans (X4.go c hc))⟩;have jn:n4+1<=J:=Z;have fa:=i6.t bn;have fc:=j6.t bn;have fb:=i7.t bn;have fd:=j7.t bn;have ji:n<J:=Z;rw[OK v6,OK v7]at s8;obtain⟨K,bq⟩:∃K:Sol,K={solC (O cs) cj with sc:=(solC (O cs) cj).sc++[1],lo:=(solC (O cs) cj).lo++[bL d 1],hi:=(solC (O cs) cj).hi++[bH d 1]}:=⟨_,ω⟩;have s8:SN n h8 J u K A8:=bq▸s8;have l8:O K.nb=j:=by rw[bq];show(DO (O cj)).length=j;rw[Ff];exact b4
 have⟨b5,a5,l5,c5,ty,st,iD⟩:=s8.st;have jg:=s8.bs.1;apply(zJ);refine wE [υ (j:Int)] (l:=1) (c:=1) R5 λh9 p9 x9=>?_;apply OF (n0:=n) [υ (j:Int)] [j] (s8.nb.ext FK x9 Zq) FK (.cons (c:=[υ (j:Int)]) ω ω .nil) ⟨ω,ω⟩ (yp p9 R2) Cy (by rw[l8];show j+1<_;omega) Z;intro jq f0 c4 em g7 cz cx;obtain⟨aN,rfl⟩:=c4.shape (L:=O K.nb+1) (len1 _ _);have fk:=(cz u Z (s8.nb.nbk gb)).trans ((x9 u Z).trans st);apply(zG);apply NJ (n0:=n) [υ (K.n:Int),Y A8.sc (O K.sc) (O K.sc),Y A8.lo (O K.lo) (O K.lo),Y A8.hi (O K.hi) (O K.hi),Y A8.va (O K.va) (O K.va),Y A8.ba (O K.ba) (O K.ba),Y aN (O K.nb+1) (O K.nb+1),Y A8.ta (O K.ta) (O K.ta),U b5,Y a5 l5 c5] (hb:=fk);intro G b8 ab;have bd:Tr J h8 (J+1+1) G:=FG ab (HR ⟨C8 _,λc hc=>.inl (x9 c hc)⟩ em);have Z1:∀c,c<3*J->c≠u->¬BkOf (Y A8.nb (O K.nb) (O K.nb)) c->G c=h8 c:=λc hc h1 h2=>(ab.1 c h1).trans ((cz c Z h2).trans (x9 c hc));have C:=s8.aNb bd Z1 (c4.go FK (FG ab (Eg _ _)) λb hb=>ab.1 b (by have:=cx b hb;omega)) (λb hb=>by have:=cx b hb;omega) b8 (iD.t bd);have iv:G (3*n4+2)=_:=(Z1 _ Z Z (s8.nb.nbk (zB _))).trans fj;have ce:G (3*n+2)=_:=(Z1 _ Z Z (s8.nb.nbk (zB _))).trans fh;have T:Exo n h G:=⟨λc hc=>(Z1 c Z Z (λhv=>by have:=(s8.nb.bk c hv).1;omega)).trans (X8.go c hc)⟩;have fu:=fa.t bd;have fy:=fc.t bd;have fv:=fb.t bd;have fz:=fd.t bd;obtain⟨f,bh⟩:∃f:Sol,f={K with nb:=K.nb++[j]}:=⟨_,ω⟩;obtain⟨D,dg⟩:∃D:Adr,D={A8 with nb:=aN}:=⟨_,ω⟩;rw[<-bh,<-dg]at C;have l11:O f.va=j:=by rw[bh,bq];show(cj.map _).length=j;rw[CN];exact b4
 have b1:{f with va:=f.va++[KA d]}=solC (O cs) (cs.take (j+1)):=(by rw[xa gd,hcj,zdc,bh,bq,b4];unfold solC;rw[b4]);have⟨d4,d2,dw,db,iy,cf,cb⟩:=C.st;have jl:J+1<=J+1+1:=C8 _;generalize hm:J+1+1=m at*;have ip:=C.bs.1;apply(zG);obtain⟨rfl,cm⟩|⟨rfl,cm⟩:=J7 v6;apply(zG);obtain⟨rfl,dd⟩|⟨rfl,dd⟩:=J7 v7;have ev:KA d=0:=(Cv cm).trans (Cv dd);apply(zG);apply sT #[U χ,η,U χ,η];refine wE [U χ,η,U χ,η] (l:=1) (c:=1) R5 λae bu I=>?_;apply OF (n0:=n) [U χ,η,U χ,η] [(0:Rat)] (C.va.ext Ea I Zq) Ea (.cons (c:=[U χ,η,U χ,η]) ω ⟨_,_,_,_,_,_,_,_,ω,EN _ _,EN _ _⟩ .nil) ⟨ω,ω⟩ (yp bu R2) Cy (by rw[l11];show j+1<_;omega) Z;intro fo f1 a3 bl eh aq ap;obtain⟨aV,rfl⟩:=a3.shape (L:=O f.va+1) (len1 _ _);have bw:=(aq u Z (C.va.nbk gb)).trans ((I u Z).trans cf);apply(zG);apply NJ (n0:=n) [υ (f.n:Int),Y D.sc (O f.sc) (O f.sc),Y D.lo (O f.lo) (O f.lo),Y D.hi (O f.hi) (O f.hi),Y aV (O f.va+1) (O f.va+1),Y D.ba (O f.ba) (O f.ba),Y D.nb (O f.nb) (O f.nb),Y D.ta (O f.ta) (O f.ta),U d4,Y d2 dw db] (hb:=bw);intro ak ax R;have ar:Tr m G (m+1+1) ak:=FG R (HR ⟨C8 _,λc hc=>.inl (I c hc)⟩ bl);have a8:∀c,c<3*m->c≠u->¬BkOf (Y D.va (O f.va) (O f.va)) c->ak c=G c:=λc hc h1 h2=>(R.1 c h1).trans ((aq c Z h2).trans (I c hc));apply(zG);have ay:=C.aVa ar a8 (a3.go Ea (FG R (Eg _ _)) λb hb=>R.1 b (by have:=ap b hb;omega)) (λb hb=>by have:=ap b hb;omega) ax (cb.t ar);rw[<-ev,b1]at ay;exact sK (j+1,{D with va:=aV}) ⟨ω,Z,λc hc=>(a8 c Z Z (λhv=>by have:=(C.va.bk c hv).1;omega)).trans (T.go c hc),(a8 _ Z Z (C.va.nbk (zB _))).trans ce,ay,kF⟩;have ev:KA d=zj d.hi:=(Cv cm).trans (Cw dd);apply(Zh);apply MH [U b7,Y a7 l7 c7,U d7,Y e7 f7 u7];intro ae bu I;refine MG (n0:=n) (q:=zj d.hi) [U b7,Y a7 l7 c7,U d7,Y e7 f7 u7] (C.va.ext Ea I Zq) Ea ⟨_,_,_,_,_,_,_,_,ω,fv.ext I Zq,fz.ext I Zq⟩ (yp bu R2) (by rw[l11];omega) Z (λW hW=>by(repeat (first|rfl|(refine rF ω ?_)))) (k:=?_);intro fo f1 d1 c8 a3 bl eh aq ap;obtain⟨aV,rfl⟩:=a3.shape (L:=O f.va+1) (len1 _ _);have bw:=(aq u Z (C.va.nbk gb)).trans ((I u Z).trans cf);apply(zH);apply ME (n0:=n) [υ (f.n:Int),Y D.sc (O f.sc) (O f.sc),Y D.lo (O f.lo) (O f.lo),Y D.hi (O f.hi) (O f.hi),Y aV (O f.va+1) (O f.va+1),Y D.ba (O f.ba) (O f.ba),Y D.nb (O f.nb) (O f.nb),Y D.ta (O f.ta) (O f.ta),U d4,Y d2 dw db] bw;intro ak ax R;have ar:Tr m G (m+1+1) ak:=FG R (HR ⟨C8 _,λc hc=>.inl (I c hc)⟩ bl);have a8:∀c,c<3*m->c≠u->¬BkOf (Y D.va (O f.va) (O f.va)) c->ak c=G c:=λc hc h1 h2=>(R.1 c h1).trans ((aq c Z h2).trans (I c hc));apply(zG);have au:addW n [u] (addW n d1 [])=[]:=by rw[wD Z,my (λc hc=>by have:=c8 c hc;omega)]
 exact Bw;have ev:KA d=zj d.lo:=Cw cm;apply(Zh);apply MH [U b6,Y a6 l6 c6,U d6,Y e6 f6 u6];intro ae bu I;refine MG (n0:=n) (q:=zj d.lo) [U b6,Y a6 l6 c6,U d6,Y e6 f6 u6] (C.va.ext Ea I Zq) Ea ⟨_,_,_,_,_,_,_,_,ω,fu.ext I Zq,fy.ext I Zq⟩ (yp bu R2) (by rw[l11];omega) Z (λW hW=>by(repeat (first|rfl|(refine rF ω ?_)))) (k:=?_);intro fo f1 d1 c8 a3 bl eh aq ap;obtain⟨aV,rfl⟩:=a3.shape (L:=O f.va+1) (len1 _ _);have bw:=(aq u Z (C.va.nbk gb)).trans ((I u Z).trans cf);apply(zH);apply ME (n0:=n) [υ (f.n:Int),Y D.sc (O f.sc) (O f.sc),Y D.lo (O f.lo) (O f.lo),Y D.hi (O f.hi) (O f.hi),Y aV (O f.va+1) (O f.va+1),Y D.ba (O f.ba) (O f.ba),Y D.nb (O f.nb) (O f.nb),Y D.ta (O f.ta) (O f.ta),U d4,Y d2 dw db] bw;intro ak ax R;have ar:Tr m G (m+1+1) ak:=FG R (HR ⟨C8 _,λc hc=>.inl (I c hc)⟩ bl);have a8:∀c,c<3*m->c≠u->¬BkOf (Y D.va (O f.va) (O f.va)) c->ak c=G c:=λc hc h1 h2=>(R.1 c h1).trans ((aq c Z h2).trans (I c hc));apply(zG);have au:addW n [u] (addW n d1 [])=[]:=by rw[wD Z,my (λc hc=>by have:=c8 c hc;omega)]
 exact Bw;have dm:j=O cs:=Z;have s4:SN n h4 n4 u (solR cs rs [] []) A:=(by rw[zda];rw[<-hcj,dm,C3]at s4;exact s4);apply(zG);apply sF (α:=Nat×List Rat×List (Nat×List Int)×Adr) (λz=>[(1,ε (3*n+2)),(3,ε u),(84,Y aR (O rs) cR),(85,υ (O rs:Int)),(86,υ (z.1:Int))]) (λz h' n' w'=>w'=[]/\n2+1<=n'/\J3 n h h'/\h' (3*n+2)=ξ (.row [Y ao (O ob) co,Y aR (O rs) cR,Y ac (O cs) cc] 47)/\SN n h' n' u (solR cs rs z.2.1 z.2.2.1) z.2.2.2/\O z.2.1=z.1/\z.1<=O rs/\O z.2.2.1=z.1/\∀(i:Nat) r y q,rs[i]?=ξ r->z.2.2.1[i]?=ξ y->z.2.1[i]?=ξ q->ScR r.A P y.2 q) (λz=>O rs-z.1) (0,[],[],A) ⟨ω,y4,X4.go,p4,s4,ω,Cz,ω,λi r y q _ h=>by simp at h⟩;rintro⟨ii,p,M,A5⟩ t h5 V _ ⟨rfl,y5,X5,p5,s5,gn,hi,b0,cq⟩;obtain rfl:O p=ii:=gn;have y5:n2+1<=V:=y5;replace X5:Exo n h h5:=⟨X5⟩;(try dsimp only at p5 s5 hi b0 cq);have g5:GG h5 V:=g.ext X5.go Z;have iq:=s5.bs.1;apply(zG);by_cases q5:(O p:Int)<(O rs:Int);apply(zG);have cp:O p<O rs:=Z;obtain⟨r,gr⟩:∃r,rs[O p]?=ξ r:=⟨_,CD cp⟩;have⟨zlo,zhi,f3,hA⟩:=hr r (CE gr);have⟨bb,off,aA,lA,kA,bo,b6,a6,l6,c6,d6,e6,f6,u6,bp,b7,a7,l7,c7,d7,e7,f7,u7,e8,m8,r8,t8,qA,v6,i6,j6,v7,i7,j7⟩:=Kx.at ir gr;have gy:=qA.len;subst gy;apply sI e8 r8;apply sL (t8.ext X5.go m8) (show bb<3*V from Z) 0;apply(sA);intro h6 p6 y6;apply(zG);apply sS [Y aA (O r.A) kA,U bo,U b6,Y a6 l6 c6,U d6,Y e6 f6 u6,U bp,U b7,Y a7 l7 c7,U d7,Y e7 f7 u7];intro h7 p7 o7;have k7:Exo V h5 h7:=⟨(show Tx V h5 (V+1) h7 from zx).2⟩;have X7:Exo n h h7:=⟨λc hc=>(k7.go c Z).trans (X5.go c hc)⟩;apply(zG);apply sC (qa _ (g.ext (n':=V+1) X7.go Z) (qA.ext X7.go Z) hA (P:=P) (by rw[f3];exact hP) Z Z);rintro _ h8 J⟨B,zs,s,b9,a9,l9,c9,d9,e9,f9,u9,rfl,hB,gB,oz,tz,hs,i9,j9⟩ y8 x8;apply(Zk);intro f0 e1 bx;apply(zG);apply sS [U b9,Y a9 l9 c9,U d9,Y e9 f9 u9];intro G b8 ab;have y8:V+1<=J:=y8;have Z1:Exo V h5 G:=⟨(show Tx V h5 (J+1) G from zx).2⟩;have T:Exo n h G:=⟨λc hc=>(Z1.go c Z).trans (X5.go c hc)⟩;have e5:G (3*V+2)=_:=(zp:G (3*V+2)=_);have ah:Tr J h8 (J+1) G:=zt;have bj:=oz.go Fz ah ((ab.1 B (by have:=oz.1;omega)).trans (bx B oz.1));have ca:=i9.t ah;have cd:=j9.t ah;have dp:=hs.len;have l1:(solR cs rs p M).sc.length=O cs+O p:=by show(CI (O cs) (1:Rat)++p).length=_;rw[CJ,Dk]
 have l2:(solR cs rs p M).lo.length=O cs+O p:=by show((cs.map _)++D2 bL rs p).length=_;rw[CJ,CN,lD hi]
 have l3:(solR cs rs p M).hi.length=O cs+O p:=by show((cs.map _)++D2 bH rs p).length=_;rw[CJ,CN,lD hi]
 have fq:=oz.1;apply(zG);have bg:n<=J+1:=Z;have az:=Ud (k+1) (g.ext T.go bg) (s5.ext (n':=J+1) Z1.go Z) bg l1 l2 l3 Z (aA:=aA) (lA:=O r.A) (kA:=kA) (x1:=bo) (x2:=bp) (i6.ext T.go bg) (j6.ext T.go bg) (i7.ext T.go bg) (j7.ext T.go bg) ca cd zlo zhi hs.sz Z;apply zF _ R5 az;rintro _ ae aw jt⟨fp,⟨ai,S⟩,ci,br,el,dn⟩;rw[mY,my dn];have ea:ae (3*V+2)=_:=(br _ Z Z (zB _)).trans e5;have e3:ae (3*n+2)=_:=(br _ Z Z (zB _)).trans ((Z1.go _ Z).trans p5);have ec:ae (3*J+2)=_:=(br _ Z Z (zB _)).trans b8;have ep:Exo n h ae:=⟨λc hc=>(el c hc).trans (T.go c hc)⟩;have dy:=bj.go Fz ci (br B Z Z gB);have dq:=ca.t ci;have dt:=cd.t ci;rw[OK v6,OK v7]at S;obtain⟨F,Z0⟩:∃F:Sol,F={solR cs rs p M with sc:=(solR cs rs p M).sc++[s],lo:=(solR cs rs p M).lo++[bL r s],hi:=(solR cs rs p M).hi++[bH r s]}:=⟨_,ω⟩;have S:SN n ae aw u F ai:=Z0▸S;have g1:O F.ba=O p:=by rw[Z0];show((DO (O p)).map _).length=_;rw[CN,Ff]
 have c1:F.n=O cs:=by rw[Z0];rfl
 have⟨gg,ge,gw,gi,iz,cg,ds⟩:=S.st;rw[c1]at cg;have ig:=S.bs.1;have iu:J+1<=aw:=fp;have am:∀r∈F.ta,r.1<B:=λr hr=>(by rw[Z0]at hr;have:=(s5.rw r hr).1.1;omega);apply(Zh);apply MH [υ ((O cs+O p:Nat):Int)];intro ak ax c0;refine MG (n0:=n) (q:=O cs+O p) [υ ((O cs+O p:Nat):Int)] (S.ba.ext FK c0 Zq) FK ω (yp ax R2) (by rw[g1];omega) Z (λW hW=>by(repeat (first|rfl|(refine rF ω ?_)))) (k:=?_);intro jr jb ga dj df en g8 d0 cy;obtain⟨aB,rfl⟩:=df.shape (L:=O F.ba+1) (len1 _ _);have fl:=(d0 u Z (S.ba.nbk gb)).trans ((c0 u Z).trans cg);apply(zH);apply ME (n0:=n) [υ (O cs:Int),Y ai.sc (O F.sc) (O F.sc),Y ai.lo (O F.lo) (O F.lo),Y ai.hi (O F.hi) (O F.hi),Y ai.va (O F.va) (O F.va),Y aB (O F.ba+1) (O F.ba+1),Y ai.nb (O F.nb) (O F.nb),Y ai.ta (O F.ta) (O F.ta),U gg,Y ge gw gi] fl;intro av fg bt;have bm:Tr aw ae (aw+1+1) av:=FG bt (HR ⟨C8 _,λc hc=>.inl (c0 c hc)⟩ en);have b3:∀c,c<3*aw->c≠u->¬BkOf (Y ai.ba (O F.ba) (O F.ba)) c->av c=ae c:=λc hc h1 h2=>(bt.1 c h1).trans ((d0 c Z h2).trans (c0 c hc));have au:addW n [u] (addW n ga [])=[]:=by rw[wD Z,my (λc hc=>by have:=dj c hc;omega)]
 rw[au];have a0:=S.aBa bm b3 (df.go FK (FG bt (Eg _ _)) λb hb=>bt.1 b (by have:=cy b hb;omega)) (λb hb=>by have:=cy b hb;omega) (by rw[c1];exact fg) (ds.t bm);have eb:av (3*V+2)=_:=(b3 _ Z Z (S.ba.nbk (zB _))).trans ea;have e4:av (3*n+2)=_:=(b3 _ Z Z (S.ba.nbk (zB _))).trans e3;have ed:av (3*J+2)=_:=(b3 _ Z Z (S.ba.nbk (zB _))).trans ec;have eq:Exo n h av:=⟨λc hc=>(b3 c Z Z (λhv=>by have:=(S.ba.bk c hv).1;omega)).trans (ep.go c hc)⟩;have dz:=dy.go Fz bm (b3 B Z Z (S.ba.nbk gB));have dr:=dq.t bm;have du:=dt.t bm;obtain⟨H,a4⟩:∃H:Sol,H={F with ba:=F.ba++[O cs+O p]}:=⟨_,ω⟩;obtain⟨ad,dh⟩:∃ad:Adr,ad={ai with ba:=aB}:=⟨_,ω⟩;rw[<-a4,<-dh]at a0;have c3:H.n=O cs:=by rw[a4];exact c1
 have g2:O H.ta=O p:=by rw[a4,Z0];exact b0
 have am:∀r∈H.ta,r.1<B:=by rw[a4];exact am
 have⟨da,d3,dx,dc,g6,an,bi⟩:=a0.st;rw[c3]at an;have ij:=a0.bs.1;have il:aw<=aw+1+1:=Z;generalize hm16:aw+1+1=m16 at*;apply(zJ);refine wE [Y (ξ ⟨B,0,θ⟩) (O r.A) (O r.A)] (l:=1) (c:=1) R5 λgk ct ag=>?_;apply OF (n0:=n) [Y (ξ ⟨B,0,θ⟩) (O r.A) (O r.A)] [(B,zs)] (a0.ta.ext JX ag Zq) JX (.cons (c:=[Y (ξ ⟨B,0,θ⟩) (O r.A) (O r.A)]) ω (by show _=_;rw[dp]) .nil) ⟨ω,ω⟩ (yp ct R2) Cy (by rw[g2];show (O p)+1<_;omega) Z;intro ib gl bf ck ei bc ch;obtain⟨aT,rfl⟩:=bf.shape (L:=O H.ta+1) (len1 _ _);have cv:=(bc u Z (a0.ta.nbk gb)).trans ((ag u Z).trans an);apply(zG);apply NJ (n0:=n) [υ (O cs:Int),Y ad.sc (O H.sc) (O H.sc),Y ad.lo (O H.lo) (O H.lo),Y ad.hi (O H.hi) (O H.hi),Y ad.va (O H.va) (O H.va),Y ad.ba (O H.ba) (O H.ba),Y ad.nb (O H.nb) (O H.nb),Y aT (O H.ta+1) (O H.ta+1),U da,Y d3 dx dc] (hb:=cv);intro N cu af;have aj:Tr m16 av (m16+1+1) N:=FG af (HR ⟨C8 _,λc hc=>.inl (ag c hc)⟩ ck);have aa:∀c,c<3*m16->c≠u->¬BkOf (Y ad.ta (O H.ta) (O H.ta)) c->N c=av c:=λc hc h1 h2=>(af.1 c h1).trans ((bc c Z h2).trans (ag c hc));have Z3:=a0.aTa aj aa (bf.go JX (FG af (Eg _ _)) λb hb=>af.1 b (by have:=ch b hb;omega)) (dz.go Fz aj (aa B Z Z (a0.ta.nbk gB))) gB ⟨Z,Z,am⟩ (by rw[c3];exact cu) (bi.t aj);have iw:N (3*V+2)=_:=(aa _ Z Z (a0.ta.nbk (zB _))).trans eb;have g3:N (3*n+2)=_:=(aa _ Z Z (a0.ta.nbk (zB _))).trans e4;have ix:N (3*J+2)=_:=(aa _ Z Z (a0.ta.nbk (zB _))).trans ed;have be:Exo n h N:=⟨λc hc=>(aa c Z Z (λhv=>by have:=(a0.ta.bk c hv).1;omega)).trans (eq.go c hc)⟩;have fw:=dr.t aj;have g0:=du.t aj;obtain⟨v,al⟩:∃v:Sol,v={H with ta:=H.ta++[(B,zs)]}:=⟨_,ω⟩;obtain⟨a1,di⟩:∃a1:Adr,a1={ad with ta:=aT}:=⟨_,ω⟩;rw[<-al,<-di]at Z3;have de:v.n=O cs:=by rw[al];exact c3
 have it:O v.va=O cs+O p:=by rw[al,a4,Z0];show((cs.map KA)++D2 _ rs p).length=_;rw[CJ,CN,lD hi]
 have ft:(v.va.drop 0).take (O cs)=cs.map KA:=(by rw[List.drop_zero,al,a4,Z0];show((cs.map KA)++D2 _ rs p).take (O cs)=_;rw[List.take_append_of_le_length ux,CL ux]);have b1:{v with va:=v.va++[dotR r.A (cs.map KA)*s]}=solR cs rs (p++[s]) (M++[(B,zs)]):=(by rw[zdb gr,al,a4,Z0];rfl);have⟨gh,gf,gx,gj,j0,ee,fx⟩:=Z3.st;rw[de]at ee;have ik:=Z3.bs.1;have im:m16<=m16+1+1:=Z;generalize hm20:m16+1+1=m20 at*;have f8:∀q∈cs.map KA,Sz (a+1) q:=λq hq=>(by obtain⟨d,hd,rfl⟩:=DL.1 hq;unfold KA;split;exact(hc d hd).1.mono Zq;split;exact(hc d hd).2.mono Zq;exact H8 _ Z);have jh:O cs*(a+(a+1)+1)=O cs*(a+a+2):=by rw[show a+(a+1)+1=a+a+2 by omega]
 have f4:=nf hA f8 (O cs) Z ux;rw[CL Z,CL ux]at f4;have⟨bv,cn,gv,lv,ov,jo⟩:=Z3.va.or ω Z;injection cn with cn;have qv:=Z3.va.rs;rw[cn]at qv;have qv:=RS.sub zd qv (m:=0) (c:=O cs) (cap':=O v.va) Z Z;rw[ft]at qv;(try dsimp only at qv);apply(Zh);apply OE (b:=bv) (off:=0) (O cs) R6 (by show Y a1.va (O v.va) (O v.va)=_;rw[cn]) ω ω Z;have dl:=dotQ (k+1) (g.ext (n':=m20) be.go Z) (qA.ext be.go Z) qv hA f8 eH (by rw[f3];omega);rw[CL (show(cs.map KA).length<=O r.A by rw[CN];omega)]at dl;apply dC dl;rintro _ jc jm⟨j3,j2,jk,j4,j5,j8,ja,jp,rfl,gq,gt⟩ eg cw;apply(zH);apply dC (mulQ _ ((g.ext (n':=m20) be.go Z).ext cw eg) gq gt (fw.ext cw eg) (g0.ext cw eg) f4 hs.sz Z);rintro _ jd i3⟨es,er,fe,et,eu,ex,ey,fn,rfl,gs,gu⟩ ju id;apply(zH);apply MH [U es,Y er fe et,U eu,Y ex ey fn];intro gm i5 ef;have cl:Exo m20 N gm:=⟨λc hc=>(ef c Z).trans ((id c Z).trans (cw c hc))⟩;refine MG (n0:=n) (q:=dotR r.A (cs.map KA)*s) [U es,Y er fe et,U eu,Y ex ey fn] (Z3.va.ext Ea cl.go Z) Ea ⟨_,_,_,_,_,_,_,_,ω,gs.ext ef Zq,gu.ext ef Zq⟩ (yp i5 R2) Z Z (λW hW=>by(repeat (first|rfl|(refine rF ω ?_)))) (k:=?_);intro js je gc fr ez g9 j1 ek ej;obtain⟨aV,rfl⟩:=ez.shape (L:=O v.va+1) (len1 _ _);have ia:=(ek u Z (Z3.va.nbk gb)).trans ((cl.go u Z).trans ee);apply(zH);apply ME (n0:=n) [υ (O cs:Int),Y a1.sc (O v.sc) (O v.sc),Y a1.lo (O v.lo) (O v.lo),Y a1.hi (O v.hi) (O v.hi),Y aV (O v.va+1) (O v.va+1),Y a1.ba (O v.ba) (O v.ba),Y a1.nb (O v.nb) (O v.nb),Y a1.ta (O v.ta) (O v.ta),U gh,Y gf gx gj] ia;intro f2 i8 cr;have eo:Tr m20 N (i3+1+1) f2:=FG cr (HR ⟨Z,λc hc=>.inl (cl.go c hc)⟩ g9);have dv:∀c,c<3*m20->c≠u->¬BkOf (Y a1.va (O v.va) (O v.va)) c->f2 c=N c:=λc hc h1 h2=>(cr.1 c h1).trans ((ek c Z h2).trans (cl.go c hc));have au:addW n [u] (addW n gc [])=[]:=by rw[wD Z,my (λc hc=>by have:=fr c hc;omega)]
 have fm:=Z3.aVa eo dv (ez.go Ea (FG cr (Eg _ _)) λb hb=>cr.1 b (by have:=ej b hb;omega)) (λb hb=>by have:=ej b hb;omega) (by rw[de];exact i8) (fx.t eo);rw[b1]at fm;apply(zJ);refine sK (O p+1,p++[s],M++[(B,zs)],{a1 with va:=aV}) ⟨au,Z,λc hc=>(dv c Z Z (λhv=>by have:=(Z3.va.bk c hv).1;omega)).trans (be.go c hc),(dv _ Z Z (Z3.va.nbk (zB _))).trans g3,fm,len1 _ _,(by show O p+1<=_;omega),(len1 _ _).trans (congrArg (· +1) b0),λi r' y q h1 h2 h3=>?_⟩;by_cases e:i=O p;subst e;rw[gr]at h1;cases h1;(try dsimp only at h2 h3);rw[<-b0,Dn Cy,DY]at h2;rw[Dn Cy,DY]at h3;cases h2;cases h3;exact hs;have fs:i<O p:=(by have:=(CK.1 h3).1;have e2:O (p++[s])=O p+1:=len1 _ _;have this:i<O (p++[s]):=this;omega);exact cq i r' y q h1 ((DW Z).symm.trans h2) ((DW fs).symm.trans h3);have cp:O p=O rs:=Z;have zob:=hz;apply(zG);apply sC (qa _ g5 (io.ext (n':=V) X5.go Z) hz (P:=P) (by rw[gp];exact hP) Z Z);rintro _ h8 J⟨B,zs,s,b9,a9,l9,c9,d9,e9,f9,u9,rfl,hB,gB,oz,tz,hs,i9,j9⟩ y8 x8;apply(Zk);intro f0 e1 bx;apply(zG);apply sS [U b9,Y a9 l9 c9,U d9,Y e9 f9 u9];intro G b8 ab;have y8:V<=J:=y8;have Z1:Exo V h5 G:=⟨(show Tx V h5 (J+1) G from zx).2⟩;have ah:Tr J h8 (J+1) G:=zt;have bj:=oz.go Fz ah ((ab.1 B (by have:=oz.1;omega)).trans (bx B oz.1));have dp:=hs.len;have fq:=oz.1;have C:=s5.ext (n':=J+1) Z1.go Z;have ff:(solR cs rs p M).ta.length=O p:=b0;have am:∀r∈(solR cs rs p M).ta,r.1<B:=λr hr=>(by have:=(s5.rw r hr).1.1;omega);obtain⟨Z4,dk⟩:∃Z4:Sol,Z4=solR cs rs p M:=⟨_,ω⟩;have ew:Z4.n=O cs:=by rw[dk];rfl
 rw[<-dk]at C ff am;have⟨da,d3,dx,dc,g6,an,bi⟩:=C.st;rw[ew]at an;have ie:=C.bs.1;have T:Exo n h G:=⟨λc hc=>(Z1.go c Z).trans (X5.go c hc)⟩;generalize hm8:J+1=m8 at*;apply(zG);refine wE [Y (ξ ⟨B,0,θ⟩) (O ob) (O ob)] (l:=1) (c:=1) R5 λgk ct ag=>?_;apply OF (n0:=n) [Y (ξ ⟨B,0,θ⟩) (O ob) (O ob)] [(B,zs)] (C.ta.ext JX ag Zq) JX (.cons (c:=[Y (ξ ⟨B,0,θ⟩) (O ob) (O ob)]) ω (by show _=_;rw[dp]) .nil) ⟨ω,ω⟩ (yp ct R2) Cy (by rw[ff];show (O p)+1<_;omega) Z;intro ib gl bf ck ei bc ch;obtain⟨aT,rfl⟩:=bf.shape (L:=O Z4.ta+1) (len1 _ _);have cv:=(bc u Z (C.ta.nbk gb)).trans ((ag u Z).trans an);apply(zG);apply NJ (n0:=n) [υ (O cs:Int),Y A5.sc (O Z4.sc) (O Z4.sc),Y A5.lo (O Z4.lo) (O Z4.lo),Y A5.hi (O Z4.hi) (O Z4.hi),Y A5.va (O Z4.va) (O Z4.va),Y A5.ba (O Z4.ba) (O Z4.ba),Y A5.nb (O Z4.nb) (O Z4.nb),Y aT (O Z4.ta+1) (O Z4.ta+1),U da,Y d3 dx dc] (hb:=cv);intro N cu af;have aj:Tr m8 G (m8+1+1) N:=FG af (HR ⟨C8 _,λc hc=>.inl (ag c hc)⟩ ck);have aa:∀c,c<3*m8->c≠u->¬BkOf (Y A5.ta (O Z4.ta) (O Z4.ta)) c->N c=G c:=λc hc h1 h2=>(af.1 c h1).trans ((bc c Z h2).trans (ag c hc));have Z3:=C.aTa aj aa (bf.go JX (FG af (Eg _ _)) λb hb=>af.1 b (by have:=ch b hb;omega)) (bj.go Fz aj (aa B Z Z (C.ta.nbk gB))) gB ⟨Z,Z,am⟩ (by rw[ew];exact cu) (bi.t aj);have be:Exo n h N:=⟨λc hc=>(aa c Z Z (λhv=>by have:=(C.ta.bk c hv).1;omega)).trans (T.go c hc)⟩;apply(zG);apply zq (hx:=⟨Z,be.go⟩);rw[dk]at Z3;exact⟨u,_,p,M,B,zs,s,ω,Z3,cp,b0.trans cp,cq,hs⟩
section
variable{B:Nat}
def Lk(ds:List SideD)(v:Nat):Option Rat:=match ds[v]? with|some d=>if d.lo≠[]then ξ (zj d.lo)else θ|none=>θ
def Ll(ds:List SideD)(v:Nat):Option Rat:=match ds[v]? with|some d=>if d.hi≠[]then ξ (zj d.hi)else θ|none=>θ
def La(ta:List (Nat×List Int))(i:Nat):Nat×List Int:=(ta[i]?).getD (0,[])
def zI(ta:List (Nat×List Int))(i j:Nat):Int:=LS (La ta i).2 j
structure PrO (cs rs:List SideD)(ob:List Rat):Prop where
 n1:1<=O cs
 n5:O cs<=5
 m6:O rs<=6
 lc:∀d∈cs,NE (10^6) (10^8) (zj d.lo)/\NE (10^6) (10^8) (zj d.hi)/\(d.lo≠[]->d.hi≠[]->zj d.lo<=zj d.hi)
 lr:∀d∈rs,NE (10^6) (10^8) (zj d.lo)/\NE (10^6) (10^8) (zj d.hi)/\(d.lo≠[]->d.hi≠[]->zj d.lo<=zj d.hi)/\O d.A=O cs/\∀q∈d.A,NE (10^6) (10^8) q
 lo:O ob=O cs/\∀q∈ob,NE (10^10) (10^14) q
def solI(cs rs:List SideD)(ss:List Rat)(bz:List (Nat×List Int))(y:Nat×List Int):Sol:={solR cs rs ss bz with ta:=bz++[y]}
structure ScI (cs rs:List SideD)(ob:List Rat)(ss:List Rat)(bz:List (Nat×List Int))(y:Nat×List Int)(s:Rat):Prop where
 ls:O ss=O rs
 lb:O bz=O rs
 sc:∃P,P<=290/\(∀(i:Nat) r z q,rs[i]?=ξ r->bz[i]?=ξ z->ss[i]?=ξ q->ScR r.A P z.2 q)/\ScR ob P y.2 s
theorem rM:∀{a b:List Rat},O a=O b->∀n,O a=n->dotR a b=Kb n λj=>atR a j*atR b j:=by
 have e:∀(a b:List Rat),O a=O b->∀j,j<=O a->dotR (a.take j) (b.take j)=Kb j λj=>atR a j*atR b j:=by
  intro a b h j;induction j with
  |zero=>intro _;rw[List.take_zero];rfl
  |succ j ih=>
   intro f;have c:=CD (l:=a) (i:=j) Z;have d:=CD (l:=b) (i:=j) Z;rw[wK c d,ih Z];show _=Kb j _+atR a j*atR b j;rw[wg c,wg d]
 intro a b h n g;have:=e a b h n Z;rw[CL Z,CL Z]at this;exact this
section
variable{y:Nat×List Int}{s:Rat}{v:Nat}
theorem Ue(h):La (bz++[y]) i=bz[i]:=by grind [La]
theorem Qh:La (bz++[y]) (O bz)=y:=by grind [La]
def zq1:J6 ((cs.map λd=>bL d 1)++D2 bL rs ss)=bF (O cs) (Lk cs) (Lk (rs.take (O ss))) (atR ss):=by
 funext v;unfold J6 bF Lk;by_cases h:v<O cs;rw[Cw h,DW aD,Dx,CD h];show(match ξ (decide (cs[v].lo≠[]),zj cs[v].lo*1)with|some (φ,q)=>ξ q|_=>θ)=if cs[v].lo≠[]then ξ (zj cs[v].lo)else θ;by_cases q:cs[v].lo≠[];rw[Cw q,Ct q,FB];rw[Cv q,BG q];rw[Cv h,Dn eH,CN,Gd];generalize v-O cs=i;rw[Hz];by_cases h1:i<O ss;rw[Cw h1];have a:=CD h1;rw[wg a,a];cases rs[i]? with
 |none=>rfl
 |some r=>
  show(match ξ (decide (r.lo≠[]),zj r.lo*ss[i])with|some (φ,q)=>ξ q|_=>θ)=(if r.lo≠[]then ξ (zj r.lo)else θ).map _;by_cases q:r.lo≠[];rw[Cw q,Ct q];rfl;rw[Cv q,BG q];rfl
 rw[Cv h1,Dc (l:=ss) Z];cases rs[i]?<;>rfl
def zq2:J6 ((cs.map λd=>bH d 1)++D2 bH rs ss)=bF (O cs) (Ll cs) (Ll (rs.take (O ss))) (atR ss):=by
 funext v;unfold J6 bF Ll;by_cases h:v<O cs;rw[Cw h,DW aD,Dx,CD h];show(match ξ (decide (cs[v].hi≠[]),zj cs[v].hi*1)with|some (φ,q)=>ξ q|_=>θ)=if cs[v].hi≠[]then ξ (zj cs[v].hi)else θ;by_cases q:cs[v].hi≠[];rw[Cw q,Ct q,FB];rw[Cv q,BG q];rw[Cv h,Dn eH,CN,Gd];generalize v-O cs=i;rw[Hz];by_cases h1:i<O ss;rw[Cw h1];have a:=CD h1;rw[wg a,a];cases rs[i]? with
 |none=>rfl
 |some r=>
  show(match ξ (decide (r.hi≠[]),zj r.hi*ss[i])with|some (φ,q)=>ξ q|_=>θ)=(if r.hi≠[]then ξ (zj r.hi)else θ).map _;by_cases q:r.hi≠[];rw[Cw q,Ct q];rfl;rw[Cv q,BG q];rfl
 rw[Cv h1,Dc (l:=ss) Z];cases rs[i]?<;>rfl
def Ug{d}(h:ds[v]?=ξ d):Lk ds v=if d.lo≠[]then ξ (zj d.lo)else θ:=by unfold Lk;rw[h]
def Uh{d}(h:ds[v]?=ξ d):Ll ds v=if d.hi≠[]then ξ (zj d.hi)else θ:=by unfold Ll;rw[h]
theorem kr(h:Lk ds v=ξ q):∃d,ds[v]?=ξ d/\d.lo≠[]/\q=zj d.lo:=by grind [Lk]
theorem kH(h:Ll ds v=ξ q):∃d,ds[v]?=ξ d/\d.hi≠[]/\q=zj d.hi:=by grind [Ll]
theorem ScI.row(c:ScI cs rs ob ss bz y s)(p:PrO cs rs ob)(hi):ScF (O cs) (10^30) (10^32) (atR (rs[i]).A) (zI (bz++[y]) i) (atR ss i):=by
 have⟨P,_,f,_⟩:=c.sc;have u:=c.ls;have o:=c.lb;have a:=CD (l:=ss) (i:=i) Z;have g:=f i _ _ _ (CD hi) (CD (l:=bz) (i:=i) Z) a;have d:=p.lr _ (Ft hi);have m:=g.scF d.2.2.2.2 zd zd d.2.2.2.1;have b:=jW p.n1 p.n5;have e:zI (bz++[y]) i=LS (bz[i]'Z).2:=by grind [zI,Ue]
 rw[e,wg a];exact m.mono b.2 b.1
def ScI.obj(c:ScI cs rs ob ss bz y s)(p:PrO cs rs ob):ScF (O cs) (10^50) (10^54) (atR ob) (zI (bz++[y]) (O rs)) s:=by have⟨P,_,_,b⟩:=c.sc;have d:=b.scF p.lo.2 zd zd p.lo.1;have a:=zwg p.n1 p.n5;have e:zI (bz++[y]) (O rs)=LS y.2:=(by funext j;unfold zI;rw[<-c.lb,Qh]);rw[e];exact d.mono a.2 a.1
def yI(cs:List SideD):Nat->Rat:=atR (cs.map KA)
def Ui(h):yI cs v=KA cs[v]:=by unfold yI;rw[wg (q:=KA cs[v]) aD]
def Uj(c:ScI cs rs ob ss bz y s):rs.take (O ss)=rs:=CL (by rw[c.ls];exact Ej _)
def ScI.lo(c:ScI cs rs ob ss bz y s):J6 (solI cs rs ss bz y).lo=bF (O cs) (Lk cs) (Lk rs) (atR ss):=by have h:=zq1 (cs:=cs) (rs:=rs) (ss:=ss);rw[Uj c]at h;exact h
def ScI.hi(c:ScI cs rs ob ss bz y s):J6 (solI cs rs ss bz y).hi=bF (O cs) (Ll cs) (Ll rs) (atR ss):=by have h:=zq2 (cs:=cs) (rs:=rs) (ss:=ss);rw[Uj c]at h;exact h
theorem zo4(p:PrO cs rs ob)(h:v<O cs):inBd (Lk cs) (Ll cs) v (yI cs v)/\Lh (Lk cs) (Ll cs) v (yI cs v):=by
 have e:=CD h;have a:=(p.lc _ (Ft h)).2.2;rw[Ui h];unfold inBd Lh;rw[Ug e,Uh e];unfold KA;generalize cs[v]=d at a;by_cases h1:d.lo≠[]
 .rw[Cw h1,Cw h1];refine⟨⟨λl q=>?_,λu q=>?_⟩,.inl rfl⟩
  .cases q;exact FN
  split at q
  .next h2=>cases q;exact a h1 h2
  cases q
 rw[Cv h1,Cv h1];by_cases h2:d.hi≠[]
 .rw[Cw h2,Cw h2];exact⟨⟨λl q=>(by cases q),λu q=>(by cases q;exact FN)⟩,.inr (.inl rfl)⟩
 rw[Cv h2,Cv h2];exact⟨⟨λl q=>(by cases q),λu q=>(by cases q)⟩,.inr (.inr ⟨rfl,rfl,rfl⟩)⟩
def fw(c:ScI cs rs ob ss bz y s)(p:PrO cs rs ob):SolP (O cs) (O rs) (solI cs rs ss bz y) (iniS (O cs) (zI (bz++[y])) (yI cs)):=by
 have g:=c.ls;have C:=c.lb;have H:=p.n5;have G:=p.m6;have b:∀{γ:Type} (f:SideD->Rat->γ),O (D2 f rs ss)=O rs:=λf=>by rw[Ho];omega
 refine⟨Ff,λv o=>GB o,?_,λi a=>?_,?_,λv o=>?_,?_,λi a=>?_,ω,?_,?_,Z,?_,ω⟩;show((DO (O ss)).map _).length=_;rw[CN,Ff];exact g;show((DO (O ss)).map (O cs+ ·))[i]?=ξ (O cs+i);rw[Dx,GB Z];rfl;show(cs.map KA++D2 (λr s=>dotR r.A (cs.map KA)*s) rs ss).length=_;rw[CJ,CN,b];show(cs.map KA++D2 (λr s=>dotR r.A (cs.map KA)*s) rs ss)[v]?=ξ (xF (O cs) (zI (bz++[y])) (yI cs) v);by_cases h:v<O cs;rw[jo h,Ui h,DW aD,Dx,CD h];rfl;obtain⟨i,rfl⟩:∃i,v=O cs+i:=⟨v-O cs,Z⟩;have a:i<O rs:=Z;have D:=p.lr _ (Ft a);rw[TM,Dn eH,CN,ER,Gd,CD a,CD (l:=ss) (i:=i) Z];show ξ (dotR (rs[i]).A (cs.map KA)*ss[i])=_;rw[TN (c.row p a).eq,rM aD (O cs) D.2.2.2.1,wg (CD (l:=ss) (i:=i) Z),FZ];rfl;show(bz++[y]).length=_;rw[len1,C];have m:∀i,i<=O rs->(bz++[y])[i]?=ξ (La (bz++[y]) i):=λi a=>(by unfold La;rw[CD (by rw[len1];omega)];rfl);refine⟨_,m i a,?_⟩;have⟨P,_,u,w⟩:=c.sc;have d:(La (bz++[y]) i).2.length=O cs:=(by by_cases q:i<O rs;rw[Ue Z];have:=(u i _ _ _ (CD q) (CD (l:=bz) (i:=i) Z) (CD (l:=ss) (i:=i) Z)).len;rw[this];exact(p.lr _ (Ft q)).2.2.2.1;obtain rfl:i=O bz:=Z;rw[Qh,w.len];exact p.lo.1);refine⟨d,λj F=>?_⟩;show _=ξ (zI (bz++[y]) i j);unfold zI;have e:=CD (l:=(La (bz++[y]) i).2) (i:=j) Z;rw[aW e,e];show((cs.map _)++D2 bL rs ss).length=_;rw[CJ,CN,b];show((cs.map _)++D2 bH rs ss).length=_;rw[CJ,CN,b];show(CI (O cs) (1:Rat)++ss).length=_;rw[CJ,Dk,g]
def Uk{l}{p}(u:p∈l)(c:p.1=χ->p.2=0)(a:N<2^B)(o:1<=B)(hb:∀v,v<O l->∀q,J6 l v=ξ q->∃k z:Int,0<k/\(k:Rat)*q=z/\k.natAbs<=N/\z.natAbs<=N):Sz B p.2:=by have⟨v,b⟩:=EE.1 u;have⟨f,q⟩:=p;cases f;rw[c rfl];exact H8 _ o;have⟨k,z,d,e,g,m⟩:=hb v (CK.1 b).1 q (xI b);exact QB.sz ⟨z,k,d,e,m,g⟩ a a
def fixI(c:ScI cs rs ob ss bz y s)(p:PrO cs rs ob):Fix (O cs) (O rs) (10^32) (10^54) (10^38) 750 540 620 880 127 (aF (O cs) (zI (bz++[y]))) (solI cs rs ss bz y):=by have Z0:=c.ls;have M:Bnd (O cs) (O rs) (aF (O cs) (zI (bz++[y]))) (J6 (solI cs rs ss bz y).lo) (J6 (solI cs rs ss bz y).hi) (10^32) (10^38):=(by rw[c.lo,c.hi];refine zn8 (E:=10^6) (P:=10^8) (DB:=10^30) (f:=λi=>atR ((rs[i]?).getD ⟨[],[],[]⟩).A) (λi H=>?_) zd zd cA cA cA cA (λv Z1 q m=>?_) λi H q m=>?_;rw[CD H];exact c.row p H;obtain m|m:=m;obtain⟨d,o,_,rfl⟩:=kr m;exact(p.lc d (CE o)).1;obtain⟨d,o,_,rfl⟩:=kH m;exact(p.lc d (CE o)).2.1;obtain m|m:=m;obtain⟨d,o,_,rfl⟩:=kr m;exact(p.lr d (CE o)).1;obtain⟨d,o,_,rfl⟩:=kH m;exact(p.lr d (CE o)).2.1);have I:zj []=0:=xX so;have V:(solI cs rs ss bz y).lo.length=O cs+O rs/\(solI cs rs ss bz y).hi.length=O cs+O rs:=⟨(fw c p).ll,(fw c p).lh⟩;refine⟨M,λj Z4=>?_,cap8 p.n1 p.n5,lim8,λq m=>?_,λq m=>?_,λv l u o w=>?_⟩;have⟨D,g,_,T,_,_,_,S⟩:=(c.obj p).ex;rw[nQ];exact CU (Ep _ T) (S j Z4);refine Uk m (λe=>?_) (N:=10^38) cA zd λv Z1 q m=>?_;have m:q∈(cs.map λd=>bL d 1)++D2 bL rs ss:=m;obtain m|m:=DQ.1 m;obtain⟨d,_,rfl⟩:=DL.1 m;have e:d.lo=[]:=G2.1 (of_decide_eq_false e);show zj d.lo*1=0;rw[e,I,Fe];obtain⟨i,H,rfl⟩:=JJ.1 m;rw[JK]at e⊢;have e:(rs[i]' aD).lo=[]:=G2.1 (of_decide_eq_false e);show zj (rs[i]' aD).lo*_=0;rw[e,I,Fe];have⟨k,z,o,w,G,L,_⟩:=M.bq v Z q (.inl m);exact⟨k,z,o,w,G,L⟩;refine Uk m (λe=>?_) (N:=10^38) cA zd λv Z1 q m=>?_;have m:q∈(cs.map λd=>bH d 1)++D2 bH rs ss:=m;obtain m|m:=DQ.1 m;obtain⟨d,_,rfl⟩:=DL.1 m;have e:d.hi=[]:=G2.1 (of_decide_eq_false e);show zj d.hi*1=0;rw[e,I,Fe];obtain⟨i,H,rfl⟩:=JJ.1 m;rw[JK]at e⊢;have e:(rs[i]' aD).hi=[]:=G2.1 (of_decide_eq_false e);show zj (rs[i]' aD).hi*_=0;rw[e,I,Fe];have⟨k,z,o,w,G,L,_⟩:=M.bq v Z q (.inr (.inl m));exact⟨k,z,o,w,G,L⟩;rw[c.lo]at o;rw[c.hi]at w;by_cases h:v<O cs;rw[nD h]at o w;obtain⟨d,C,J,rfl⟩:=kr o;obtain⟨R,F,K,rfl⟩:=kH w;rw[C]at F;cases F;exact(p.lc d (CE C)).2.2 J K;obtain⟨i,rfl⟩:∃i,v=O cs+i:=⟨v-O cs,Z⟩;rw[gn]at o w;obtain⟨a,W,rfl⟩:=En.1 o;obtain⟨b,Z3,rfl⟩:=En.1 w;obtain⟨d,C,J,rfl⟩:=kr W;obtain⟨R,F,K,rfl⟩:=kH Z3;rw[C]at F;cases F;have G:=(p.lr d (CE C)).2.2.1 J K;exact H1 G (D9 (c.row p (CK.1 C).1).pos)
def steI{g}{A}(c:ScI cs rs ob ss bz y s)(p:PrO cs rs ob)(S:SN l h n g (solI cs rs ss bz y) A):Ste l (O cs) (O rs) g (aF (O cs) (zI (bz++[y]))) (L0 (O cs) (O rs) (aF (O cs) (zI (bz++[y])))) A (λi=>(La (bz++[y]) i).1) (solI cs rs ss bz y) h n (solI cs rs ss bz y) (iniS (O cs) (zI (bz++[y])) (yI cs)):=by have H:=c.lb;have b:∀i,i<=O rs->(bz++[y])[i]?=ξ (La (bz++[y]) i):=λi a=>(by unfold La;rw[CD (by rw[len1];omega)];rfl);refine⟨S.toSM,fw c p,zih λv f=>?_,⟨S.lb,λi a=>(S.rl _ (CE (b i a))).1,λi j a d e=>?_,λi a=>⟨_,b i a⟩,S.db⟩,Same.refl _⟩;have:=zo4 p f;unfold inBd Lh at*;rw[c.lo,c.hi,nD f,nD f];exact this;have o:∀i,i<=O rs->((bz++[y]).map (·.1))[i]?=ξ (La (bz++[y]) i).1:=λi a=>(by rw[Dx,b i a];rfl);have w:=List.pairwise_iff_getElem.1 S.rj;have m:∀i j,i<j->j<=O rs->(La (bz++[y]) i).1=(La (bz++[y]) j).1->False:=λi j u d e=>(by have⟨C,D⟩:=CK.1 (o i Z);have⟨F,G⟩:=CK.1 (o j d);exact w i j C F u (D.trans (e.trans G.symm)));obtain h|h|h:=Nat.lt_trichotomy i j;exact(m i j h d e).elim;exact h;exact(m j i h a e.symm).elim
def KL(cs:List SideD)(ss:List Rat)(v:Nat):Rat:=if v<O cs then 1 else atR ss (v-O cs)
set_option exponentiation.threshold 9999 in
def ScI.sg(c:ScI cs rs ob ss bz y s)(h:v<O cs+O rs):(solI cs rs ss bz y).sc[v]?=ξ (KL cs ss v)/\Sz 290 (KL cs ss v):=by have d:=c.ls;show(CI (O cs) (1:Rat)++ss)[v]?=_/\_;unfold KL;by_cases q:v<O cs;rw[Cw q,DW aD,GD,Cw q];exact⟨ω,cA,cA⟩;rw[Cv q,Dn aD,Dk];have e:=CD (l:=ss) (i:=v-O cs) Z;rw[wg e];refine⟨e,?_⟩;have⟨P,b,a,_⟩:=c.sc;exact(a _ _ _ _ (CD (l:=rs) (i:=v-O cs) Z) (CD (l:=bz) (i:=v-O cs) (by have:=c.lb;omega)) e).sz.mono b
end
end
def zrs(k)(h)(n):CX (J4 (k+2)) 41 [υ (-1)] h n (IV (-1)):=by apply zw R4;apply(Zk);intro o y F;apply(zG);apply wm R6 rfl;apply(zG);apply sC (Sn _ _ _);rintro _ p u⟨e,i,g,rfl,j⟩ H G;apply sT #[U φ,Y e i g];apply sS [U φ,Y e i g];intro q C v;apply(zq);exact⟨_,_,_,_,ω,ω,j.t⟩
def newS(k)(h)(n)(up):CX (J4 (k+2)) 41 [υ (Ky up)] h n (IV (Ky up)):=by cases up;exact zrs k h n;exact NH k h n
def jE(k)(h)(n)(up):CX (J4 (k+3)) 43 [υ (Ky up)] h n (QV (Kj up)):=by apply zw R4;apply(Zk);intro h1 y F;apply(zG);apply sC (newS _ _ _ _);rintro _ p u⟨g,e,j,i,rfl,o⟩ H G;apply sT #[U g,Y e j i,U χ,η];apply sS [U g,Y e j i,U χ,η];intro q C v;apply(zq);exact⟨_,_,_,_,_,_,_,_,ω,o.t.as (by cases up<;>rfl),(EN _ _).as (by cases up<;>rfl)⟩
def jH(up):Sz 1 (Kj up):=by cases up<;>exact⟨by decide,by decide⟩
theorem Sz.sg{a}{x}(h:Sz a x)(up):Sz a (x*Kj up):=by unfold Kj;cases up;rw[Cv EL,show x*(-1:Rat)= -x by grind];exact h.neg;rw[Cw ω,FB];exact h
theorem zpe{x}{up}(h:x*Kj up=0):x=0:=by unfold Kj at*;grind
section
variable{B:Nat}{s:PS}{w:ψ}
def SolP.entI(i:SolP n m d s)(hv:∀c,c<n->s.nb c<n+m)(g:c<n):impC d (rowL n (s.T m)) c (s.nb c)↔∃u,ent m (J6 d.lo) (J6 d.hi) s u c:=by have p:=i.va _ (hv c g);obtain⟨C,o⟩:∃x,d.lo[s.nb c]?=ξ x:=⟨_,CD (by have:=i.ll;have:=hv c g;omega)⟩;obtain⟨y,j⟩:∃x,d.hi[s.nb c]?=ξ x:=⟨_,CD (by have:=i.lh;have:=hv c g;omega)⟩;have q:=(du p j).trans (TY j).symm;have v:=(dt p o).trans (TZ o).symm;unfold impC;rw[vu g,q,v];constructor;rintro⟨z,e,h⟩;cases e;obtain h|h:=h;exact⟨φ,h⟩;exact⟨χ,h⟩;rintro⟨u,h⟩;cases u;exact⟨_,ω,.inr h⟩;exact⟨_,ω,.inl h⟩
def EntV.get(i:SolP n m d s)(hv:∀c,c<n->s.nb c<n+m)(h:EntV d (rowL n (s.T m)) w):(∃c up,w=.tuple #[υ ((c:Nat):Int),υ (Ky up),U φ]/\Ent n m (J6 d.lo) (J6 d.hi) s c up)\/((∀c u,c<n->¬ent m (J6 d.lo) (J6 d.hi) s u c)/\w=.tuple #[υ 0,υ 0,U χ]):=by
 obtain⟨c,v,z,o,q,F,G,rfl⟩|⟨o,rfl⟩:=h;have e:c<n:=by have:=(CK.1 o).1;have:=i.nl;omega
 rw[i.nb c e]at o;cases o;rw[vu e]at q;cases q;have y:∀j,j<n->s.nb j<s.nb c->∀u,¬ent m (J6 d.lo) (J6 d.hi) s u j:=λj p H u g=>by have:=G j _ (i.nb j p) ((i.entI hv p).2 ⟨u,g⟩);omega
 have⟨u,g⟩:=(i.entI hv e).1 F;refine .inl ⟨c,u,?_,e,g,y⟩;cases u;have C:0<s.T m c:=g.1;rw[Cv Z];rfl;have C:s.T m c<0:=g.1;rw[Cw C];rfl;exact .inr ⟨λc u e g=>o c _ (i.nb c e) ((i.entI hv e).2 ⟨u,g⟩),ω⟩
def SolP.sz(g:SolP n m d s)(hv:∀c,c<n->s.nb c<n+m)(z:SzP n m V T Z1 B d s)(p:Lim V T Z1 D B):SZ d D:=by have:=p.l1;have:=g.vl;have:=g.ll;have:=g.lh;have:=g.ls;have:=g.nl;have:=g.nm;have:=g.tl;refine⟨λq i=>?_,λq i=>(z.lo q i).mono Z,λq i=>(z.hi q i).mono Z,Z,Z,Z,λv j=>?_,Z,Z⟩;have⟨v,e⟩:=EE.1 i;have o:=(CK.1 e).1;rw[g.va v Z]at e;cases e;exact(z.va v Z).mono Z;have⟨c,e⟩:=EE.1 j;have o:=(CK.1 e).1;rw[g.nb c Z]at e;cases e;have:=hv c Z;omega
end
section
variable{lo hi:Nat->Option Rat}{s:PS}{up:Bool}{b:Int}{f:Nat}
def Ld.opt(h:Ld m lo hi s c up m b f fd ρ)(C:Ent n m lo hi s c up):fd=χ/\(∀r g,¬Li m lo hi s c up r g)\/fd=φ/\∃r,OptS n m lo hi s c up r ρ/\(r=θ/\b= -1\/∃i:Nat,r=ξ i/\b=(i:Int)):=by have p:∀{r g},Li m lo hi s c up r g->cndK m m lo hi s c up r g:=λ{r g} q=>⟨q,λi e=>by subst e;exact q.1⟩;obtain⟨j,o⟩|⟨j,r,o,u,v,y⟩:=h;exact .inl ⟨j,λr g q=>o r g (p q)⟩;exact .inr ⟨j,r,⟨C,o.1,λF g q=>by rw[<-v];exact y F g (p q)⟩,u⟩
end
section
variable{s:PS}{a:Nat->Nat->Int}{B:Nat->Nat}
def zd4(k)(g:GG h n0)(S:Ste l n m bs a L A B d0 h n0 d s)(hF:Feas m (J6 d0.lo) (J6 d0.hi) s)(x:Fix n m M Mo N V T Z1 D BB a d0)(hn:0<n)(b1:n+m<=11):
  CF (J4 (k+15)) 22 [ε bs] h n0 λw P Z3 W=>∃d' s',n0<=Z3/\Ste l n m bs a L A B d0 P Z3 d' s'/\Feas m (J6 d0.lo) (J6 d0.hi) s'/\Tr n0 h Z3 P/\(∀b,b<3*l->P b=h b)/\(∀c∈W,3*l<=c)/\(w=.tuple #[υ 0,υ 0,U φ]/\(∀c u,c<n->¬ent m (J6 d0.lo) (J6 d0.hi) s' u c)\/∃(c:Nat) (up:Bool),w=.tuple #[υ (c:Int),υ (Ky up),U χ]/\Ent n m (J6 d0.lo) (J6 d0.hi) s' c up/\∀r ρ,¬Li m (J6 d0.lo) (J6 d0.hi) s' c up r ρ):=by
 have⟨bw,ew,gw,lw,ow,be⟩:=S.sm.nb.or ω (show O d.nb≠0 by have:=S.sp.nl;omega);have⟨bv,ev,gv,lv,ov,bd⟩:=S.sm.va.or ω (show O d.va≠0 by have:=S.sp.vl;omega);injection ew with ew;injection ev with ev;have hl:3*l<=3*n0:=by have:=S.ap.bs;have:=S.sm.bs.1;omega
 have h4:4^(n+m)<=4^11:=CQ zd b1;apply Lg R4;apply(zG);apply sF (λ_=>[(0,ε bs)]) (λz P Z3 w'=>n0<=Z3/\Ste l n m bs a L A B d0 P Z3 z.2.1 z.2.2/\Feas m (J6 d0.lo) (J6 d0.hi) z.2.2/\Tr n0 h Z3 P/\(∀b,b<3*l->P b=h b)/\(∀c∈w',3*l<=c)/\(z=(0,d,s)\/w'≠[])/\nT (Tw n m a (J6 d0.lo) (J6 d0.hi) L) (λs=>KV m (J6 d0.lo) (J6 d0.hi) s (n+m)) z.1 z.2.2/\O z.2.1.va=O d.va/\O z.2.1.nb=O d.nb) (λz=>4^(n+m)-z.1) (0,d,s) ⟨Cy,S,hF,Eg _ _,λ_ _=>rfl,λc hc=>Cu hc CO,.inl ω,nT.start,ω,ω⟩;rintro⟨q,o,y⟩ t h1 n1 w1 ⟨y1,j,F1,T1,K1,a1,a4,ad,Z4,H⟩;dsimp only at y1 j F1 T1 Z4 H;have hq:q<4^(n+m):=ad.lt λs=>iI _;have x1:=x.same j.eq;have el:=j.eq.lo;have eh:=j.eq.hi;have I1:PInv n m a (J6 o.lo) (J6 o.hi) L y:=by rw[el,eh];exact j.iv
 have C:=x1.szp I1;have ay:=zfb (k+6) j.sm (j.sp.sz j.iv.nv C x.l) (by have:=x.l.l3;omega) (r:=(B m,rowL n (y.T m))) (by rw[j.sp.tl];exact j.ap.at j.sp Cy) (by rw[j.sp.nl];exact yv);apply(zG);apply sC (ay.mono λw _ _ he=>EntV.get j.sp j.iv.nv he);rintro _ h2 n2 he y2 x2;rw[el,eh]at he;have S2:Ste l n m bs a L A B d0 h2 n2 o y:=⟨j.sm.ext x2 y2,j.sp,j.iv,j.ap,j.eq⟩;have T2:Tr n0 h n2 h2:=T1.trans ⟨y2,λc hc=>.inl (x2 c hc)⟩;have K2:∀b,b<3*l->h2 b=h b:=λb hb=>(x2 b Z).trans (K1 b hb);have y2:n1<=n2:=y2;obtain⟨c,up,rfl,hE⟩|⟨J,rfl⟩:=he;have hc:=hE.he;have af:=zia (k+1) (g.t T2) S2.sm j.sp j.iv.toPB C x.l (up:=up) hc (λi hi hT q hq=>x1.stp I1 hc hi hT hq);rw[el,eh]at af;apply(zG);apply sC af;rintro _ h3 F⟨b,f,ρ,b3,a3,l3,c3,d3,e3,f3,u3,fd,rfl,i3,j3,hL,hS⟩ y3 x3;have hP:=hL.opt hE;apply(Zk);intro h4 p4 x4;apply(zG);apply sS [U b3,Y a3 l3 c3,U d3,Y e3 f3 u3];intro G p5 o5;have y3:n2<=F:=y3;have k5:Exo n2 h2 G:=⟨(show Tx n2 h2 (F+1) G from zx).2⟩;have i5:=i3.t (zt:Tr F h3 (F+1) G);have j5:=j3.t (zt:Tr F h3 (F+1) G);have S5:Ste l n m bs a L A B d0 G (F+1) o y:=⟨S2.sm.ext k5.go Z,j.sp,j.iv,j.ap,j.eq⟩;have T5:Tr n0 h (F+1) G:=T2.trans ⟨Z,λc hc=>.inl (k5.go c hc)⟩;have K5:∀b,b<3*l->G b=h b:=λb hb=>(k5.go b Z).trans (K2 b hb);obtain⟨rfl,J⟩|⟨rfl,r,hO,hr⟩:=hP;apply(zG);refine⟨ω,[_,_,_],ω,⟨o,y,Z,S5,F1,T5,K5,a1,.inr ⟨c,up,ω,hE,J⟩⟩,λR=>?_⟩;have R:w1=[]:=R;obtain e|a2:=a4;cases e;exact⟨_,_,Cy,S,hF,Eg _ _,AT,λc hc=>Cu hc CO,.inr ⟨c,up,ω,hE,J⟩⟩;exact Cu R a2;have b5:=x.l.l1;have b8:=x.l.l2;have b9:=x.l.l3;have IN:=hO.inv j.iv F1;have ae:=ad.next (λp τ hp hs hk=>zmy p τ hp hs hk) ⟨j.iv,F1,c,up,r,ρ,hO,ω⟩;apply(Zh);apply dC (jE _ _ _ up);rintro _ h6 n6⟨b6,a6,l6,c6,d6,e6,f6,u6,rfl,i6,j6⟩ y6 x6;apply dC (mulQ _ ((g.t T5).x zx) i5.x j5.x i6 j6 hS (jH up) Z);rintro _ h7 n7⟨b7,a7,l7,c7,d7,e7,f7,u7,rfl,i7,j7⟩ y7 x7;have k7:Exo (F+1) G h7:=⟨(show Tx (F+1) G n7 h7 from zx).2⟩;have ag:F+1<=n7:=(show Tx (F+1) G n7 h7 from zx).1;have S7:Ste l n m bs a L A B d0 h7 n7 o y:=⟨S5.sm.ext k7.go ag,j.sp,j.iv,j.ap,j.eq⟩;have T7:Tr n0 h n7 h7:=T5.trans ⟨ag,λc hc=>.inl (k7.go c hc)⟩;have K7:∀b,b<3*l->h7 b=h b:=λb hb=>(k7.go b Z).trans (K5 b hb);have b0:=TQ (k+2) (g.t T7) S7.sm j.sp j.iv.toPB C x.l hc i7 j7 (hS.sg up);apply wa _ R7 b0;rintro _ ar bb K⟨b4,va,an,al,I,ac,a0,a8,aa⟩;refine⟨rF ω ω,b4,?_⟩;have am:∀v,v<n+m->va[v]?=ξ (Kk y c (ρ*Kj up) (m+1) v):=λv hv=>(al v hv).trans (congrArg ξ (vi (by rw[j.iv.bm];omega)).symm);have Z0:=j.sp.mv an am;have a5:∀{v:ψ},(∀b,BkOf v b->3*l<=b)->∀b,b<3*l->¬BkOf v b:=λhv b hb av=>by have:=hv b av;omega
 have a0:∀b,b<3*l->ar b=h b:=λb hb=>(a0 b Z (a5 (λb hb=>(S7.sm.va.bk b hb).1) b hb)).trans (K7 b hb);obtain⟨rfl,rfl⟩|⟨i,rfl,rfl⟩:=hr;have hρ:ρ*Kj up≠0:=λe=>by rw[zpe e]at hO;exact hO.own0
 have aw:bv∈K:=(aa.resolve_left hρ) bv ⟨0,O o.va,O o.va,by rw[ev,Z4]⟩;apply(zJ);exact sK (q+1,{o with va:=va},optN m y c up θ ρ) ⟨Z,⟨I,Z0,IN.1,j.ap.mv,⟨j.eq.n,j.eq.sc,j.eq.lo,j.eq.hi⟩⟩,IN.2,T7.trans ac,a0,yL a8 a1,.inr (λe=>by have h:=wQ (n0:=n0) (l:=K) (w:=w1) ov.1 aw;have e:addW n0 K w1=[]:=e;rw[e]at h;cases h),ae,(by show O va=_;have:=S.sp.vl;omega),H⟩;have⟨az,ah,_⟩:=hO.ch;have ak:SzP n m V T Z1 BB {o with va:=va} ⟨y.toPT,Kk y c (ρ*Kj up) (m+1)⟩:=(by have b2:=x.szp (s:=optN m y c up (ξ i) ρ) IN.1;exact⟨b2.va,C.lo,C.hi,C.tT,C.tO,C.dd⟩);apply(zJ);apply zF _ R5 (TX _ I Z0 j.iv.toPB ak x.l j.ap.mv az hc ah);rintro _ au bc a9⟨bf,aj,aq,ao,ai,ab⟩;have KF:∀b,b<3*l->au b=h b:=λb hb=>(ao b Z (λe=>by have:=j.ap.bs;omega) (λa ha e=>by have:=j.ap.lo a ha;omega) (a5 (λb hb=>(I.ba.bk b hb).1) b hb) (a5 (λb hb=>(I.nb.bk b hb).1) b hb)).trans (a0 b hb);have ax:bw∈a9:=ab bw ⟨0,O o.nb,O o.nb,by rw[ew,H]⟩;apply(zG);exact sK (q+1,_,optN m y c up (ξ i) ρ) ⟨Z,⟨aj,Z0.piv,IN.1,j.ap.mv.piv,⟨j.eq.n,j.eq.sc,j.eq.lo,j.eq.hi⟩⟩,IN.2,(T7.trans ac).trans aq,KF,yL ai (yL a8 a1),.inr (λe=>by have h:=wQ (n0:=n0) (l:=a9) (w:=addW n0 K w1) ow.1 ax;have e:addW n0 a9 (addW n0 K w1)=[]:=e;rw[e]at h;cases h),ae,(by show O va=_;have:=S.sp.vl;omega),aD⟩;apply(zG);refine⟨ω,[_,_,_],ω,⟨o,y,Z,S2,F1,T2,K2,a1,.inl ⟨ω,J⟩⟩,λR=>?_⟩;have R:w1=[]:=R;obtain e|a2:=a4;cases e;exact⟨_,_,Cy,S,hF,Eg _ _,AT,λc hc=>Cu hc CO,.inl ⟨ω,J⟩⟩;exact Cu R a2
end
end Go.Proofs.YtdeaddceicfanaaGreatDoor
