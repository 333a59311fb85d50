import Derived.Test.YtpcpimjejdegcaaGreatDoorSlvD
open Option renaming some→ξ,none→θ
open Bool renaming true→φ,false→χ
open Go renaming Value→ψ
set_option linter.defProp false
open Bool renaming false_ne_true→Ep
open Classical renaming axiomOfChoice→F2,byContradiction→C1,not_not→Hb
open Go.Proofs.YtpcpimjejdegcaaGreatDoor.ExtB renaming refl→El
open Go.Proofs.YtpcpimjejdegcaaGreatDoor.GR renaming nil→ad4
open Go.Proofs.YtpcpimjejdegcaaGreatDoor.Gro renaming shape→Jg
open Go.Proofs.YtpcpimjejdegcaaGreatDoor.IW renaming zero→EB
open Go.Proofs.YtpcpimjejdegcaaGreatDoor.J9 renaming refl→FH,upd→Fe
open Go.Proofs.YtpcpimjejdegcaaGreatDoor.KN renaming kp→J0
open Go.Proofs.YtpcpimjejdegcaaGreatDoor.Sz renaming zero→Jt
open Go.Proofs.YtpcpimjejdegcaaGreatDoor.Tr renaming refl→Eo,s→FT,trans→HY
open Go.Proofs.YtpcpimjejdegcaaGreatDoor.bndZ renaming kp→Gd
open Go.Proofs.YtpcpimjejdegcaaGreatDoor.intP renaming kp→FL
open Go.Proofs.YtpcpimjejdegcaaGreatDoor.natP renaming kp→FW
open Go.Proofs.YtpcpimjejdegcaaGreatDoor.ratP renaming kp→Ei
open Go.Value renaming bool→U,int→CJ,pointer→CM,slice→Y,string→CN
open Int renaming add_zero→Iz,eq_of_mul_eq_mul_left→FR,mul_pos→HL,mul_zero→GZ,natAbs_mul→Dz,natAbs_natCast→C4,natAbs_sub_le→ac4,one_mul→JI,zero_add→am8,zero_mul→Gv
open Int.ofNat renaming inj→ak4
open List renaming ext_getElem?→Et,getElem?_append_left→D5,getElem?_append_right→Dq,getElem?_eq_getElem→CK,getElem?_eq_none→Dl,getElem?_eq_some_iff→CQ,getElem?_map→DC,getElem?_range→GJ,getElem?_replicate→GN,getElem?_set→HX,getElem?_take→HH,getElem?_zipWith→Gm,getElem_mem→EX,getElem_zipWith→JO,length→O,length_append→CP,length_cons→DN,length_eq_zero_iff→CY,length_map→CU,length_range→Fo,length_replicate→Du,length_set→DT,length_zipWith→Hx,map_append→Ev,mem_append→DW,mem_cons→Dk,mem_cons_of_mem→E7,mem_cons_self→Eb,mem_iff_getElem→Hn,mem_iff_getElem?→EI,mem_map→DU,mem_of_getElem?→CL,mem_range→GQ,mem_singleton→C0,nodup_nil→ID,not_mem_nil→CT,range→DV,range_succ→ag5,replicate→CO,take_append_drop→D1,take_length→Da,take_of_length_le→CR,take_zero→EP,zipWith→Ea,zipWith_nil_right→Ju
open Nat renaming add_comm→Ee,add_mod_right→ac3,add_mul_div_right→G9,add_sub_cancel_left→E1,add_zero→DG,div_eq_of_lt→EY,dvd_mul_left→ad3,dvd_mul_right→ac5,gcd→C6,lcm→IX,le_mul_of_pos_left→ER,le_mul_of_pos_right→EK,le_of_dvd→I3,le_of_lt→D9,le_refl→Ed,le_succ→Dc,le_trans→C5,lt_of_le_of_lt→Dh,lt_of_lt_of_le→CZ,lt_or_ge→EH,lt_succ_self→Fi,mod_lt→DJ,mod_mod→ap2,mul_add→DY,mul_assoc→Dm,mul_comm→C3,mul_le_mul→Df,mul_le_mul_left→C9,mul_le_mul_right→CS,mul_lt_mul''→GP,mul_one→DL,mul_pos→EJ,mul_zero→Ey,not_lt_zero→DR,one_dvd→af1,one_lt_two_pow→IH,one_mul→EV,one_pos→IY,pow_add→D4,pow_le_pow_right→CW,pow_pos→Dw,pow_succ→Db,sub_self→D7,two_pow_pos→G6,zero_add→Dd,zero_le→Ig
open Option renaming map_eq_some_iff→Eh
open Option.some renaming inj→Ej
open Rat renaming add_zero→Gc,divInt→DK,divInt_eq_div→EE,div_mul_cancel→EU,intCast_eq_zero_iff→Eu,intCast_lt_intCast→G0,intCast_mul→DA,intCast_natCast→Ds,intCast_neg→It,intCast_pos→FO,intCast_sub→ag2,le_of_lt→DQ,le_refl→FZ,lt_irrefl→E2,mul_add→ap1,mul_comm→Fm,mul_eq_zero→ag4,mul_le_mul_of_nonneg_right→H8,mul_nonneg→GS,mul_one→Fz,mul_pos→Fy,mul_zero→FC,natCast_eq_zero_iff→HM,neg_num→Hm,not_le→E0,not_lt→FK,num_eq_zero→Fs,num_nonneg→FM,one_mul→IZ,zero_mul→ES
set_option maxHeartbeats 8000000
set_option linter.unusedVariables false
set_option linter.unusedSimpArgs false
noncomputable section
namespace Go.Proofs.YtpcpimjejdegcaaGreatDoor
section
open Go Go.GL
section
variable {cq j lq n:Nat}{q:Rat}{h:HF}{aq:Option Addr}{qs:List Rat}
def TT{D:Nat}{l:List Rat}(a:0<D)(hb:D<BW)(b:∀q∈l,q.den∣D):((lcmD (l.take j) 1:Nat):Int).natAbs<BW:=by rw[C4];exact Dh (I3 a (kv (λq c=>b q (List.mem_of_mem_take c)) (af1 _))) hb
def aa{D:Nat}(a:0<D)(hb:D<BW)(b:q.den∣D):(denZ q).natAbs<BW:=by have h:=Dh (I3 a b) hb;unfold denZ;split;exact Dh CH hb;rw[C4];exact h
def zem{l:List Rat}(g:l[j]?=ξ q)(h:denZ q=0):((lcmD (l.take j) 1:Nat):Int)=((lcmD (l.take (j+1)) 1:Nat):Int):=by rw[xa g,oO,yr.1 h,Nat.lcm_one_right]
def zen{l:List Rat}(g:l[j]?=ξ q)(a:¬denZ q=0)(h:denZ q=((lcmD (l.take j) 1:Nat):Int)):((lcmD (l.take j) 1:Nat):Int)=((lcmD (l.take (j+1)) 1:Nat):Int):=by rw[wq a]at h;have h:q.den=lcmD (l.take j) 1:=ak4 h;rw[xa g,oO,<-h,Nat.lcm_self]
def zeo{l:List Rat}(g:l[j]?=ξ q)(a:¬denZ q=0):((IX ((lcmD (l.take j) 1:Nat):Int).natAbs (denZ q).natAbs:Nat):Int)=((lcmD (l.take (j+1)) 1:Nat):Int):=by rw[wq a,C4,C4,xa g,oO]
def zn3(k:Nat)(g:GG h n)(T:QS h n (Y aq lq cq) qs){D:Nat}(s:0<D)(hb:D<BW)(hd:∀q∈qs,q.den∣D)(hl:O qs<1000000):CX (Ka (k+9)) 54 [Y aq lq cq] h n (IV ((lcmD qs 1:Nat):Int)):=by have ao:=T.len;refine zw R4<|Za λac b0 b5=>?_;refine zG ?_;refine sC (NK _ _ _) ?_;rintro _ ad c⟨w,u,F,A,rfl,R⟩ bc b6;refine sA λae b1 b7=>?_;refine sS [U w,Y u F A] λP Z0 av=>?_;refine zG ?_;refine sF (α:=Nat×Bool×Option Addr×Nat×Nat) (λz=>[(2,ι (3*n+2)),(3,ι (3*c+2)),(7,Y aq lq cq),(8,CJ .i64 (lq:Int)),(9,CJ .i64 (z.1:Int))]) (λz K W w'=>w'=[]/\c+1<=W/\ExtB (c+1) [3*c+2] P K/\K (3*c+2)=ξ (.row [U z.2.1,Y z.2.2.1 z.2.2.2.1 z.2.2.2.2] 60)/\IW K W z.2.1 z.2.2.1 z.2.2.2.1 z.2.2.2.2 (((lcmD (qs.take z.1) 1:Nat):Int))/\z.1<=O qs) (λz=>O qs-z.1) (0,w,u,F,A) ⟨ω,CG,El _ _ _,Z0,(R.t.as (by rw[EP];rfl)),CH⟩ ?_;rintro⟨j,l,i,p,o⟩ t C Z3 _ ⟨rfl,bd,a7,e,a,hj⟩;dsimp only at e a hj;refine zG ?_;by_cases q16:(j:Int)<(lq:Int);refine zG ?_;obtain⟨ab,b⟩:∃d,(qs)[j]?=ξ d:=⟨_,CK Z⟩;have⟨an,aw,M,L,Z4,N,a3,a4,a5,a6,Z1,V,a1,a2,am,m⟩:=QS.at T b;refine sI Z1 a1 ?_;refine sL a2 V 0 ?_;refine sA λaf b2 b8=>?_;refine sS [U M,Y L Z4 N,U a3,Y a4 a5 a6] λag b3 ax=>?_;refine zG ?_;refine sC (yK _ m.x) ?_;rintro _ ah ap⟨a8,rfl,I⟩ be b9;obtain⟨rfl,f⟩|⟨rfl,f⟩:=Kg I;refine zG ?_;refine sC ((SY _ m.x a.t (aa s hb (hd _ (CL b))) (TT s hb hd)).cx) ?_;rintro _ ai ar⟨a9,rfl,J⟩ bf ba;obtain⟨rfl,H⟩|⟨rfl,H⟩:=Kg J;refine zG ?_;refine sC (lcmX _ g.x a.t m.x (TT s hb hd) (aa s hb (hd _ (CL b)))) ?_;rintro _ aj au⟨y,v,G,B,rfl,S⟩ bg bb;refine sS [U y,Y v G B] λak a0 ay=>?_;refine zG ?_;exact sK (j+1,y,v,G,B) ⟨ω,Z,zy,a0,(S.t.as (zeo b f)),Z⟩;refine zG ?_;exact sK (j+1,l,i,p,o) ⟨ω,Z,zy,zp,(a.t.as (zen b f H)),Z⟩;refine zG ?_;exact sK (j+1,l,i,p,o) ⟨ω,Z,zy,zp,(a.t.as (zem b f)),Z⟩;refine zG ?_;refine sS [U l,Y i p o] λal b4 az=>?_;refine zq ?_;exact⟨_,_,_,_,ω,a.t.as aD⟩
end
end
section
variable {k M V P N obj DB B l E:Nat}{g δ ρ q:Rat}{y x σ:Nat->Rat}{α:Type}{cl ch rl rh:Nat->Option Rat}{T:Nat->Nat->Int}{d:Int}
section
variable {a i r:Nat}
def sm(n:Nat)(f:Nat->Int):Int:=match n with|0=>0|n+1=>sm n f+f n
theorem tf{f g:Nat->Int}:∀{n:Nat},(∀j,j<n->f j=g j)->sm n f=sm n g:=by
 intro n;induction n with
 |zero=>intro _;rfl
 |succ n ih=>intro h;show sm n f+f n=sm n g+g n;rw[ih λj b=>h j Z,h n Z]
theorem zma{f:Nat->Int}{n:Nat}(h:∀j,j<n->f j=0):sm n f=0:=by induction n<;>grind [sm]
theorem TU(n:Nat)(f g:Nat->Int):sm n (λj=>f j+g j)=sm n f+sm n g:=by induction n<;>grind [sm]
theorem oj(n:Nat)(c:Int)(f:Nat->Int):sm n (λj=>c*f j)=c*sm n f:=by induction n<;>grind [sm]
theorem jF{f:Nat->Int}{n k:Nat}(b:k<n)(h:∀j,j<n->j≠k->f j=0):sm n f=f k:=by induction n<;>grind [sm,zma]
theorem zo7{f:Nat->Int}{n p:Nat}(b:p+1<n)(h:∀j,j<n->j≠p->j≠p+1->f j=0):sm n f=f p+f (p+1):=by induction n<;>grind [sm,jF]
theorem cD{f:Nat->Int}{n:Nat}(h:∀j,j<n->(f j).natAbs<=B):(sm n f).natAbs<=n*B:=by induction n<;>grind [sm]
def LX(r:Nat):Int:=if r%2=0 then 1 else -1
theorem zhp(r:Nat):LX (r+1)= -LX r:=by unfold LX;split<;>split<;>omega
def sk(r i:Nat):Nat:=if i<r then i else i+1
def Kl:Nat->(Nat->Nat->Int)->Int
 |0,_=>1
 |n+1,A=>sm (n+1) λr=>LX r*A r 0*Kl n λi j=>A (sk r i) (j+1)
def rw'(A:Nat->Nat->Int)(k:Nat)(u:Nat->Int):Nat->Nat->Int:=λi j=>if i=k then u j else A i j
theorem Nn:∀{n:Nat} {A B:Nat->Nat->Int},(∀i j,i<n->j<n->A i j=B i j)->Kl n A=Kl n B:=by
 intro n;induction n with
 |zero=>intro A B _;rfl
 |succ n ih=>
  intro A B h;refine tf λr b=>?_;grind [sk]
theorem TV:sk r i≠r:=by unfold sk;split<;>omega
def ks(r k:Nat):Nat:=if k<r then k else k-1
theorem Ql{k:Nat}(h:r≠k):sk r i=k↔i=ks r k:=by unfold sk ks;split<;>split<;>omega
theorem nj:∀{n:Nat} (A:Nat->Nat->Int) (k:Nat) (a b:Int) (u w:Nat->Int),k<n->Kl n (rw' A k λj=>a*u j+b*w j)=a*Kl n (rw' A k u)+b*Kl n (rw' A k w):=by
 intro n;induction n with
 |zero=>intro A k a b u w h;omega
 |succ n ih=>
  intro A k a b u w d;show sm (n+1) _=a*sm (n+1) _+b*sm (n+1) _;rw[<-oj,<-oj,<-TU];refine tf λr g=>?_;by_cases h:r=k;grind [Kl,rw',sk,Nn,TV];have e:∀v:Nat->Int,(λi j=>rw' A k v (sk r i) (j+1))=rw' (λi j=>A (sk r i) (j+1)) (ks r k) λj=>v (j+1):=λv=>(by grind [rw',sk,Ql]);have c:∀v:Nat->Int,rw' A k v r 0=A r 0:=λv=>by unfold rw';rw[Cs h]
  rw[e,e,e,c,c,c,ih _ _ _ _ _ _ (by unfold ks;split<;>omega)];grind
theorem TW:∀{n:Nat} {A:Nat->Nat->Int} {p:Nat},p+1<n->(∀j,A p j=A (p+1) j)->Kl n A=0:=by
 intro n;induction n with
 |zero=>intro A p h;omega
 |succ n ih=>
  intro A p b g;show sm (n+1) _=0;rw[zo7 b];grind [Kl,sk,Nn,zhp];intro r m c d;have e:Kl n (λi j=>A (sk r i) (j+1))=0:=(by obtain h|h:=EH r p;refine ih (p:=p-1) Z λj=>?_;grind [sk];refine ih (p:=p) Z λj=>?_;grind [sk]);rw[e,GZ]
theorem fG(A:Nat->Nat->Int)(k:Nat):rw' A k (A k)=A:=by grind [rw']
theorem fH(A:Nat->Nat->Int){k:Nat}(h:k≠l)(u w:Nat->Int):rw' (rw' A k u) l w=rw' (rw' A l w) k u:=by grind [rw']
theorem TX{n:Nat}(A:Nat->Nat->Int)(k:Nat)(u w:Nat->Int)(b:k<n):Kl n (rw' A k λj=>u j+w j)=Kl n (rw' A k u)+Kl n (rw' A k w):=by have:=nj A k 1 1 u w b;grind
theorem zi0{n:Nat}{A:Nat->Nat->Int}{p:Nat}(d:p+1<n):Kl n (rw' (rw' A p (A (p+1))) (p+1) (A p))= -Kl n A:=by have b:p≠p+1:=Z;have g:∀u w:Nat->Int,Kl n (rw' (rw' A p u) (p+1) w)+Kl n (rw' (rw' A p w) (p+1) u)=0:=λu w=>(by have c:∀v:Nat->Int,Kl n (rw' (rw' A p v) (p+1) v)=0:=λv=>TW d λj=>(by grind [rw']);have e:∀v:Nat->Int,Kl n (rw' (rw' A p λj=>u j+w j) (p+1) v)=Kl n (rw' (rw' A p u) (p+1) v)+Kl n (rw' (rw' A p w) (p+1) v):=λv=>(by rw[fH A b,TX (rw' A (p+1) v) p u w Z,<-fH A b u v,<-fH A b w v]);have m:=c λj=>u j+w j;rw[TX _ _ _ _ d,e,e,c,c]at m;omega);have h:=g (A p) (A (p+1));rw[fG A p,fG A (p+1)]at h;omega
theorem TY:∀{d n:Nat} {A:Nat->Nat->Int} {p:Nat},p+d+1<n->(∀j,A p j=A (p+d+1) j)->Kl n A=0:=by
 intro d;induction d with
 |zero=>intro n A p b c;exact TW b c
 |succ d ih=>
  intro n A p b c;have h:=zi0 (A:=A) (p:=p+d+1) Z;have e:Kl n (rw' (rw' A (p+d+1) (A (p+d+1+1))) (p+d+1+1) (A (p+d+1)))=0:=(by refine ih (p:=p) Z λj=>?_;grind [rw']);omega
def zi1{n:Nat}{A:Nat->Nat->Int}{p q:Nat}(c:p<n)(e:q<n)(g:p≠q)(h:∀j,A p j=A q j):Kl n A=0:=by obtain b|b:=EH p q;obtain⟨d,rfl⟩:∃d,q=p+d+1:=⟨q-p-1,Z⟩;exact TY e h;obtain⟨d,rfl⟩:∃d,p=q+d+1:=⟨p-q-1,Z⟩;exact TY c λj=>(h j).symm
def znw{n:Nat}(A:Nat->Nat->Int)(s:Nat)(b:s<n)(t:Nat->Int)(V:Nat->Nat->Int):∀m,Kl n (rw' A s λj=>sm m λk=>t k*V k j)=sm m λk=>t k*Kl n (rw' A s (V k)):=by
 intro m;induction m with
 |zero=>
  have:=nj A s 0 0 (V 0) (V 0) b;simp only[Gv,Iz]at this;exact this
 |succ m ih=>
  show Kl n (rw' A s λj=>sm m (λk=>t k*V k j)+t m*V m j)=_;have:=nj A s 1 (t m) (λj=>sm m λk=>t k*V k j) (V m) b;simp only[JI]at this;rw[this,ih];rfl
theorem Qm{n:Nat}{A:Nat->Nat->Int}{s:Nat}(b:s<n){d:Int}{f t:Nat->Int}(h:∀j,j<n->d*f j=sm n λk=>t k*A k j):d*Kl n (rw' A s f)=t s*Kl n A:=by have g:=nj A s d 0 f f b;simp only[Gv,Iz]at g;rw[<-g];have m:Kl n (rw' A s λj=>d*f j)=Kl n (rw' A s λj=>sm n λk=>t k*A k j):=Nn λi j hi u=>(by grind [rw']);rw[m,znw A s b,jF b λk o c=>?_,fG];rw[zi1 (p:=s) (q:=k) b o (λe=>c e.symm) λj=>by unfold rw';rw[Cx ω,Cs c],GZ]
def KJ:Nat->Nat
 |0=>1
 |n+1=>(n+1)*KJ n
def TZ(r:Nat):(LX r).natAbs=1:=by unfold LX;split<;>rfl
theorem df:∀{n:Nat} {A:Nat->Nat->Int} {M:Nat},(∀i j,i<n->j<n->(A i j).natAbs<=M)->(Kl n A).natAbs<=KJ n*M^n:=by
 intro n;induction n with
 |zero=>intro A M _;exact Ed _
 |succ n ih=>
  intro A M h;have c:(sm (n+1) λr=>LX r*A r 0*Kl n λi j=>A (sk r i) (j+1)).natAbs<=(n+1)*(M*(KJ n*M^n)):=cD λr b=>(by rw[Dz,Dz,TZ,EV];exact Df (h r 0 b Z) (ih λi j hi d=>h _ _ Bw Z));show(sm (n+1) _).natAbs<=(n+1)*KJ n*M^(n+1);grind
theorem znx:∀n:Nat,Kl n (λi j=>if i=j then 1 else 0)=1:=by
 intro n;induction n with
 |zero=>rfl
 |succ n ih=>
  show sm (n+1) _=1;rw[jF (k:=0) Z λj c b=>by show LX j*(if j=0 then(1:Int)else 0)*_=0;rw[Cs b,GZ,Gv]];grind [LX,Kl,sk,Nn]
def Kc(n:Nat)(f:Nat->Rat):Rat:=match n with|0=>0|n+1=>Kc n f+f n
theorem yg{f g:Nat->Rat}:∀{n:Nat},(∀j,j<n->f j=g j)->Kc n f=Kc n g:=by
 intro n;induction n with
 |zero=>intro _;rfl
 |succ n ih=>intro h;show Kc n f+f n=Kc n g+g n;rw[ih λj b=>h j Z,h n Z]
theorem Ua(n:Nat)(f g:Nat->Rat):Kc n (λj=>f j-g j)=Kc n f-Kc n g:=by induction n<;>grind [Kc]
theorem Ub(n:Nat)(f g:Nat->Rat):Kc n (λj=>f j+g j)=Kc n f+Kc n g:=by induction n<;>grind [Kc]
theorem wL(n:Nat)(c:Rat)(f:Nat->Rat):Kc n (λj=>c*f j)=c*Kc n f:=by induction n<;>grind [Kc]
theorem fA{f:Nat->Rat}:∀{n:Nat},0<Kc n f->∃j,j<n/\0<f j:=by
 intro n;induction n with
 |zero=>intro h;exact BO h E2
 |succ n ih=>
  grind [Kc]
theorem Qn{f:Nat->Rat}{n:Nat}(h:∀j,j<n->f j=0):Kc n f=0:=by induction n<;>grind [Kc]
theorem Qo{f:Nat->Rat}{n k:Nat}(b:k<n)(h:∀j,j<n->j≠k->f j=0):Kc n f=f k:=by induction n<;>grind [Kc,Qn]
theorem xY{t D:Rat}(h:0<t*D):0<t/\0<D\/t<0/\D<0:=by
 by_cases h1:0<t;refine .inl ⟨h1,E0.1 λb=>?_⟩;have c:=GS (DQ h1) (show 0<= -D by grind);grind;by_cases b:t<0;refine .inr ⟨b,E0.1 λc=>?_⟩;have d:=GS (show 0<= -t by grind) c;grind;have:t=0:=by grind
 rw[this]at h;grind
theorem yq{t D:Rat}(h:t*D<0):0<t/\D<0\/t<0/\0<D:=by have:=xY (t:=t) (D:= -D) aD;grind
section
variable (lo hi:Nat->Option Rat)
def inBd(v:Nat)(x:Rat):Prop:=(∀l,lo v=ξ l->l<=x)/\(∀u,hi v=ξ u->x<=u)
def cG(v:Nat)(x:Rat):Prop:=∀u,hi v=ξ u->x<u
def cS(v:Nat)(x:Rat):Prop:=∀l,lo v=ξ l->l<x
end
def mP{hi:Nat->Option Rat}{v:Nat}{x:Rat}(h:¬cG hi v x):∃u,hi v=ξ u/\u<=x:=by refine C1 λc=>h λu d=>E0.1 λb=>c ⟨u,d,b⟩
def mO{lo:Nat->Option Rat}{v:Nat}{x:Rat}(h:¬cS lo v x):∃l,lo v=ξ l/\x<=l:=by refine C1 λd=>h λl c=>E0.1 λb=>d ⟨l,c,b⟩
structure RD where
 x:Nat->Rat
 B:Nat->Prop
 nv:Nat->Nat
 t:Nat->Rat
 d:Rat
 e:Nat
 w:Nat
 low:Bool
def suit(lo hi:Nat->Option Rat)(D:RD)(c:Nat):Prop:=
 if D.low then 0<D.t c/\cG hi (D.nv c) (D.x (D.nv c))\/D.t c<0/\cS lo (D.nv c) (D.x (D.nv c))
 else D.t c<0/\cG hi (D.nv c) (D.x (D.nv c))\/0<D.t c/\cS lo (D.nv c) (D.x (D.nv c))
structure StepR (n V:Nat)(L:(Nat->Rat)->Prop)(lo hi:Nat->Option Rat)(D D':RD):Prop where
 e:D.e<n
 nb:∀c,c<n->¬D.B (D.nv c)/\D.nv c<V
 inj:∀c c',c<n->c'<n->D.nv c=D.nv c'->c=c'
 w:D.B D.w/\D.w<V
 B':∀v,D'.B v↔v=D.nv D.e\/D.B v/\v≠D.w
 x':∀v,v<V->¬D.B v->v≠D.nv D.e->D'.x v=D.x v
 bd:∀v,v<V->¬D.B v->inBd lo hi v (D.x v)
 viol:if D.low then ∃l,lo D.w=ξ l/\D.x D.w<l/\D'.x D.w=l else ∃u,hi D.w=ξ u/\u<D.x D.w/\D'.x D.w=u
 sm:∀v,v<D.w->D.B v->inBd lo hi v (D.x v)
 dp:0<D.d
 row:∀y,L y->D.d*y D.w=Kc n λc=>D.t c*y (D.nv c)
 xL:L D.x
 su:suit lo hi D D.e
 sms:∀c,c<n->D.nv c<D.nv D.e->¬suit lo hi D c
theorem Nat.max_of{p:Nat->Prop}{V:Nat}(b:∀v,p v->v<V)(h:∃v,p v):∃v,p v/\∀u,p u->u<=v:=by
 induction V with
 |zero=>have⟨v,c⟩:=h;have:=b v c;omega
 |succ V ih=>
  grind
theorem Uc{p:Nat->Prop}(d:p a):∀{b:Nat},a<=b->¬p b->∃c,a<=c/\c<b/\p c/\∀i,c<i->i<=b->¬p i:=by
 intro b;induction b with
 |zero=>intro h e;exact BO (show p 0 by rwa [show a=0 by omega]at d) e
 |succ b ih=>
  grind
section
variable {n:Nat}{L:(Nat->Rat)->Prop}{lo hi:Nat->Option Rat}{f:Nat->RD}
theorem zp3(hk:0<k)(hL:∀x y,L x->L y->L λv=>x v-y v)(d:∀i,StepR n V L lo hi (f i) (f (i+1)))(hp:∀i,f (i+k)=f i):False:=by
 have hV:∀v,(∃i,(f i).nv (f i).e=v)->v<V:=λv⟨i,h⟩=>h▸((d i).nb _ (d i).e).2;have⟨r,⟨I,N⟩,T⟩:=Nat.max_of hV ⟨_,0,ω⟩;have G:(f (I+k)).nv (f (I+k)).e=r:=by rw[hp];exact N
 generalize hbb:I+k=b at G;have a7:(f (I+1)).B r:=((d I).B' r).2 (.inl N.symm);have a0:¬(f b).B r:=G▸((d b).nb _ (d b).e).1;have⟨a,ad,a8,a9,S⟩:=Uc (p:=λi=>(f i).B r) a7 (b:=b) Z a0;have Z4:(f a).w=r:=(by refine C1 λh=>S (a+1) Z Z ?_;exact((d a).B' r).2 (.inr ⟨a9,λe=>h e.symm⟩));have hx:∀i,a<i->i<=b->(f i).x r=(f (a+1)).x r:=by
  intro i;induction i with
  |zero=>intro h;omega
  |succ i ih=>
   intro g C;by_cases e:i=a;rw[e];have a3:r≠(f i).nv (f i).e:=λe2=>S (i+1) Z C (((d i).B' r).2 (.inl e2));rw[(d i).x' r (hV r ⟨I,N⟩) (S i Z Z) a3];exact ih Z Z
 have Z3:=hx b a8 CG;have a1:∀v,v<r->inBd lo hi v ((f a).x v):=λv hv=>(by by_cases h:(f a).B v;exact(d a).sm v (by rw[Z4];exact hv) h;exact(d a).bd v (by have:=hV r ⟨I,N⟩;omega) h);have a5:∀i,∃j,(f j).nv (f j).e=(f i).w:=λi=>by
  have g:¬(f (i+1)).B (f i).w:=λh=>(by rcases((d i).B' _).1 h with h|h;exact((d i).nb _ (d i).e).1 (h▸(d i).w.1);exact h.2 ω);refine C1 λZ1=>?_;have C:∀j,¬(f (i+1+j)).B (f i).w:=λj=>by
   induction j with
   |zero=>exact g
   |succ j ih=>
    intro h;rcases((d (i+1+j)).B' _).1 h with h|h;exact Z1 ⟨_,h.symm⟩;exact ih h.1
  refine C (k-1) ?_;rw[show i+1+(k-1)=i+k by omega,hp];exact(d i).w.1
 have ab:(f b).w<r:=(by have⟨j,hj⟩:=a5 b;have g:=T _ ⟨j,hj⟩;have C:(f b).w≠r:=λe=>a0 (e▸(d b).w.1);omega);have Z0:∀c,c<n->(¬∃j,(f j).nv (f j).e=(f b).nv c)->(f a).x ((f b).nv c)=(f b).x ((f b).nv c):=λc F Z1=>by
  have g:∀j,¬(f (b+j)).B ((f b).nv c)/\(f (b+j)).x ((f b).nv c)=(f b).x ((f b).nv c):=λj=>by
   induction j with
   |zero=>exact⟨((d b).nb c F).1,ω⟩
   |succ j ih=>
    refine⟨λh=>?_,?_⟩;rcases((d (b+j)).B' _).1 h with h|h;exact Z1 ⟨_,h.symm⟩;exact ih.1 h.1;rw[<-ih.2];exact(d (b+j)).x' _ ((d b).nb c F).2 ih.1 λe=>Z1 ⟨_,e.symm⟩
  have C:=(g (a+k-b)).2;rw[show b+(a+k-b)=a+k by omega,hp]at C;exact C
 have a6:=(d b).row _ (hL _ _ (d a).xL (d b).xL);have W:=a1 _ ab;have A:=(d a).viol;have P:=(d b).viol;have q:=(d b).su;have a4:∀c,c<n->(f b).nv c≠r->∀s:Bool,s=(f b).low->(s=φ->0<(f b).t c*((f a).x ((f b).nv c)-(f b).x ((f b).nv c))->False)/\(s=χ->(f b).t c*((f a).x ((f b).nv c)-(f b).x ((f b).nv c))<0->False):=by
  intro c F a3 s ac;by_cases hf:∃j,(f j).nv (f j).e=(f b).nv c;have a2:(f b).nv c<r:=by have:=T _ hf;omega
  have g:=(d b).sms c F (by rw[G];exact a2);have C:=a1 _ a2;unfold suit at g;rw[<-ac]at g;constructor;intro e R;rw[Cx e]at g;obtain⟨m,D⟩|⟨m,D⟩:=xY R;have⟨u,hu,J⟩:=mP λh=>g (.inl ⟨m,h⟩);have:=C.2 u hu;grind;have⟨l,H,J⟩:=mO λh=>g (.inr ⟨m,h⟩);have:=C.1 l H;grind;intro e R;rw[Cs (by rw[e];exact Ep)]at g;obtain⟨m,D⟩|⟨m,D⟩:=yq R;have⟨l,H,J⟩:=mO λh=>g (.inr ⟨m,h⟩);have:=C.1 l H;grind;have⟨u,hu,J⟩:=mP λh=>g (.inl ⟨m,h⟩);have:=C.2 u hu;grind;rw[Z0 c F hf];grind
 have aa:=(d b).dp;unfold suit at q;rw[G,Z3]at q;cases H:(f b).low with
 |true=>
  rw[H]at P q;obtain⟨l,g,C,_⟩:∃l,lo (f b).w=ξ l/\(f b).x (f b).w<l/\_:=P;have R:=W.1 l g;have⟨c,F,m⟩:=fA (show 0<Kc n λc=>(f b).t c*((f a).x ((f b).nv c)-(f b).x ((f b).nv c))by
   grind [Fy])
  by_cases hcr:(f b).nv c=r;obtain rfl:=(d b).inj c _ F (d b).e (hcr.trans G.symm);rw[G,Z3]at m;rw[Cx rfl]at q;rw[Z4]at A;cases hla:(f a).low with
  |true=>
   rw[hla]at A;obtain⟨l',D,J,h7⟩:∃l,lo r=ξ l/\(f a).x r<l/\(f (a+1)).x r=l:=A;obtain⟨K,M⟩|⟨K,M⟩:=xY m;grind;obtain⟨o,_⟩|⟨_,o⟩:=q;grind;have:=o l' D;grind
  |false=>
   rw[hla]at A;obtain⟨u',D,J,h7⟩:∃u,hi r=ξ u/\u<(f a).x r/\(f (a+1)).x r=u:=A;obtain⟨K,M⟩|⟨K,M⟩:=xY m;obtain⟨_,o⟩|⟨o,_⟩:=q;have:=o u' D;grind;grind;grind
  exact(a4 c F hcr φ H.symm).1 ω m
 |false=>
  rw[H]at P q;obtain⟨u,g,C,_⟩:∃u,hi (f b).w=ξ u/\u<(f b).x (f b).w/\_:=P;have R:=W.2 u g;have⟨c,F,m⟩:=fA (show 0<Kc n λc=>(-1)*((f b).t c*((f a).x ((f b).nv c)-(f b).x ((f b).nv c)))by
   rw[wL,<-a6];have D:=Fy aa (show 0<(f b).x (f b).w-(f a).x (f b).w by grind);grind)
  have m:(f b).t c*((f a).x ((f b).nv c)-(f b).x ((f b).nv c))<0:=by grind
  by_cases hcr:(f b).nv c=r;obtain rfl:=(d b).inj c _ F (d b).e (hcr.trans G.symm);rw[G,Z3]at m;rw[Cs Ep]at q;rw[Z4]at A;cases hla:(f a).low with
  |true=>
   rw[hla]at A;obtain⟨l',D,J,h7⟩:∃l,lo r=ξ l/\(f a).x r<l/\(f (a+1)).x r=l:=A;obtain⟨K,M⟩|⟨K,M⟩:=yq m;obtain⟨o,_⟩|⟨_,o⟩:=q;grind;have:=o l' D;grind;grind
  |false=>
   rw[hla]at A;obtain⟨u',D,J,h7⟩:∃u,hi r=ξ u/\u<(f a).x r/\(f (a+1)).x r=u:=A;obtain⟨K,M⟩|⟨K,M⟩:=yq m;grind;obtain⟨_,o⟩|⟨o,_⟩:=q;have:=o u' D;grind;grind
  exact(a4 c F hcr χ H.symm).2 ω m
end
structure OD where
 x:Nat->Rat
 B:Nat->Prop
 nv:Nat->Nat
 q:Nat->Rat
 d:Rat
 e:Nat
 w:Nat
 dv:Nat->Rat
def impr(lo hi:Nat->Option Rat)(D:OD)(c:Nat):Prop:=D.q c<0/\cG hi (D.nv c) (D.x (D.nv c))\/0<D.q c/\cS lo (D.nv c) (D.x (D.nv c))
structure StepO (n V obj:Nat)(L:(Nat->Rat)->Prop)(lo hi:Nat->Option Rat)(D D':OD):Prop where
 e:D.e<n
 nb:∀c,c<n->¬D.B (D.nv c)/\D.nv c<V
 cov:∀v,v<V->¬D.B v->∃c,c<n/\D.nv c=v
 inj:∀c c',c<n->c'<n->D.nv c=D.nv c'->c=c'
 w:D.B D.w/\D.w<V
 B':∀v,D'.B v↔v=D.nv D.e\/D.B v/\v≠D.w
 x':∀v,v<V->D'.x v=D.x v
 dp:0<D.d
 row:∀y,L y->D.d*y obj=Kc n λc=>D.q c*y (D.nv c)
 im:impr lo hi D D.e
 sm:∀c,c<n->D.nv c<D.nv D.e->¬impr lo hi D c
 dL:L D.dv
 de:D.q D.e*D.dv (D.nv D.e)<0
 d0:∀c,c<n->c≠D.e->D.dv (D.nv c)=0
 bl:(0<D.dv D.w->∃u,hi D.w=ξ u/\u<=D.x D.w)/\(D.dv D.w<0->∃l,lo D.w=ξ l/\D.x D.w<=l)
 mb:∀v,v<D.w->D.B v->(0<D.dv v->cG hi v (D.x v))/\(D.dv v<0->cS lo v (D.x v))
section
variable {n:Nat}{L:(Nat->Rat)->Prop}{lo hi:Nat->Option Rat}{f:Nat->OD}
theorem zp4(hk:0<k)(g:∀i,StepO n V obj L lo hi (f i) (f (i+1)))(hp:∀i,f (i+k)=f i):False:=by
 have hV:∀v,(∃i,(f i).nv (f i).e=v)->v<V:=λv⟨i,h⟩=>h▸((g i).nb _ (g i).e).2;have⟨r,⟨b,C⟩,Z3⟩:=Nat.max_of hV ⟨_,0,ω⟩;have S:∀i v,v<V->(f i).x v=(f 0).x v:=λi v hv=>by
  induction i with
  |zero=>rfl
  |succ i ih=>rw[(g i).x' v hv,ih]
 have a0:(f (b+1)).B r:=((g b).B' r).2 (.inl C.symm);have a1:¬(f (b+k)).B r:=by rw[hp];exact C▸((g b).nb _ (g b).e).1
 have⟨a,a8,a9,a2,a3⟩:=Uc (p:=λi=>(f i).B r) a0 (b:=b+k) Z a1;have M:(f a).w=r:=(by refine C1 λh=>a3 (a+1) Z Z ?_;exact((g a).B' r).2 (.inr ⟨a2,λe=>h e.symm⟩));have R:r<V:=hV r ⟨b,C⟩;have h1:=(g a).row _ (g a).dL;rw[Qo (g a).e λj W a7=>by rw[(g a).d0 j W a7];grind]at h1;have h2:(f a).dv obj<0:=by
  have T:(f a).d*(f a).dv obj<0:=by rw[h1];exact(g a).de
  obtain h|h:=yq T;exact h.2;have:=(g a).dp;grind
 have T:=(g b).row _ (g a).dL;have h4:0<Kc n λc=>(-1)*((f b).q c*(f a).dv ((f b).nv c)):=(by rw[wL,<-T];have F:=Fy (g b).dp (show 0< -(f a).dv obj by grind);grind);have⟨c,Z4,F⟩:=fA h4;have F:(f b).q c*(f a).dv ((f b).nv c)<0:=by grind
 have⟨a6,a5⟩:=(g b).nb c Z4;have I:(f a).x ((f b).nv c)=(f b).x ((f b).nv c):=by grind
 have K:(f b).nv c=(f a).nv (f a).e\/(f a).B ((f b).nv c):=(by by_cases h:(f a).B ((f b).nv c);exact .inr h;have⟨Z0,a4,A⟩:=(g a).cov _ a5 h;by_cases o:Z0=(f a).e;exact .inl (by rw[<-A,o]);have:=(g a).d0 Z0 a4 o;simp_all);have N:∃j,(f j).nv (f j).e=(f b).nv c:=by
  refine C1 λP=>?_;have A:∀j,¬(f (b+j)).B ((f b).nv c):=λj=>by
   induction j with
   |zero=>exact a6
   |succ j ih=>
    intro h;rcases((g (b+j)).B' _).1 h with h|h;exact P ⟨_,h.symm⟩;exact ih h.1
  obtain h|h:=K;exact P ⟨a,h.symm⟩;have:=A (a-b);grind
 have aa:=Z3 _ N;by_cases W:(f b).nv c=r;obtain rfl:=(g b).inj c _ Z4 (g b).e (W.trans C.symm);have s:=(g b).im;unfold impr at s;rw[C]at s F;have H:=(g a).bl;rw[M,S a r R,<-S b r R]at H;obtain⟨A,o⟩|⟨A,o⟩:=yq F;have⟨l,y,G⟩:=H.2 o;obtain⟨m,_⟩|⟨_,m⟩:=s;grind;have:=m l y;grind;have⟨u,y,G⟩:=H.1 o;obtain⟨_,m⟩|⟨m,_⟩:=s;have:=m u y;grind;grind;have J:=(g b).sm c Z4 (by rw[C];omega);unfold impr at J;have s:=(g a).im;unfold impr at s;obtain⟨A,o⟩|⟨A,o⟩:=yq F;have⟨l,y,G⟩:=mO λh=>J (.inr ⟨A,h⟩);obtain ho|ho:=K;rw[ho]at o y G I;obtain⟨m,D⟩|⟨m,D⟩:=yq (g a).de;grind;grind;have:=((g a).mb _ (by rw[M];omega) ho).2 o l y;grind;have⟨u,y,G⟩:=mP λh=>J (.inl ⟨A,h⟩);obtain ho|ho:=K;rw[ho]at o y G I;obtain⟨m,D⟩|⟨m,D⟩:=yq (g a).de;grind;obtain⟨_,Z1⟩|⟨Z1,_⟩:=s;have:=Z1 u y;grind;grind;have:=((g a).mb _ (by rw[M];omega) ho).1 o u y;grind
end
end
section
variable {c i r:Nat}
theorem kc{f:Nat->Int}{n e:Nat}(b:e<n):sm n f=sm n (λc=>if c=e then 0 else f c)+f e:=by induction n<;>grind [sm,tf]
theorem uM{f:Nat->Rat}{n e:Nat}(b:e<n):Kc n f=Kc n (λc=>if c=e then 0 else f c)+f e:=by induction n<;>grind [Kc,yg]
def Ke{α:Type}(f:Nat->α)(k:Nat)(v:α):Nat->α:=λc=>if c=k then v else f c
def sgn(t:Int):Int:=if t<0 then -1 else 1
theorem fF(t:Int):sgn t*t=(t.natAbs:Int):=by unfold sgn;split<;>omega
def zpc(t:Int):sgn t*sgn t=1:=by unfold sgn;split<;>rfl
def pT(T:Nat->Nat->Int)(d:Int)(r e:Nat):Nat->Nat->Int:=λi c=>sgn (T r e)*(if i=r then(if c=e then d else -T r c)else if c=e then T i e else(T i c*T r e-T i e*T r c).tdiv d)
structure TabI (n m:Nat)(a:Nat->Nat->Int)(nb bs:Nat->Nat)(T:Nat->Nat->Int)(d:Int):Prop where
 dp:0<d
 dd:Kl n (λc=>a (nb c))=d\/Kl n (λc=>a (nb c))= -d
 rep:∀i,i<=m->∀j,j<n->d*a (bs i) j=sm n λc=>T i c*a (nb c) j
section
variable {n m:Nat}{a:Nat->Nat->Int}{nb bs:Nat->Nat}
theorem TabI.ent(h:TabI n m a nb bs T d)(hi:i<=m)(f:c<n):T i c=Kl n (rw' (λc=>a (nb c)) c (a (bs i)))\/T i c= -Kl n (rw' (λc=>a (nb c)) c (a (bs i))):=by
 have b:=Qm (A:=λc=>a (nb c)) f (h.rep i hi);have:=h.dp;obtain e|e:=h.dd<;>rw[e]at b;grind [FR,Int.mul_comm];right;have g:d*Kl n (rw' (λc=>a (nb c)) c (a (bs i)))=d* -T i c:=by rw[b];grind
 grind [FR]
theorem TabI.newdet(h:TabI n m a nb bs T d){e:Nat}(j:r<=m)(g:e<n):Kl n (λc=>a (Ke nb e (bs r) c))=T r e\/Kl n (λc=>a (Ke nb e (bs r) c))= -T r e:=by
 have b:(λc=>a (Ke nb e (bs r) c))=rw' (λc=>a (nb c)) e (a (bs r)):=by grind [Ke,rw']
 rw[b];obtain f|f:=h.ent j g<;>omega
theorem TabI.newrow(h:TabI n m a nb bs T d){e:Nat}(l:r<=m)(g:e<n)(hi:i<=m)(j:Nat)(hj:j<n):T r e*d*a (bs i) j=sm n λc=>(if c=e then T i e*d else T i c*T r e-T i e*T r c)*a (Ke nb e (bs r) c) j:=by have b:=h.rep i hi j hj;have f:=h.rep r l j hj;rw[kc g]at b f⊢;have o:sm n (λc=>if c=e then 0 else(if c=e then T i e*d else T i c*T r e-T i e*T r c)*a (Ke nb e (bs r) c) j)=T r e*sm n (λc=>if c=e then 0 else T i c*a (nb c) j)+ -T i e*sm n (λc=>if c=e then 0 else T r c*a (nb c) j):=(by rw[<-oj,<-oj,<-TU];refine tf λc p=>?_;by_cases hce:c=e;simp only[Cx hce];omega;simp only[Cs hce,Ke];grind);grind [Ke,sm]
theorem TabI.exact(h:TabI n m a nb bs T d){e:Nat}(p:r<=m)(o:e<n)(hi:i<=m)(u:c<n)(q:T r e≠0)(l:c≠e):d∣T i c*T r e-T i e*T r c:=by
 have b:=Qm (A:=λc=>a (Ke nb e (bs r) c)) u (λj v=>h.newrow p o hi j v);rw[Cs l]at b;generalize Kl n (rw' (λc=>a (Ke nb e (bs r) c)) c (a (bs i)))=D at b;obtain g|g:=h.newdet p o<;>rw[g]at b;have f:T r e*(d*D)=T r e*(T i c*T r e-T i e*T r c):=by grind
 exact⟨D,(FR q f).symm⟩;have f:T r e*(d* -D)=T r e*(T i c*T r e-T i e*T r c):=by grind
 exact⟨-D,(FR q f).symm⟩
def dY{x d:Int}(h:d∣x):d*x.tdiv d=x:=Int.mul_tdiv_cancel' h
theorem TabI.pivot(h:TabI n m a nb bs T d){e:Nat}(g:r<=m)(b:e<n)(v:T r e≠0):TabI n m a (Ke nb e (bs r)) (Ke bs r (nb e)) (pT T d r e) ((T r e).natAbs:Int):=by
 have w:=h.dp;refine⟨Z,?_,λi hi j p=>?_⟩;obtain f|f:=h.newdet g b<;>rw[f]<;>omega;have A:Ke nb e (bs r) e=bs r:=by unfold Ke;rw[Cx rfl]
 by_cases hir:i=r;subst hir;have u:=h.rep i g j p;have l:Ke bs i (nb e) i=nb e:=by unfold Ke;rw[Cx rfl]
 rw[l,kc b];rw[kc b]at u;have y:sm n (λc=>if c=e then 0 else pT T d i e i c*a (Ke nb e (bs i) c) j)= -sgn (T i e)*sm n (λc=>if c=e then 0 else T i c*a (nb c) j):=(by rw[<-oj];refine tf λc o=>?_;by_cases hce:c=e;simp only[Cx hce];omega;simp only[Cs hce,Ke,pT,Cx];grind);grind [pT,sgn,fF,sm];have l:Ke bs r (nb e) i=bs i:=by unfold Ke;rw[Cs hir]
 rw[l];have f:=h.newrow g b hi j p;refine FR (a:=d) Z ?_;rw[<-oj,<-fF];have q:sm n (λc=>d*(pT T d r e i c*a (Ke nb e (bs r) c) j))=sgn (T r e)*sm n λc=>(if c=e then T i e*d else T i c*T r e-T i e*T r c)*a (Ke nb e (bs r) c) j:=(by rw[<-oj];refine tf λc o=>?_;by_cases hce:c=e;simp only[Cx hce,pT,Cs hir];grind;have:=dY (h.exact g b hi o v hce);simp only[Cs hce,pT,Cs hir];grind);rw[q,<-f];grind
def RepY(n m:Nat)(nb bs:Nat->Nat)(T:Nat->Nat->Int)(d:Int)(y:Nat->Rat):Prop:=∀i,i<=m->(d:Rat)*y (bs i)=Kc n λc=>(T i c:Rat)*y (nb c)
theorem wu{a b c:Rat}(h:a≠0)(e:a*b=a*c):b=c:=by grind
theorem RepY.pivot(h:TabI n m a nb bs T d){e:Nat}(p:r<=m)(j:e<n)(B:T r e≠0)(y:Nat->Rat):RepY n m (Ke nb e (bs r)) (Ke bs r (nb e)) (pT T d r e) ((T r e).natAbs:Int) y↔RepY n m nb bs T d y:=by
 have I:=h.dp;have H:(d:Rat)≠0:=λe=>by have:=Eu.1 e;omega
 have J:(T r e:Rat)≠0:=λe=>B (Eu.1 e);have M:((sgn (T r e):Int):Rat)*((sgn (T r e):Int):Rat)=1:=by rw[<-DA,zpc];rfl
 have v:(((T r e).natAbs:Int):Rat)=((sgn (T r e):Int):Rat)*(T r e:Rat):=by rw[<-fF,DA]
 have u:Ke nb e (bs r) e=bs r:=by unfold Ke;rw[Cx rfl]
 have l:∀i,Kc n (λc=>(T i c:Rat)*y (nb c))=Kc n (λc=>if c=e then 0 else(T i c:Rat)*y (nb c))+(T i e:Rat)*y (nb e):=λi=>uM j;have q:Kc n (λc=>(pT T d r e r c:Rat)*y (Ke nb e (bs r) c))= -((sgn (T r e):Int):Rat)*Kc n (λc=>if c=e then 0 else(T r c:Rat)*y (nb c))+((sgn (T r e):Int):Rat)*d*y (bs r):=by
  rw[uM j,u];have o:(pT T d r e r e:Rat)=((sgn (T r e):Int):Rat)*d:=by unfold pT;rw[Cx ω,Cx ω,DA]
  rw[o];congr 1;rw[<-wL];refine yg λc w=>?_;by_cases hce:c=e;simp only[Cx hce];grind;simp only[Cs hce,Ke,pT,Cx];grind
 have G:∀i,i<=m->i≠r->(d:Rat)*Kc n (λc=>(pT T d r e i c:Rat)*y (Ke nb e (bs r) c))=((sgn (T r e):Int):Rat)*((T r e:Rat)*Kc n (λc=>if c=e then 0 else(T i c:Rat)*y (nb c))-(T i e:Rat)*Kc n (λc=>if c=e then 0 else(T r c:Rat)*y (nb c))+(T i e:Rat)*d*y (bs r)):=λi hi b=>by
  rw[uM j,u];have o:(pT T d r e i e:Rat)=((sgn (T r e):Int):Rat)*(T i e:Rat):=by simp_all [pT,DA]
  rw[o];have D:(d:Rat)*Kc n (λc=>if c=e then 0 else(pT T d r e i c:Rat)*y (Ke nb e (bs r) c))=((sgn (T r e):Int):Rat)*((T r e:Rat)*Kc n (λc=>if c=e then 0 else(T i c:Rat)*y (nb c))-(T i e:Rat)*Kc n (λc=>if c=e then 0 else(T r c:Rat)*y (nb c))):=(by rw[<-wL,<-wL,<-wL,<-Ua,<-wL];refine yg λc w=>?_;by_cases hce:c=e;simp only[Cx hce];grind;have F:=dY (h.exact p j hi w B hce);have K:(d:Rat)*(((T i c*T r e-T i e*T r c).tdiv d:Int):Rat)=(T i c:Rat)*T r e-(T i e:Rat)*T r c:=(by rw[<-DA,F,ag2,DA,DA]);simp only[Cs hce,Ke,pT,Cs b];grind);rw[ap1,D];grind
 constructor;intro f;have g:=f r p;rw[q,v,show Ke bs r (nb e) r=nb e from by unfold Ke;rw[Cx rfl]]at g;generalize ((sgn (T r e):Int):Rat)=s at*;have A:(d:Rat)*y (bs r)=Kc n (λc=>if c=e then 0 else(T r c:Rat)*y (nb c))+(T r e:Rat)*y (nb e):=by grind
 intro i hi;rw[l];by_cases b:i=r;rw[b];exact A;have C:=f i hi;grind [Ke,Kc,wu];intro f i hi;have g:=f r p;rw[l]at g;by_cases b:i=r;grind [Ke,Kc];have C:=f i hi;grind [Ke,wu,Kc]
end
structure PT where
 nb:Nat->Nat
 bs:Nat->Nat
 T:Nat->Nat->Int
 d:Int
structure PS extends PT where
 x:Nat->Rat
def PT.piv(t:PT)(r e:Nat):PT:=⟨Ke t.nb e (t.bs r),Ke t.bs r (t.nb e),pT t.T t.d r e,((t.T r e).natAbs:Int)⟩
section
variable (n m:Nat)(a:Nat->Nat->Int)(lo hi:Nat->Option Rat)(L:(Nat->Rat)->Prop)
def KL(m:Nat)(bs:Nat->Nat)(v:Nat):Prop:=∃i,i<m/\bs i=v
def Lv(v:Nat)(x:Rat):Prop:=lo v=ξ x\/hi v=ξ x\/lo v=θ/\hi v=θ/\x=0
structure PB (t:PT):Prop where
 tab:TabI n m a t.nb t.bs t.T t.d
 nv:∀c,c<n->t.nb c<n+m
 bv:∀i,i<m->t.bs i<n+m
 bm:t.bs m=n+m
 inj:∀c c',c<n->c'<n->t.nb c=t.nb c'->c=c'
 jnj:∀i i',i<m->i'<m->t.bs i=t.bs i'->i=i'
 dis:∀c i,c<n->i<m->t.nb c≠t.bs i
 cov:∀v,v<n+m->(∃c,c<n/\t.nb c=v)\/KL m t.bs v
 rep:∀y,L y↔RepY n m t.nb t.bs t.T t.d y
structure PInv (s:PS):Prop extends PB n m a L s.toPT where
 xL:L s.x
 bd:∀c,c<n->inBd lo hi (s.nb c) (s.x (s.nb c))/\Lv lo hi (s.nb c) (s.x (s.nb c))
open Classical in
def Lh(s:PS)(v:Nat):Nat:=if KL m s.bs v then 0 else if lo v=ξ (s.x v)then 1 else if hi v=ξ (s.x v)then 2 else 3
def Lb(s:PS):Nat->Nat
 |0=>0
 |v+1=>Lb s v+Lh m lo hi s v*4^v
end
section
variable {n m:Nat}{a:Nat->Nat->Int}{lo hi:Nat->Option Rat}{L:(Nat->Rat)->Prop}{s s':PS}
theorem zqr(v:Nat):Lh m lo hi s v<=3:=by grind [Lh]
def iI:∀v,Lb m lo hi s v<4^v
 |0=>IY
 |v+1=>by
  have h1:=iI v;have b:=CS (4^v) (zqr (m:=m) (lo:=lo) (hi:=hi) (s:=s) v);show Lb m lo hi s v+Lh m lo hi s v*4^v<4^(v+1);rw[Db];omega
theorem znc:∀(V:Nat),Lb m lo hi s V=Lb m lo hi s' V->∀v,v<V->Lh m lo hi s v=Lh m lo hi s' v:=by
 intro V;induction V with
 |zero=>intro _ v h;exact BO h (DR _)
 |succ V ih=>
  intro h v l;have h:Lb m lo hi s V+Lh m lo hi s V*4^V=Lb m lo hi s' V+Lh m lo hi s' V*4^V:=h;have g:=iI (m:=m) (lo:=lo) (hi:=hi) (s:=s) V;have j:=iI (m:=m) (lo:=lo) (hi:=hi) (s:=s') V;have e:Lh m lo hi s V=Lh m lo hi s' V:=(by have b:(Lb m lo hi s V+Lh m lo hi s V*4^V)/4^V=Lh m lo hi s V:=(by rw[G9 _ _ Z,EY g,Dd]);have f:(Lb m lo hi s' V+Lh m lo hi s' V*4^V)/4^V=Lh m lo hi s' V:=(by rw[G9 _ _ Z,EY j,Dd]);rw[<-b,<-f,h]);grind
def PInv.nB(h:PInv n m a lo hi L s)(b:c<n):¬KL m s.bs (s.nb c):=λ⟨i,hi,e⟩=>h.dis c i b hi e.symm
theorem PInv.same(h:PInv n m a lo hi L s)(h':PInv n m a lo hi L s')(e:Lb m lo hi s (n+m)=Lb m lo hi s' (n+m)):(∀v,KL m s.bs v↔KL m s'.bs v)/\∀v,v<=n+m->s.x v=s'.x v:=by
 have g:=znc _ e;have F:∀v,v<n+m->(KL m s.bs v↔KL m s'.bs v):=λv b=>(by have:=g v b;grind [Lh,KL]);have j:∀v,KL m s.bs v↔KL m s'.bs v:=λv=>(by by_cases b:v<n+m;exact F v b;exact⟨λ⟨i,hi,e⟩=>BO (h.bv i hi) Z,λ⟨i,hi,e⟩=>BO (h'.bv i hi) Z⟩);refine⟨j,?_⟩;have G:∀c,c<n->s.x (s.nb c)=s'.x (s.nb c):=λc f=>(by have b:=h.nv c f;have A:=h.nB f;have B:¬KL m s'.bs (s.nb c):=λh=>A ((j _).2 h);have⟨C,q,D⟩:=(h'.cov _ b).resolve_right B;have o:=(h.bd c f).2;have l:=(h'.bd C q).2;rw[D]at l;have:=g _ b;unfold Lh at this;rw[Cs A,Cs B]at this;unfold Lv at o l;by_cases l1:lo (s.nb c)=ξ (s.x (s.nb c));grind;rw[Cs l1]at this;by_cases l2:lo (s.nb c)=ξ (s'.x (s.nb c));grind;rw[Cs l2]at this;by_cases u1:hi (s.nb c)=ξ (s.x (s.nb c));rw[Cx u1]at this;by_cases u2:hi (s.nb c)=ξ (s'.x (s.nb c));exact Ej (u1.symm.trans u2);rw[Cs u2]at this;cases this;rw[Cs u1]at this;by_cases u2:hi (s.nb c)=ξ (s'.x (s.nb c));rw[Cx u2]at this;cases this;have z1:=(o.resolve_left l1).resolve_left u1;have z2:=(l.resolve_left l2).resolve_left u2;rw[z1.2.2,z2.2.2]);have w:=(h.rep _).1 h.xL;have y:=(h.rep _).1 h'.xL;have u:(s.d:Rat)≠0:=λe=>by have:=Eu.1 e;have:=h.tab.dp;omega
 have p:∀i,i<=m->s.x (s.bs i)=s'.x (s.bs i):=λi hi=>(by refine wu u ?_;rw[w i hi,y i hi];grind [yg]);intro v b;by_cases e:v=n+m;rw[e,<-h.bm];exact p m CG;obtain⟨c,g,rfl⟩|⟨i,hi,rfl⟩:=h.cov v Z;exact G c g;exact p i Z
end
def nT(S:PS->PS->Prop)(κ:PS->Nat)(k:Nat)(s:PS):Prop:=∃σ:Nat->PS,σ k=s/\(∀i,i<k->S (σ i) (σ (i+1)))/\∀i j,i<j->j<=k->κ (σ i)≠κ (σ j)
section
variable {S:PS->PS->Prop}{κ:PS->Nat}{s s':PS}
def nT.start:nT S κ 0 s:=⟨λ_=>s,ω,λi h=>BO h (DR _),λi j b e=>Z⟩
theorem nT.next(f:∀(p:Nat) (τ:Nat->PS),0<p->(∀q,q<p->S (τ q) (τ (q+1)))->κ (τ p)=κ (τ 0)->False)(c:nT S κ k s)(h:S s s'):nT S κ (k+1) s':=by have⟨σ,u,v,l⟩:=c;have g:∀i,i<=k->(if i=k+1 then s' else σ i)=σ i:=λi hi=>Cs Z;have o:∀i,i<k+1->S (if i=k+1 then s' else σ i) (if i+1=k+1 then s' else σ (i+1)):=λi hi=>(by grind);refine⟨λi=>if i=k+1 then s' else σ i,Cx ω,o,λi j b w=>?_⟩;by_cases h4:j=k+1;subst h4;show κ (if i=k+1 then s' else σ i)≠κ (if k+1=k+1 then s' else σ (k+1));intro e;refine f (k+1-i) (λq=>if i+q=k+1 then s' else σ (i+q)) Z (λq y=>?_) ?_;grind;show κ (if i+(k+1-i)=k+1 then s' else _)=κ (if i+0=k+1 then s' else σ (i+0));rw[Cx Z,DG];rw[Cx rfl]at e;exact e.symm;show κ (if i=k+1 then s' else σ i)≠κ (if j=k+1 then s' else σ j);rw[g i Z,Cs h4];exact l i j b Z
def Qp:∀(K k:Nat) (f:Nat->Nat),(∀i,i<k->f i<K)->(∀i j,i<j->j<k->f i≠f j)->k<=K
 |0,k,f,h,_=>by
  by_cases h0:k=0
  .omega
  have:=h 0 Z;omega
 |K+1,k,f,h,hi=>by
  by_cases h1:∃p,p<k/\f p=K
  .obtain⟨p,q,u⟩:=h1;have:=Qp K (k-1) (λi=>if i<p then f i else f (i+1)) (λi b=>?_) (λi j o v=>?_)
   .omega
   .show(if i<p then f i else f (i+1))<K;split
    .have g:=h i Z;have l:=hi i p Z q;omega
    have g:=h (i+1) Z;have l:=hi p (i+1) Z Z;omega
   show(if i<p then f i else f (i+1))≠(if j<p then f j else f (j+1));split
   .split
    .exact hi i j o Z
    exact hi i (j+1) Z Z
   rw[Cs Z];exact hi (i+1) (j+1) Z Z
  have:=Qp K k f (λi b=>by
   have g:=h i b;have l:f i≠K:=λe=>h1 ⟨i,b,e⟩;omega) hi
  omega
def nT.lt{K:Nat}(f:∀s,κ s<K)(c:nT S κ k s):k<K:=by have⟨σ,g,l,e⟩:=c;have:=Qp K (k+1) (λi=>κ (σ i)) (λi _=>f _) (λi j b o=>e i j b Z);omega
end
end
section
variable {c i j:Nat}
theorem qM{f:Nat->α}{v:α}:Ke f k v k=v:=Cx rfl
theorem vi{f:Nat->α}{v:α}(h:c≠k):Ke f k v c=f c:=Cs h
def Kq(s:PS)(e:Nat)(δ:Rat):Nat->Nat->Rat
 |0=>Ke s.x (s.nb e) (s.x (s.nb e)+δ)
 |k+1=>Ke (Kq s e δ k) (s.bs k) (Kq s e δ k (s.bs k)+(s.T k e:Rat)/s.d*δ)
section
variable {n m e r:Nat}{a:Nat->Nat->Int}{lo hi:Nat->Option Rat}{L:(Nat->Rat)->Prop}{t:PT}{s:PS}
def PB.dN(h:PB n m a L t)(b:c<n)(hi:i<=m):t.nb c≠t.bs i:=by by_cases e:i=m;rw[e,h.bm];have:=h.nv c b;omega;exact h.dis c i b Z
def PB.jN(h:PB n m a L t)(hi:i<=m)(hj:j<=m)(e:t.bs i=t.bs j):i=j:=by by_cases e1:i=m<;>by_cases e2:j=m;omega;rw[e1,h.bm]at e;have:=h.bv j Z;omega;rw[e2,h.bm]at e;have:=h.bv i Z;omega;exact h.jnj i j Z Z e
def PB.d0(h:PB n m a L t):(t.d:Rat)≠0:=λe=>by have:=Eu.1 e;have:=h.tab.dp;omega
def PB.dpos(h:PB n m a L t):0<(t.d:Rat):=FO.2 h.tab.dp
def oI{v:Nat}:∀{k:Nat},v≠s.nb e->(∀i,i<k->v≠s.bs i)->Kq s e δ k v=s.x v
 |0,h,_=>vi h
 |k+1,h,h2=>(vi (h2 k Z)).trans (oI h λi hi=>h2 i Z)
def qU(h:PB n m a L s.toPT)(he:e<n):∀{k:Nat},k<=m+1->Kq s e δ k (s.nb e)=s.x (s.nb e)+δ
 |0,_=>qM
 |k+1,hk=>(vi (h.dN he Z)).trans (qU h he Z)
def qT(h:PB n m a L s.toPT)(f:e<n)(b:c<n)(d:c≠e)(l:k<=m+1):Kq s e δ k (s.nb c)=s.x (s.nb c):=
 oI (λq=>d (h.inj c e b f q)) λi hi=>h.dN b Z
def mQ(h:PB n m a L s.toPT)(b:e<n):∀{k:Nat},k<=m+1->i<k->Kq s e δ k (s.bs i)=s.x (s.bs i)+(s.T i e:Rat)/s.d*δ
 |0,_,hi=>BO hi (DR _)
 |k+1,hk,hi=>by
  show Ke (Kq s e δ k) (s.bs k) _ (s.bs i)=_;by_cases q:i=k
  .subst q;rw[qM,oI (λq=>h.dN b Z q.symm) λj l q=>by have:=h.jN Z Z q;omega]
  rw[vi λf=>q (h.jN Z Z f)];exact mQ h b Z Z
theorem PInv.mvL(h:PInv n m a lo hi L s)(b:e<n):L (Kq s e δ (m+1)):=by have l:=(h.rep _).1 h.xL;refine(h.rep _).2 λi hi=>?_;rw[mQ h.toPB b CG Z,ap1,l i hi];have o:=h.toPB.d0;rw[uM (f:=λc=>(s.T i c:Rat)*s.x (s.nb c)) b,uM (f:=λc=>(s.T i c:Rat)*Kq s e δ (m+1) (s.nb c)) b,qU h.toPB b CG];rw[yg (f:=λc=>if c=e then 0 else(s.T i c:Rat)*Kq s e δ (m+1) (s.nb c)) (g:=λc=>if c=e then 0 else(s.T i c:Rat)*s.x (s.nb c)) λc d=>?_];grind;by_cases q:c=e;rw[Cx q,Cx q];rw[Cs q,Cs q,qT h.toPB b d q CG]
theorem PB.piv(h:PB n m a L t)(l:r<m)(d:e<n)(A:t.T r e≠0):PB n m a L (t.piv r e):=by
 have u:=h.nv e d;have C:=h.bv r l;refine⟨h.tab.pivot Z d A,λc b=>?_,λi hi=>?_,?_,λc w b o q=>?_,λi B hi p q=>?_,λc i b hi q=>?_,λv u=>?_,λy=>(h.rep y).trans (RepY.pivot h.tab Z d A y).symm⟩
 .show Ke _ _ _ _<_;unfold Ke;split
  .exact C
  exact h.nv c b
 .show Ke _ _ _ _<_;unfold Ke;split
  .exact u
  exact h.bv i hi
 .exact(vi Z).trans h.bm
 .have q:Ke t.nb e (t.bs r) c=Ke t.nb e (t.bs r) w:=q;unfold Ke at q;split at q<;>split at q
  .omega
  .exact BO q.symm (h.dis _ _ o l)
  .exact BO q (h.dis _ _ b l)
  exact h.inj c w b o q
 .have q:Ke t.bs r (t.nb e) i=Ke t.bs r (t.nb e) B:=q;unfold Ke at q;split at q<;>split at q
  .omega
  .exact BO q (h.dis _ _ d p)
  .exact BO q.symm (h.dis _ _ d hi)
  exact h.jnj i B hi p q
 .have q:Ke t.nb e (t.bs r) c=Ke t.bs r (t.nb e) i:=q;unfold Ke at q;split at q<;>split at q
  .exact h.dis _ _ d l q.symm
  .next q1 f=>exact f (h.jnj _ _ l hi q).symm
  .next q1 f=>exact q1 (h.inj _ _ b d q)
  exact h.dis _ _ b hi q
 by_cases q:v=t.bs r
 .exact .inl ⟨e,d,qM.trans q.symm⟩
 rcases h.cov v u with⟨c,b,rfl⟩|⟨i,hi,rfl⟩
 .by_cases f:c=e
  .exact .inr ⟨r,l,qM.trans (by rw[f])⟩
  exact .inl ⟨c,b,vi f⟩
 exact .inr ⟨i,hi,vi λf=>q (by rw[f])⟩
theorem PB.Bpiv(h:PB n m a L t)(d:r<m)(v:Nat):KL m (t.piv r e).bs v↔v=t.nb e\/KL m t.bs v/\v≠t.bs r:=by
 constructor
 .rintro⟨i,hi,q⟩;have q:Ke t.bs r (t.nb e) i=v:=q;unfold Ke at q;split at q
  .exact .inl q.symm
  next b=>exact .inr ⟨⟨i,hi,q⟩,λf=>b (h.jnj i r hi d (q.trans f))⟩
 rintro(rfl|⟨⟨i,hi,rfl⟩,q⟩)
 .exact⟨r,d,qM⟩
 exact⟨i,hi,vi λb=>q (by rw[b])⟩
def PInv.step(h:PInv n m a lo hi L s)(l:r<m)(b:e<n)(o:s.T r e≠0)(hb:inBd lo hi (s.bs r) (Kq s e δ (m+1) (s.bs r))/\Lv lo hi (s.bs r) (Kq s e δ (m+1) (s.bs r))):PInv n m a lo hi L ⟨s.toPT.piv r e,Kq s e δ (m+1)⟩:=by
 refine⟨h.toPB.piv l b o,h.mvL b,λc f=>?_⟩;show inBd lo hi ((PT.piv s.toPT r e).nb c) (Kq s e δ (m+1) ((PT.piv s.toPT r e).nb c))/\Lv lo hi ((PT.piv s.toPT r e).nb c) (Kq s e δ (m+1) ((PT.piv s.toPT r e).nb c));by_cases q:c=e;have d:Ke s.nb e (s.bs r) c=s.bs r:=by rw[q];exact qM
 rw[show(PT.piv s.toPT r e).nb c=s.bs r from d];exact hb;have d:Ke s.nb e (s.bs r) c=s.nb c:=vi q;rw[show(PT.piv s.toPT r e).nb c=s.nb c from d,qT h.toPB b f q CG];exact h.bd c f
def PInv.stay(h:PInv n m a lo hi L s)(b:e<n)(hb:inBd lo hi (s.nb e) (s.x (s.nb e)+δ)/\Lv lo hi (s.nb e) (s.x (s.nb e)+δ)):PInv n m a lo hi L ⟨s.toPT,Kq s e δ (m+1)⟩:=by refine⟨h.toPB,h.mvL b,λc d=>?_⟩;show inBd lo hi (s.nb c) (Kq s e δ (m+1) (s.nb c))/\Lv lo hi (s.nb c) (Kq s e δ (m+1) (s.nb c));by_cases q:c=e;rw[q,qU h.toPB b CG];exact hb;rw[qT h.toPB b d q CG];exact h.bd c d
end
section
variable (n m:Nat)(a:Nat->Nat->Int)(lo hi:Nat->Option Rat)(L:(Nat->Rat)->Prop)
def rdOf(s:PS)(r e:Nat)(low:Bool):RD:=⟨s.x,KL m s.bs,s.nb,λc=>(s.T r c:Rat),s.d,e,s.bs r,low⟩
def Viol(s:PS)(r:Nat)(low:Bool)(g:Rat):Prop:=if low then ∃l,lo (s.bs r)=ξ l/\s.x (s.bs r)<l/\g=l-s.x (s.bs r)else ∃u,hi (s.bs r)=ξ u/\u<s.x (s.bs r)/\g=u-s.x (s.bs r)
structure Vio (s:PS)(r:Nat)(low:Bool)(g:Rat):Prop where
 hr:r<m
 v:Viol lo hi s r low g
 sm:∀i,i<m->s.bs i<s.bs r->inBd lo hi (s.bs i) (s.x (s.bs i))
structure RepS (s:PS)(r e:Nat)(low:Bool)(g:Rat):Prop extends Vio m lo hi s r low g where
 he:e<n
 su:suit lo hi (rdOf m s r e low) e
 sms:∀c,c<n->s.nb c<s.nb e->¬suit lo hi (rdOf m s r e low) c
def repN(s:PS)(r e:Nat)(g:Rat):PS:=⟨s.toPT.piv r e,Kq s e (g/((s.T r e:Rat)/s.d)) (m+1)⟩
def Ud(s s':PS):Prop:=PInv n m a lo hi L s/\∃r e low g,RepS n m lo hi s r e low g/\s'=repN m s r e g
end
section
variable {n m e r:Nat}{a:Nat->Nat->Int}{lo hi:Nat->Option Rat}{L:(Nat->Rat)->Prop}{s s':PS}{low:Bool}
theorem RepS.ne(h:RepS n m lo hi s r e low g):s.T r e≠0:=λq=>by
 have:=h.su;unfold suit rdOf at this;simp only[q]at this;have h0:¬(0:Rat)<((0:Int):Rat):=by decide
 have b:¬((0:Int):Rat)<0:=by decide
 grind
theorem repX(h:PB n m a L s.toPT)(b:e<n)(p:r<m)(f:s.T r e≠0):Kq s e (g/((s.T r e:Rat)/s.d)) (m+1) (s.bs r)=s.x (s.bs r)+g:=by rw[mQ h b CG Z];have l:(s.T r e:Rat)≠0:=λq=>f (Eu.1 q);have o:=h.d0;grind
theorem RepS.inv(h:RepS n m lo hi s r e low g)(f:∀v l u,lo v=ξ l->hi v=ξ u->l<=u)(o:PInv n m a lo hi L s):PInv n m a lo hi L (repN m s r e g):=by refine o.step h.hr h.he h.ne ?_;rw[repX o.toPB h.he h.hr h.ne];have d:=h.v;unfold Viol at d;split at d;obtain⟨l,b,p,rfl⟩:=d;rw[show s.x (s.bs r)+(l-s.x (s.bs r))=l by grind];exact⟨⟨λw q=>by rw[b]at q;cases q;exact FZ,λu q=>f _ _ _ b q⟩,.inl b⟩;obtain⟨u,b,p,rfl⟩:=d;rw[show s.x (s.bs r)+(u-s.x (s.bs r))=u by grind];exact⟨⟨λl q=>f _ _ _ q b,λy q=>by rw[b]at q;cases q;exact FZ⟩,.inr (.inl b)⟩
theorem RepS.stp(h:RepS n m lo hi s r e low g)(w:PInv n m a lo hi L s){f:RD}(D:∀v,f.B v↔KL m (repN m s r e g).bs v)(hx:∀v,v<n+m->f.x v=(repN m s r e g).x v):StepR n (n+m) L lo hi (rdOf m s r e low) f:=by
 have b:=w.toPB;have A:=b.bv r h.hr;refine⟨h.he,λc o=>⟨w.nB o,b.nv c o⟩,b.inj,⟨⟨r,h.hr,rfl⟩,A⟩,λv=>(D v).trans (b.Bpiv h.hr v),λv d p C=>?_,λv d p=>?_,?_,λv d p=>?_,b.dpos,λy F=>?_,w.xL,h.su,h.sms⟩
 .rw[hx v d];rcases b.cov v d with⟨c,o,rfl⟩|q
  .exact qT b h.he o (λq=>C (by rw[q];rfl)) CG
  exact BO q p
 .rcases b.cov v d with⟨c,o,rfl⟩|q
  .exact(w.bd c o).1
  exact BO q p
 .have d:=h.v;unfold Viol at d;show if low=φ then ∃l,lo (s.bs r)=ξ l/\s.x (s.bs r)<l/\f.x (s.bs r)=l else ∃u,hi (s.bs r)=ξ u/\u<s.x (s.bs r)/\f.x (s.bs r)=u
  have G:f.x (s.bs r)=s.x (s.bs r)+g:=(hx _ A).trans (repX b h.he h.hr h.ne)
  grind
 .obtain⟨i,hi,rfl⟩:=p;exact h.sm i hi d
 exact(b.rep y).1 F r (by have:=h.hr;omega)
theorem Ue(h:PB n m a L s.toPT)(x y:Nat->Rat)(hx:L x)(l:L y):L λv=>x v-y v:=by have b:=(h.rep _).1 hx;have f:=(h.rep _).1 l;refine(h.rep _).2 λi hi=>?_;rw[show(s.d:Rat)*(x (s.bs i)-y (s.bs i))=s.d*x (s.bs i)-s.d*y (s.bs i)by grind,b i hi,f i hi,<-Ua];grind
theorem vz(i:Nat){p:Nat}(b:0<p):(i%p+1=p->(i+1)%p=0)/\(i%p+1≠p->(i+1)%p=i%p+1):=by have d:=Nat.div_add_mod i p;have f:=DJ i b;refine⟨λh=>?_,λh=>?_⟩;rw[show i+1=p*(i/p+1)by rw[DY];omega,Nat.mul_mod_right];rw[show i+1=p*(i/p)+(i%p+1)by omega,Nat.mul_add_mod,Nat.mod_eq_of_lt Z]
theorem zmx(p:Nat)(τ:Nat->PS)(hp:0<p)(hs:∀q,q<p->Ud n m a lo hi L (τ q) (τ (q+1)))(hlh:∀v l u,lo v=ξ l->hi v=ξ u->l<=u)(hκ:Lb m lo hi (τ p) (n+m)=Lb m lo hi (τ 0) (n+m)):False:=by have hI:∀q,q<=p->PInv n m a lo hi L (τ q):=λq hq=>(by by_cases h:q=p;have⟨h1,r,e,low,g,h2,h3⟩:=hs (p-1) Z;rw[show p-1+1=q by omega]at h3;rw[h3];exact h2.inv hlh h1;exact(hs q Z).1);have hsame:=(hI p CG).same (hI 0 Z) hκ;have hc:∀i,∃D:RD,D.x=(τ (i%p)).x/\D.B=KL m (τ (i%p)).bs/\∀D':RD,(∀v,D'.B v↔KL m (τ (i%p+1)).bs v)->(∀v,v<n+m->D'.x v=(τ (i%p+1)).x v)->StepR n (n+m) L lo hi D D':=λi=>(by have⟨h1,r,e,low,g,h2,h3⟩:=hs (i%p) (DJ _ hp);exact⟨_,ω,ω,λD' hB hx=>h2.stp h1 (by rw[<-h3];exact hB) (by rw[<-h3];exact hx)⟩);have⟨F,hF⟩:=F2 hc;let f:=λi=>F (i%p);have hf:∀i,(f i).x=(τ (i%p)).x/\(f i).B=KL m (τ (i%p)).bs/\∀D':RD,(∀v,D'.B v↔KL m (τ (i%p+1)).bs v)->(∀v,v<n+m->D'.x v=(τ (i%p+1)).x v)->StepR n (n+m) L lo hi (f i) D':=λi=>(by grind [ap2]);refine zp3 (n:=n) (V:=n+m) (lo:=lo) (hi:=hi) (f:=f) hp (Ue (hI 0 Z).toPB) (λi=>?_) λi=>?_;have h1:=hf i;have h2:=hf (i+1);have hm:=DJ i hp;refine h1.2.2 _ ?_ ?_;intro v;rw[h2.2.1];grind [vz];intro v hv;grind [vz];show F ((i+p)%p)=F (i%p);rw[ac3]
end
def ab(x:Rat):Rat:=if x<0 then -x else x
def rm(lo hi:Nat->Option Rat)(v:Nat)(x:Rat)(up:Bool):Option Rat:=if up then(hi v).map (· - x)else(lo v).map (x - ·)
def Kk(up:Bool):Rat:=if up then 1 else -1
section
variable (n m:Nat)(a:Nat->Nat->Int)(lo hi:Nat->Option Rat)(L:(Nat->Rat)->Prop)
def ent(s:PS)(up:Bool)(c:Nat):Prop:=if up then s.T m c<0/\cG hi (s.nb c) (s.x (s.nb c))else 0<s.T m c/\cS lo (s.nb c) (s.x (s.nb c))
structure Ent (s:PS)(e:Nat)(up:Bool):Prop where
 he:e<n
 im:ent m lo hi s up e
 sm:∀c,c<n->s.nb c<s.nb e->∀u,¬ent m lo hi s u c
def Lc(s:PS)(e:Nat)(up:Bool)(r:Option Nat)(ρ:Rat):Prop:=
 match r with
 |none=>rm lo hi (s.nb e) (s.x (s.nb e)) up=ξ ρ
 |some i=>i<m/\s.T i e≠0/\∃g,rm lo hi (s.bs i) (s.x (s.bs i)) (up==decide (0<s.T i e))=ξ g/\ρ=g/ab ((s.T i e:Rat)/s.d)
def OL(s:PS)(e:Nat)(r:Option Nat):Nat:=match r with|none=>s.nb e|some i=>s.bs i
structure OptS (s:PS)(e:Nat)(up:Bool)(r:Option Nat)(ρ:Rat):Prop extends Ent n m lo hi s e up where
 ch:Lc m lo hi s e up r ρ
 mn:∀r' ρ',Lc m lo hi s e up r' ρ'->ρ<ρ'\/ρ=ρ'/\OL s e r<=OL s e r'
def optN(s:PS)(e:Nat)(up:Bool)(r:Option Nat)(ρ:Rat):PS:=⟨match r with|none=>s.toPT|some i=>s.toPT.piv i e,Kq s e (ρ*Kk up) (m+1)⟩
def Feas(s:PS):Prop:=∀i,i<m->inBd lo hi (s.bs i) (s.x (s.bs i))
def Ug(s s':PS):Prop:=PInv n m a lo hi L s/\Feas m lo hi s/\∃e up r ρ,OptS n m lo hi s e up r ρ/\s'=optN m s e up r ρ
end
section
variable {n m e:Nat}{a:Nat->Nat->Int}{lo hi:Nat->Option Rat}{L:(Nat->Rat)->Prop}{s s':PS}{up:Bool}{r:Option Nat}
theorem NN{v:Nat}{x g:Rat}(h:rm lo hi v x φ=ξ g):hi v=ξ (x+g):=by
 unfold rm at h;rw[Cx rfl]at h;cases q:hi v with
 |none=>rw[q]at h;cases h
 |some u=>rw[q]at h;cases h;rw[show x+(u-x)=u by grind]
theorem NO{v:Nat}{x g:Rat}(h:rm lo hi v x χ=ξ g):lo v=ξ (x-g):=by
 unfold rm at h;rw[Cs Ep]at h;cases q:lo v with
 |none=>rw[q]at h;cases h
 |some u=>rw[q]at h;cases h;rw[show x-(x-u)=u by grind]
theorem Uh{v:Nat}{x u:Rat}(h:hi v=ξ u):rm lo hi v x φ=ξ (u-x):=by grind [rm]
def Ui{v:Nat}{x l:Rat}(h:lo v=ξ l):rm lo hi v x χ=ξ (x-l):=by unfold rm;rw[Cs Ep,h];rfl
theorem Uj{v:Nat}{x g:Rat}(hb:inBd lo hi v x)(h:rm lo hi v x up=ξ g):0<=g:=by
 cases up with
 |true=>have:=hb.2 _ (NN h);grind
 |false=>have:=hb.1 _ (NO h);grind
def pO(x:Rat):(0:Rat)/x=0:=by rw[Rat.div_def,ES]
def ab_z{d:Rat}:ab (((0:Int):Rat)/d)=0:=by rw[show((0:Int):Rat)=0 from ω,pO];rfl
theorem lk{k:Rat}(h:k≠0):0<ab k:=by unfold ab;split<;>grind
theorem zrj{k:Rat}{b:Bool}(h:b=φ↔0<k):k*Kk up=ab k*Kk (up==b):=by have d:Kk φ=1:=rfl;have f:Kk χ= -1:=rfl;have l:k<0->ab k= -k:=λq=>Cx q;have o:¬k<0->ab k=k:=λq=>Cs q;cases up<;>cases b<;>simp only[Bool.false_eq_true,beq_self_eq_true,Bool.false_beq,Bool.true_beq,Bool.not_true,false_iff,true_iff]at h⊢ <;>grind
theorem tE{g k:Rat}(h:k≠0):g/ab k*ab k=g:=EU (by have:=lk h;grind)
theorem OM{v:Nat}{x k:Rat}{u:Bool}(hb:inBd lo hi v x)(b:0<=k)(h:∀g,rm lo hi v x u=ξ g->k<=g):inBd lo hi v (x+k*Kk u):=by
 cases u with
 |true=>
  show inBd lo hi v (x+k*1);exact⟨λl q=>by have:=hb.1 l q;grind,λu q=>by have:=h _ (Uh q);grind⟩
 |false=>
  show inBd lo hi v (x+k* -1);exact⟨λl q=>by have:=h _ (Ui q);grind,λu q=>by have:=hb.2 u q;grind⟩
theorem Uk{v:Nat}{x g:Rat}{u:Bool}(h:rm lo hi v x u=ξ g):Lv lo hi v (x+g*Kk u):=by
 cases u with
 |true=>exact .inr (.inl ((NN h).trans (by show ξ (x+g)=ξ (x+g*1);rw[Fz])))
 |false=>exact .inl ((NO h).trans (by show ξ (x-g)=ξ (x+g* -1);congr 1;grind))
theorem PB.sgn(h:PB n m a L s.toPT){t:Int}:(decide (0<t)=φ↔0<(t:Rat)/s.d)/\(t≠0->(t:Rat)/s.d≠0)/\(t<0->(t:Rat)/s.d<0):=by
 have b:=EU (a:=(t:Rat)) h.d0;have f:=h.dpos;generalize (t:Rat)/s.d=q at*;have l:(t:Rat)<0↔t<0:=by rw[show(0:Rat)=((0:Int):Rat)from rfl];exact G0
 rw[decide_eq_true_iff,<-FO (a:=t),<-l];refine⟨⟨λh=>?_,λh=>?_⟩,λh=>?_,λh=>?_⟩;grind [xY];rw[<-b];exact Fy h f;intro o;rw[o,ES]at b;exact h (Eu.1 b.symm);obtain q|q:=yq (b▸h)<;>grind
def PInv.inb(b:PInv n m a lo hi L s)(d:Feas m lo hi s){v:Nat}(hv:v<n+m):inBd lo hi v (s.x v):=by obtain⟨c,f,rfl⟩|⟨i,hi,rfl⟩:=b.cov v hv;exact(b.bd c f).1;exact d i hi
theorem OptS.nn(h:OptS n m lo hi s e up r ρ)(f:PInv n m a lo hi L s)(A:Feas m lo hi s):0<=ρ:=by
 have l:=h.ch;cases r with
 |none=>exact Uj (f.bd e h.he).1 l
 |some i=>
  obtain⟨o,p,g,u,v⟩:i<m/\s.T i e≠0/\∃g,rm lo hi (s.bs i) (s.x (s.bs i)) (up==decide (0<s.T i e))=ξ g/\ρ=g/ab ((s.T i e:Rat)/s.d):=l;have B:=Uj (A i o) u;have b:=(f.toPB.sgn (t:=s.T i e)).2.1 p;have w:=tE (g:=g) b;have y:=lk b;rw[<-v]at w;refine FK.1 λq=>?_;have:=Fy (show 0< -ρ by grind) y;grind
theorem ON(b:PInv n m a lo hi L s)(f:e<n)(hi:i<=m):Kq s e (ρ*Kk up) (m+1) (s.bs i)=s.x (s.bs i)+ρ*ab ((s.T i e:Rat)/s.d)*Kk (up==decide (0<s.T i e)):=by rw[mQ b.toPB f CG Z];have:=zrj (up:=up) (b.toPB.sgn (t:=s.T i e)).1;grind
theorem OptS.row(h:OptS n m lo hi s e up r ρ)(l:PInv n m a lo hi L s)(f:Feas m lo hi s)(b:i<m):inBd lo hi (s.bs i) (Kq s e (ρ*Kk up) (m+1) (s.bs i)):=by rw[ON l h.he Z];have o:=h.nn l f;by_cases q:s.T i e=0;rw[q,ab_z,FC,ES,Gc];exact f i b;have p:=(l.toPB.sgn (t:=s.T i e)).2.1 q;have u:=lk p;refine OM (f i b) (GS o (DQ u)) λg v=>?_;have w:=h.mn (ξ i) (g/ab ((s.T i e:Rat)/s.d)) ⟨b,q,g,v,ω⟩;grind [tE,ab,H8,DQ]
theorem OptS.own(h:OptS n m lo hi s e up r ρ)(b:PInv n m a lo hi L s)(d:Feas m lo hi s):inBd lo hi (s.nb e) (s.x (s.nb e)+ρ*Kk up):=
 OM (b.bd e h.he).1 (h.nn b d) λg f=>by have:=h.mn θ g f;grind
def OptS.inv(h:OptS n m lo hi s e up r ρ)(b:PInv n m a lo hi L s)(f:Feas m lo hi s):PInv n m a lo hi L (optN m s e up r ρ)/\Feas m lo hi (optN m s e up r ρ):=by
 have p:=h.ch;cases r with
 |none=>exact⟨b.stay h.he ⟨h.own b f,Uk p⟩,λi u=>h.row b f u⟩
 |some i=>
  obtain⟨l,o,g,v,w⟩:i<m/\s.T i e≠0/\∃g,rm lo hi (s.bs i) (s.x (s.bs i)) (up==decide (0<s.T i e))=ξ g/\ρ=g/ab ((s.T i e:Rat)/s.d):=p;refine⟨b.step l h.he o ⟨h.row b f l,?_⟩,λj y=>?_⟩;rw[ON b h.he Z,w,tE ((b.toPB.sgn (t:=s.T i e)).2.1 o)];exact Uk v;show inBd lo hi (Ke s.bs i (s.nb e) j) (Kq s e (ρ*Kk up) (m+1) (Ke s.bs i (s.nb e) j));by_cases q:j=i;rw[q,qM,qU b.toPB h.he CG];exact h.own b f;rw[vi q];exact h.row b f y
theorem OptS.desc(h:OptS n m lo hi s e up r ρ)(l:PInv n m a lo hi L s):∃k,k<0/\Kq s e (ρ*Kk up) (m+1) (n+m)=s.x (n+m)+k*ρ:=by
 have f:=mQ (δ:=ρ*Kk up) l.toPB h.he (Ed (m+1)) (Fi m);rw[l.bm]at f;have b:=h.im;unfold ent at b;have o:=l.toPB.sgn (t:=s.T m e);cases up with
 |true=>
  rw[Cx rfl]at b;exact⟨_,o.2.2 b.1,f.trans (by show _+_*(ρ*1)=_;rw[Fz])⟩
 |false=>
  rw[Cs Ep]at b;have:=o.1.1 aD;exact⟨-((s.T m e:Rat)/s.d),aD,f.trans (by show _+_*(ρ* -1)=_;grind)⟩
def mvx0:∀k,Kq s e 0 k=s.x
 |0=>by
  funext v;show Ke _ _ _ v=_;unfold Ke;split
  .next h=>rw[h,Gc]
  rfl
 |k+1=>by
  show Ke (Kq s e 0 k) _ _=_;rw[mvx0 k];funext v;unfold Ke;split
  .next h=>rw[h,FC,Gc]
  rfl
def odOf(m:Nat)(s:PS)(e:Nat)(up:Bool)(i:Nat):OD:=⟨s.x,KL m s.bs,s.nb,λc=>(s.T m c:Rat),s.d,e,s.bs i,λv=>Kq s e (Kk up) (m+1) v-s.x v⟩
def bn:impr lo hi (odOf m s e up i) c↔∃u,ent m lo hi s u c:=by
 have f:((s.T m c:Rat)<0↔s.T m c<0):=by rw[show(0:Rat)=((0:Int):Rat)from rfl];exact G0
 have l:((0:Rat)<(s.T m c:Rat)↔0<s.T m c):=FO;constructor;rintro(⟨b,d⟩|⟨b,d⟩);exact⟨φ,f.1 b,d⟩;exact⟨χ,l.1 b,d⟩;rintro⟨u,q⟩;cases u with
 |true=>exact .inl ⟨f.2 q.1,q.2⟩
 |false=>exact .inr ⟨l.2 q.1,q.2⟩
theorem OptS.stp(h:OptS n m lo hi s e up (ξ i) 0)(w:PInv n m a lo hi L s)(K:Feas m lo hi s){G:OD}(Z3:∀v,G.B v↔KL m (optN m s e up (ξ i) 0).bs v)(hx:∀v,v<n+m->G.x v=s.x v):StepO n (n+m) (n+m) L lo hi (odOf m s e up i) G:=by
 have b:=w.toPB;obtain⟨D,J,g,H,h4⟩:i<m/\s.T i e≠0/\∃g,rm lo hi (s.bs i) (s.x (s.bs i)) (up==decide (0<s.T i e))=ξ g/\0=g/ab ((s.T i e:Rat)/s.d):=h.ch;have M:=b.bv i D;have Z1:Kq s e (Kk up) (m+1) (s.nb e)-s.x (s.nb e)=Kk up:=by rw[qU b h.he CG];grind
 have F:∀j,j<m->Kq s e (Kk up) (m+1) (s.bs j)-s.x (s.bs j)=ab ((s.T j e:Rat)/s.d)*Kk (up==decide (0<s.T j e)):=λj A=>(by have:=ON (ρ:=1) (up:=up) w h.he (i:=j) Z;grind);have P:g=0:=(by have:=tE (g:=g) ((b.sgn (t:=s.T i e)).2.1 J);grind);subst P;refine⟨h.he,λc o=>⟨w.nB o,b.nv c o⟩,λv p I=>(b.cov v p).resolve_right I,b.inj,⟨⟨i,D,ω⟩,M⟩,λv=>(Z3 v).trans (b.Bpiv D v),λv p=>hx v p,b.dpos,λy hy=>?_,(bn).2 ⟨up,h.im⟩,λc o S q=>?_,Ue b _ _ (w.mvL h.he) w.xL,?_,λc o N=>?_,?_,λv p I=>?_⟩;have:=(b.rep y).1 hy m CG;rw[b.bm]at this;exact this;have⟨u,q⟩:=(bn).1 q;exact h.sm c o S u q;show(s.T m e:Rat)*(Kq s e (Kk up) (m+1) (s.nb e)-s.x (s.nb e))<0;rw[Z1];have f:=h.im;unfold ent at f;cases up with
 |true=>
  rw[Cx rfl]at f;have:(s.T m e:Rat)<0:=by rw[show(0:Rat)=((0:Int):Rat)from rfl];exact G0.2 f.1
  show _*(1:Rat)<0;grind
 |false=>
  rw[Cs Ep]at f;have:(0:Rat)<(s.T m e:Rat):=FO.2 f.1;show _*(-1:Rat)<0;grind
 show Kq s e (Kk up) (m+1) (s.nb c)-s.x (s.nb c)=0;rw[qT b h.he o N CG];grind;show(0<Kq s e (Kk up) (m+1) (s.bs i)-s.x (s.bs i)->_)/\(Kq s e (Kk up) (m+1) (s.bs i)-s.x (s.bs i)<0->_);rw[F i D];have hk:=lk ((b.sgn (t:=s.T i e)).2.1 J);generalize (up==decide (0<s.T i e))=u at H;cases u with
 |true=>exact⟨λ_=>⟨_,NN H,by show _<=s.x (s.bs i);grind⟩,λq=>by have:ab ((s.T i e:Rat)/s.d)*1<0:=q;grind⟩
 |false=>exact⟨λq=>by have:0<ab ((s.T i e:Rat)/s.d)* -1:=q;grind,λ_=>⟨_,NO H,by show s.x (s.bs i)<=_;grind⟩⟩
 obtain⟨j,A,rfl⟩:=I;show(0<Kq s e (Kk up) (m+1) (s.bs j)-s.x (s.bs j)->cG hi (s.bs j) (s.x (s.bs j)))/\(Kq s e (Kk up) (m+1) (s.bs j)-s.x (s.bs j)<0->cS lo (s.bs j) (s.x (s.bs j)));rw[F j A];have p:s.bs j<s.bs i:=p;by_cases q:s.T j e=0;rw[q,ab_z,ES];grind;have hk:=lk ((b.sgn (t:=s.T j e)).2.1 q);have C:∀g,rm lo hi (s.bs j) (s.x (s.bs j)) (up==decide (0<s.T j e))=ξ g->g≠0:=λg Z0 q0=>(by have:=h.mn (ξ j) 0 ⟨A,q,g,Z0,by rw[q0,pO]⟩;obtain q|⟨_,q⟩:=this;exact BO q E2;have:s.bs i<=s.bs j:=q;omega);generalize (up==decide (0<s.T j e))=u at C;cases u with
 |true=>
  refine⟨λ_ u Z4=>?_,λq=>by have:ab ((s.T j e:Rat)/s.d)*1<0:=q;grind⟩;have V:=C _ (Uh Z4);have W:=(K j A).2 u Z4;grind
 |false=>
  refine⟨λq=>by have:0<ab ((s.T j e:Rat)/s.d)* -1:=q;grind,λ_ l R=>?_⟩;have V:=C _ (Ui R);have W:=(K j A).1 l R;grind
theorem OptS.own0(h:OptS n m lo hi s e up θ 0):False:=by
 have b:=h.im;have d:rm lo hi (s.nb e) (s.x (s.nb e)) up=ξ 0:=h.ch;unfold ent at b;cases up with
 |true=>have:=b.2 _ (NN d);grind
 |false=>have:=b.2 _ (NO d);grind
theorem zmy(p:Nat)(τ:Nat->PS)(hp:0<p)(hs:∀q,q<p->Ug n m a lo hi L (τ q) (τ (q+1)))(hκ:Lb m lo hi (τ p) (n+m)=Lb m lo hi (τ 0) (n+m)):False:=by
 have hI:∀q,q<=p->PInv n m a lo hi L (τ q):=λq hq=>(by by_cases h:q=p;have⟨h1,hF,e,up,r,ρ,h2,h3⟩:=hs (p-1) Z;rw[show p-1+1=q by omega]at h3;rw[h3];exact(h2.inv h1 hF).1;exact(hs q Z).1);have hsame:=(hI p CG).same (hI 0 Z) hκ;have hdesc:∀q,q<p->(τ (q+1)).x (n+m)<=(τ q).x (n+m):=λq hq=>(by have⟨h1,hF,e,up,r,ρ,h2,h3⟩:=hs q hq;have⟨k,hk,h4⟩:=h2.desc h1;have h5:=h2.nn h1 hF;rw[h3];show Kq (τ q) e (ρ*Kk up) (m+1) (n+m)<=_;rw[h4];have:=GS (show 0<= -k by grind) h5;grind);have hle:∀q,q<=p->(τ q).x (n+m)<=(τ 0).x (n+m)/\(τ p).x (n+m)<=(τ (p-q)).x (n+m):=λq=>by
  induction q with
  |zero=>intro _;exact⟨FZ,FZ⟩
  |succ q ih=>
   grind
 have hall:∀q,q<=p->(τ q).x (n+m)=(τ 0).x (n+m):=λq hq=>(by have h1:=(hle q hq).1;have h2:=(hle (p-q) Z).2;rw[show p-(p-q)=q by omega,hsame.2 _ CG]at h2;grind);have hc:∀i,∃D:OD,D.x=(τ (i%p)).x/\D.B=KL m (τ (i%p)).bs/\(∀v,(τ (i%p+1)).x v=(τ (i%p)).x v)/\∀D':OD,(∀v,D'.B v↔KL m (τ (i%p+1)).bs v)->(∀v,v<n+m->D'.x v=(τ (i%p)).x v)->StepO n (n+m) (n+m) L lo hi D D':=λi=>by
  have hm:=DJ i hp;have⟨h1,hF,e,up,r,ρ,h2,h3⟩:=hs (i%p) hm;have⟨k,hk,h4⟩:=h2.desc h1;have h5:=h2.nn h1 hF;have h6:(τ (i%p+1)).x (n+m)=(τ (i%p)).x (n+m)+k*ρ:=by rw[h3];exact h4
  rw[hall _ Z,hall _ Z]at h6;have h7:ρ=0:=by grind
  subst h7;cases r with
  |none=>exact BO h2.own0 id
  |some j=>
   refine⟨_,ω,ω,λv=>?_,λD' hB hx=>h2.stp h1 hF (by rw[<-h3];exact hB) hx⟩;rw[h3];show Kq (τ (i%p)) e (0*Kk up) (m+1) v=_;rw[ES,mvx0]
 have⟨F,hF⟩:=F2 hc;let f:=λi=>F (i%p);have hf:∀i,(f i).x=(τ (i%p)).x/\(f i).B=KL m (τ (i%p)).bs/\(∀v,(τ (i%p+1)).x v=(τ (i%p)).x v)/\∀D':OD,(∀v,D'.B v↔KL m (τ (i%p+1)).bs v)->(∀v,v<n+m->D'.x v=(τ (i%p)).x v)->StepO n (n+m) (n+m) L lo hi (f i) D':=λi=>(by have:=hF (i%p);rw[ap2]at this;exact this);refine zp4 (n:=n) (V:=n+m) (obj:=n+m) (L:=L) (lo:=lo) (hi:=hi) (f:=f) hp (λi=>?_) λi=>?_;have h1:=hf i;have h2:=hf (i+1);have hm:=DJ i hp;refine h1.2.2.2 _ ?_ ?_;intro v;rw[h2.2.1];by_cases q:i%p+1=p;grind [vz];rw[(vz i hp).2 q];intro v hv;rw[h2.1,<-h1.2.2.1 v];by_cases q:i%p+1=p;grind [vz];rw[(vz i hp).2 q];show F ((i+p)%p)=F (i%p);rw[ac3]
end
end
section
variable {n m e r:Nat}{a:Nat->Nat->Int}{lo hi:Nat->Option Rat}{L:(Nat->Rat)->Prop}{s:PS}{up low:Bool}
def aE{t:Int}:(t:Rat)<0↔t<0:=by rw[show(0:Rat)=((0:Int):Rat)from rfl];exact G0
def rayV(t:PT)(e:Nat)(up:Bool)(k:Nat):Nat->Rat:=Kq ⟨t,λ_=>0⟩ e (Kk up) k
theorem qt(q:Rat):∀k v,Kq s e (q*Kk up) k v=s.x v+q*rayV s.toPT e up k v
 |0,v=>by
  show Ke s.x (s.nb e) (s.x (s.nb e)+q*Kk up) v=s.x v+q*Ke (λ_=>(0:Rat)) (s.nb e) (0+Kk up) v;unfold Ke;split
  .next h=>rw[h];grind
  grind
 |k+1,v=>by
  have h1:=qt q k (s.bs k);have b:=qt q k v;show Ke (Kq s e (q*Kk up) k) (s.bs k) (Kq s e (q*Kk up) k (s.bs k)+(s.T k e:Rat)/s.d*(q*Kk up)) v=s.x v+q*Ke (rayV s.toPT e up k) (s.bs k) (rayV s.toPT e up k (s.bs k)+(s.T k e:Rat)/s.d*Kk up) v;unfold Ke;split
  .next h=>rw[h,h1];grind
  exact b
theorem Ent.unb(b:PInv n m a lo hi L s)(A:Feas m lo hi s)(f:Ent n m lo hi s e up)(C:∀r ρ,¬Lc m lo hi s e up r ρ){q:Rat}(p:0<q):L (λv=>s.x v+q*rayV s.toPT e up (m+1) v)/\(∀v,v<n+m->inBd lo hi v (s.x v+q*rayV s.toPT e up (m+1) v))/\s.x (n+m)+q*rayV s.toPT e up (m+1) (n+m)<s.x (n+m):=by
 have F:(λv=>s.x v+q*rayV s.toPT e up (m+1) v)=Kq s e (q*Kk up) (m+1):=by grind [qt]
 refine⟨F▸b.mvL f.he,λv I=>?_,?_⟩;rw[<-qt];obtain⟨c,B,rfl⟩|⟨i,o,rfl⟩:=b.cov v I;by_cases hce:c=e;rw[hce,qU b.toPB f.he CG];exact OM (b.bd e f.he).1 (DQ p) λg u=>BO u (C θ g);rw[qT b.toPB f.he B hce CG];exact(b.bd c B).1;rw[ON b f.he Z];by_cases q0:s.T i e=0;rw[q0,ab_z,FC,ES,Gc];exact A i o;have H:=lk ((b.toPB.sgn (t:=s.T i e)).2.1 q0);exact OM (A i o) (GS (DQ p) (DQ H)) λg u=>BO ⟨o,q0,g,u,ω⟩ (C (ξ i) _);rw[<-qt];have w:=mQ (δ:=q*Kk up) b.toPB f.he (Ed (m+1)) (Fi m);rw[b.bm]at w;rw[w];have l:=f.im;have D:=b.toPB.sgn (t:=s.T m e);unfold ent at l;cases up with
 |true=>
  rw[Cx rfl]at l;have G:=Fy (show 0< -((s.T m e:Rat)/s.d)by have:=D.2.2 l.1;grind) p;show _+_*(q*1)<_;grind
 |false=>
  rw[Cs Ep]at l;have G:=Fy (D.1.1 aD) p;show _+_*(q* -1)<_;grind
end
theorem bV:∀{n:Nat} {A:Nat->Nat->Int} {M P k:Nat},k<n->(∀i j,i<n->j<n->i≠k->(A i j).natAbs<=M)->(∀j,j<n->(A k j).natAbs<=P)->(Kl n A).natAbs<=KJ n*(M^(n-1)*P):=by
 intro n;induction n with
 |zero=>intro A M P k h;omega
 |succ n ih=>
  intro A M P k p h c;have l:(sm (n+1) λr=>LX r*A r 0*Kl n λi j=>A (sk r i) (j+1)).natAbs<=(n+1)*(KJ n*(M^n*P)):=cD λr o=>(by rw[Dz,Dz,TZ,EV];by_cases e:r=k;subst e;have b:(Kl n λi j=>A (sk r i) (j+1)).natAbs<=KJ n*M^n:=df λi j hi d=>h _ _ Bw Z TV;have:=Df (c 0 Z) b;rw[show KJ n*(M^n*P)=P*(KJ n*M^n)by grind];exact this;have u:0<n:=Z;have b:(Kl n λi j=>A (sk r i) (j+1)).natAbs<=KJ n*(M^(n-1)*P):=ih (k:=ks r k) (by unfold ks;split<;>omega) (λi j hi d f=>h _ _ Bw Z λq=>f ((Ql e).1 q)) λj d=>(by have q:sk r (ks r k)=k:=(Ql e).2 rfl;show(A (sk r (ks r k)) (j+1)).natAbs<=P;rw[q];exact c _ Z);have:=Df (h r 0 o Z e) b;refine C5 this (Nat.le_of_eq ?_);rw[show M^n=M^(n-1)*M by rw[<-Db];congr 1;omega];grind);show(sm (n+1) _).natAbs<=(n+1)*KJ n*(M^n*P);rw[Dm];exact l
def pr(κ:Nat->Int):Nat->Int
 |0=>1
 |n+1=>pr κ n*κ n
def Ul{κ:Nat->Int}:∀{n:Nat},(∀c,c<n->0<κ c)->0<pr κ n
 |0,_=>show(0:Int)<1 by decide
 |n+1,h=>HL (Ul λc hc=>h c Z) (h n Z)
def bU{n:Nat}(A:Nat->Nat->Int){k:Nat}(b:k<n)(q:Int)(u:Nat->Int):Kl n (rw' A k λj=>q*u j)=q*Kl n (rw' A k u):=by have h:=nj A k q 0 u u b;simp only[Gv,Iz]at h;exact h
theorem ni{n:Nat}(A:Nat->Nat->Int)(κ:Nat->Int):Kl n (λi j=>κ i*A i j)=pr κ n*Kl n A:=by
 have h:∀p,p<=n->Kl n (λi j=>if i<p then κ i*A i j else A i j)=pr κ p*Kl n A:=by
  intro p;induction p with
  |zero=>intro _;simp only[DR,if_false];show _=1*_;rw[JI]
  |succ p ih=>
   intro f;have d:=bU (n:=n) (λi j=>if i<p then κ i*A i j else A i j) (k:=p) Z (κ p) (A p);have b:(λi j=>if i<p+1 then κ i*A i j else A i j)=rw' (λi j=>if i<p then κ i*A i j else A i j) p (λj=>κ p*A p j):=(by funext i j;unfold rw';by_cases q:i=p;rw[Cx q,Cx Z,q];rw[Cs q];show _=if i<p then _ else _;by_cases q2:i<p;rw[Cx q2,Cx Z];rw[Cs q2,Cs Z]);have c:rw' (λi j=>if i<p then κ i*A i j else A i j) p (A p)=λi j=>if i<p then κ i*A i j else A i j:=(by funext i j;unfold rw';by_cases q:i=p;rw[Cx q];show _=if i<p then _ else _;rw[Cs Z,q];rw[Cs q]);rw[b,d,c,ih Z];show _=pr κ p*κ p*_;grind
 rw[<-h n CG];exact Nn λi j hi _=>(Cx hi).symm
theorem Um{n:Nat}{f:Nat->Int}:((sm n f:Int):Rat)=Kc n λc=>(f c:Rat):=by induction n<;>simp_all [sm,Kc,Rat.intCast_add]
theorem vert{n:Nat}{A:Nat->Nat->Int}{d:Int}{k z:Nat->Int}{x:Nat->Rat}{f t:Nat->Int}{y:Rat}(G:d≠0)(H:∀c,c<n->(k c:Rat)*x c=z c)(u:∀j,j<n->d*f j=sm n λc=>t c*A c j)(w:(d:Rat)*y=Kc n λc=>(t c:Rat)*x c):((Kl n λc j=>k c*A c j:Int):Rat)*y=((sm n λc=>Kl n (rw' (λc j=>k c*A c j) c f)*z c:Int):Rat):=by
 have o:(d:Rat)≠0:=λe=>G (Eu.1 e);refine wu o ?_;rw[ni,Um,<-wL,show(d:Rat)*(((pr k n*Kl n A:Int):Rat)*y)=((pr k n*Kl n A:Int):Rat)*((d:Rat)*y)by grind,w,<-wL];refine yg λc b=>?_;have B:=Qm (A:=A) b u;have l:=bU (λc j=>k c*A c j) b (k c) f;have p:rw' (λc j=>k c*A c j) c (λj=>k c*f j)=λi j=>k i*rw' A c f i j:=by grind [rw']
 rw[p,ni]at l;have C:=H c b;have D:((pr k n*Kl n (rw' A c f):Int):Rat)=((k c*Kl n (rw' (λc j=>k c*A c j) c f):Int):Rat):=by rw[l]
 have F:((d*Kl n (rw' A c f):Int):Rat)=((t c*Kl n A:Int):Rat):=by rw[B]
 rw[DA,DA]at D F;rw[DA,DA,<-C];generalize ((Kl n (rw' (λc j=>k c*A c j) c f):Int):Rat)=X at*;generalize ((Kl n (rw' A c f):Int):Rat)=Z3 at*;generalize ((Kl n A:Int):Rat)=Z0 at*;generalize ((pr k n:Int):Rat)=K at*;grind
section
variable {n m:Nat}{a:Nat->Nat->Int}{L:(Nat->Rat)->Prop}{t:PT}
structure Vtx (n m:Nat)(a:Nat->Nat->Int)(x:Nat->Rat)(M:Nat)(D:Int):Prop where
 pos:0<D
 le:D.natAbs<=KJ n*M^n
 val:∀v,v<=n+m->∀P,(∀j,j<n->(a v j).natAbs<=P)->∃N:Int,(D:Rat)*x v=N/\N.natAbs<=n*(KJ n*(M^(n-1)*P)*M)
theorem PB.vtx(h:PB n m a L t)(hx:L x){k z:Nat->Int}(hk:∀c,c<n->0<k c)(hz:∀c,c<n->(k c:Rat)*x (t.nb c)=z c)(hM:∀c,c<n->∀j,j<n->(k c*a (t.nb c) j).natAbs<=M)(hzM:∀c,c<n->(z c).natAbs<=M):∃D,Vtx n m a x M D:=by
 have hd:t.d≠0:=by have:=h.tab.dp;omega
 let R:Nat->Nat->Int:=λc j=>k c*a (t.nb c) j;have hR:Kl n R≠0:=(by show Kl n (λc j=>k c*a (t.nb c) j)≠0;rw[ni (λc=>a (t.nb c)) k];have h1:=Ul hk;intro q;obtain q|q:=Int.mul_eq_zero.1 q;omega;have:=h.tab.dd;omega);have hv:∀v,v<=n+m->∃f:Nat->Int,(∀j,j<n->t.d*a v j=sm n λc=>f c*a (t.nb c) j)/\(t.d:Rat)*x v=Kc n λc=>(f c:Rat)*x (t.nb c):=λv hv=>(by have hb:∀i,i<=m->t.bs i=v->∃f:Nat->Int,(∀j,j<n->t.d*a v j=sm n λc=>f c*a (t.nb c) j)/\(t.d:Rat)*x v=Kc n λc=>(f c:Rat)*x (t.nb c):=λi hi q=>(by subst q;exact⟨t.T i,h.tab.rep i hi,(h.rep x).1 hx i hi⟩);by_cases q:v=n+m;exact hb m CG (h.bm.trans q.symm);obtain⟨c,hc,rfl⟩|⟨i,hi,q⟩:=h.cov v Z;refine⟨λc'=>if c'=c then t.d else 0,λj hj=>?_,?_⟩;rw[jF hc λc' _ hne=>by show(if c'=c then t.d else 0)*_=_;rw[Cs hne,Gv]];show _=(if c=c then t.d else 0)*_;rw[Cx rfl];rw[Qo hc λc' _ hne=>by show(((if c'=c then t.d else 0:Int)):Rat)*_=0;rw[Cs hne];show(0:Rat)*_=0;grind];show _=((if c=c then t.d else 0:Int):Rat)*_;rw[Cx rfl];exact hb i Z q);have hcD:(Kl n R).natAbs<=KJ n*M^n:=df λi j hi hj=>hM i hi j hj;have hval:∀v,v<=n+m->∀P,(∀j,j<n->(a v j).natAbs<=P)->∃N:Int,((Kl n R:Int):Rat)*x v=N/\N.natAbs<=n*(KJ n*(M^(n-1)*P)*M):=λv hvv P hP=>(by have⟨f,h1,h2⟩:=hv v hvv;refine⟨_,vert (A:=λc=>a (t.nb c)) (x:=λc=>x (t.nb c)) hd hz h1 h2,cD λc hc=>?_⟩;rw[Dz];refine Df (bV hc (λi j hi hj hne=>?_) λj hj=>?_) (hzM c hc);show(rw' R c (a v) i j).natAbs<=M;unfold rw';rw[Cs hne];exact hM i hi j hj;show(rw' R c (a v) c j).natAbs<=P;unfold rw';rw[Cx rfl];exact hP j hj);by_cases hp:0<Kl n R;exact⟨Kl n R,hp,hcD,hval⟩;refine⟨-Kl n R,Z,Z,λv hvv P hP=>?_⟩;have⟨N,h1,h2⟩:=hval v hvv P hP;refine⟨-N,?_,Z⟩;rw[It,It,<-h1];grind
def PB.bT(h:PB n m a L t)(o:∀v,v<n+m->∀j,j<n->(a v j).natAbs<=M){i c:Nat}(hi:i<=m)(d:c<n)(p:∀j,j<n->(a (t.bs i) j).natAbs<=P):(t.T i c).natAbs<=KJ n*(M^(n-1)*P):=by
 have w:(Kl n (rw' (λc=>a (t.nb c)) c (a (t.bs i)))).natAbs<=KJ n*(M^(n-1)*P):=bV d (λu j f b l=>by unfold rw';rw[Cs l];exact o _ (h.nv u f) j b) λj b=>by unfold rw';rw[Cx rfl];exact p j b
 obtain e|e:=h.tab.ent hi d<;>rw[e]<;>omega
def PB.bD(h:PB n m a L t)(f:∀v,v<n+m->∀j,j<n->(a v j).natAbs<=M):t.d.natAbs<=KJ n*M^n:=by have o:(Kl n (λc=>a (t.nb c))).natAbs<=KJ n*M^n:=df λp j b l=>f _ (h.nv _ b) j l;obtain e|e:=h.tab.dd<;>omega
end
def L0(n m:Nat)(a:Nat->Nat->Int)(y:Nat->Rat):Prop:=∀i,i<=m->y (n+i)=Kc n λj=>(a (n+i) j:Rat)*y j
def PB.ini{n m:Nat}{a:Nat->Nat->Int}(f:∀v j,v<n->j<n->a v j=if v=j then 1 else 0):PB n m a (L0 n m a) ⟨λc=>c,λi=>n+i,λi c=>a (n+i) c,1⟩:=by refine⟨⟨Int.one_pos,.inl ?_,λi hi j b=>?_⟩,λc d=>?_,λi hi=>?_,ω,λc p _ _ h=>h,λi o _ _ h=>?_,λc i d hi h=>?_,λv u=>?_,λy=>⟨λh i hi=>?_,λh i hi=>?_⟩⟩;exact(Nn λi j hi b=>f i j hi b).trans (znx n);show 1*a (n+i) j=sm n λc=>a (n+i) c*a c j;rw[jF b λc d l=>by rw[f c j d b,Cs l,GZ],f j j b b,Cx rfl];omega;show c<n+m;omega;show n+i<n+m;omega;have h:n+i=n+o:=h;omega;have h:c=n+i:=h;omega;by_cases q:v<n;exact .inl ⟨v,q,ω⟩;exact .inr ⟨v-n,Z,show n+(v-n)=v by omega⟩;show(1:Rat)*y (n+i)=_;rw[IZ];exact h i hi;have h:(1:Rat)*y (n+i)=Kc n λc=>(a (n+i) c:Rat)*y c:=h i hi;rw[IZ]at h;exact h
structure Bnd (n m:Nat)(a:Nat->Nat->Int)(lo hi:Nat->Option Rat)(M N:Nat):Prop where
 aM:∀v,v<n+m->∀j,j<n->(a v j).natAbs<=M
 bq:∀v,v<n+m->∀q,(lo v=ξ q\/hi v=ξ q\/q=0)->∃k z:Int,0<k/\(k:Rat)*q=z/\k.natAbs<=N/\z.natAbs<=N/\∀j,j<n->(k*a v j).natAbs<=N
def vN(n M N:Nat):Nat:=n*(KJ n*(N^(n-1)*M)*N)
def vD(n N:Nat):Nat:=KJ n*N^n
section
variable {n m e i:Nat}{a:Nat->Nat->Int}{lo hi:Nat->Option Rat}{L:(Nat->Rat)->Prop}{t:PT}{s:PS}
def PB.vtxB(h:PB n m a L t)(b:Bnd n m a lo hi M N)(hx:L x)(hb:∀c,c<n->lo (t.nb c)=ξ (x (t.nb c))\/hi (t.nb c)=ξ (x (t.nb c))\/x (t.nb c)=0):∃D,Vtx n m a x N D:=by have l:∀c,∃kz:Int×Int,c<n->0<kz.1/\(kz.1:Rat)*x (t.nb c)=kz.2/\kz.1.natAbs<=N/\kz.2.natAbs<=N/\∀j,j<n->(kz.1*a (t.nb c) j).natAbs<=N:=λc=>(by by_cases d:c<n;have⟨k,z,l,o,p,u,w⟩:=b.bq _ (h.nv c d) _ (hb c d);exact⟨(k,z),λ_=>⟨l,o,p,u,w⟩⟩;exact⟨(1,0),λq=>BO q d⟩);have⟨F,f⟩:=F2 l;exact h.vtx hx (k:=λc=>(F c).1) (z:=λc=>(F c).2) (λc d=>(f c d).1) (λc d=>(f c d).2.1) (λc d=>(f c d).2.2.2.2) λc d=>(f c d).2.2.2.1
theorem Lv.b{v:Nat}{q:Rat}(h:Lv lo hi v q):lo v=ξ q\/hi v=ξ q\/q=0:=by cases h<;>grind
def PInv.vtx(h:PInv n m a lo hi L s)(b:Bnd n m a lo hi M N):∃D,Vtx n m a s.x N D:=
 h.toPB.vtxB b h.xL λc d=>(h.bd c d).2.b
def QB(A B:Nat)(q:Rat):Prop:=∃x y:Int,0<y/\(y:Rat)*q=x/\x.natAbs<=A/\y.natAbs<=B
def Vtx.qb{D:Int}(h:Vtx n m a x N D){v:Nat}(hv:v<=n+m)(d:∀j,j<n->(a v j).natAbs<=P):QB (vN n P N) (vD n N) (x v):=by have⟨z,b,c⟩:=h.val v hv P d;exact⟨z,D,h.pos,b,c,h.le⟩
theorem QB.sub{A B f c:Nat}{p q:Rat}(h:QB A B p)(h':QB f c q):QB (A*c+f*B) (B*c) (p-q):=by have⟨x,y,D,F,G,w⟩:=h;have⟨C,d,l,o,u,b⟩:=h';refine⟨x*d-C*y,y*d,HL D l,?_,?_,?_⟩;rw[DA,ag2,DA,DA,<-F,<-o];grind;have:=ac4 (x*d) (C*y);have H:=Df G b;have I:=Df u w;rw[Dz,Dz]at this;omega;rw[Dz];exact Df w b
def Bnd.qb(b:Bnd n m a lo hi M N){v:Nat}(hv:v<n+m)(o:lo v=ξ q\/hi v=ξ q\/q=0):QB N N q:=by have⟨k,z,c,d,f,l,p⟩:=b.bq v hv q o;exact⟨z,k,c,d,l,f⟩
theorem PInv.stp(h:PInv n m a lo hi L s)(b:Bnd n m a lo hi M N)(f:e<n)(o:i<m)(u:s.T i e≠0)(l:lo (s.bs i)=ξ q\/hi (s.bs i)=ξ q):QB (vN n M N*N+N*vD n N) (vD n N*N) ((q-s.x (s.bs i))/((s.T i e:Rat)/s.d)):=by have F:=h.toPB.piv o f u;have⟨D,C⟩:=F.vtxB (x:=Kq s e ((q-s.x (s.bs i))/((s.T i e:Rat)/s.d)) (m+1)) b (h.mvL f) λc w=>(by by_cases hce:c=e;rw[show(s.toPT.piv i e).nb c=s.bs i from by rw[hce];exact qM,repX h.toPB f o u,show s.x (s.bs i)+(q-s.x (s.bs i))=q by grind];obtain l|l:=l;exact .inl l;exact .inr (.inl l);rw[show(s.toPT.piv i e).nb c=s.nb c from vi hce,qT h.toPB f w hce CG];exact(h.bd c w).2.b);have A:=C.qb (v:=s.nb e) (by have:=h.nv e f;omega) (b.aM _ (h.nv e f));have B:=b.qb (h.nv e f) ((h.bd e f).2.b);have p:=A.sub B;rw[qU h.toPB f CG]at p;rw[show(q-s.x (s.bs i))/((s.T i e:Rat)/s.d)=s.x (s.nb e)+(q-s.x (s.bs i))/((s.T i e:Rat)/s.d)-s.x (s.nb e)by grind];exact p
theorem Vtx.sum{D:Int}(h:Vtx n m a x N D){c:Nat->Rat}{K:Int}(o:0<K){w:Nat->Int}(A:∀j,(K:Rat)*c j=w j){W:Nat}(u:∀j,(w j).natAbs<=W)(p:∀v,v<n+m->∀j,j<n->(a v j).natAbs<=M):∀k,k<=n->QB (k*(W*vN n M N)) (K.natAbs*vD n N) (Kc k λj=>c j*x j):=by have b:∀j,∃z:Int,j<n->(D:Rat)*x j=z/\z.natAbs<=vN n M N:=λj=>(by by_cases d:j<n;have⟨z,b,l⟩:=h.val j Z M (p j Z);exact⟨z,λ_=>⟨b,l⟩⟩;exact⟨0,λq=>BO q d⟩);have⟨F,f⟩:=F2 b;intro k B;refine⟨sm k λj=>w j*F j,K*D,HL o h.pos,?_,cD λj d=>?_,?_⟩;rw[Um,<-wL];refine yg λj d=>?_;rw[DA,DA,<-A j,<-(f j Z).1];grind;rw[Dz];exact Df (u j) (f j Z).2;rw[Dz];exact Df CG h.le
end
def aF(n:Nat)(z:Nat->Nat->Int)(v j:Nat):Int:=if v<n then(if v=j then 1 else 0)else z (v-n) j
def xF(n:Nat)(z:Nat->Nat->Int)(y:Nat->Rat)(v:Nat):Rat:=if v<n then y v else Kc n λj=>(z (v-n) j:Rat)*y j
def bF(n:Nat)(c r:Nat->Option Rat)(σ:Nat->Rat)(v:Nat):Option Rat:=if v<n then c v else(r (v-n)).map λq=>q*σ (v-n)
section
variable {n m i j v:Nat}{z:Nat->Nat->Int}{lo hi:Nat->Option Rat}
def nQ:aF n z (n+i) j=z i j:=by unfold aF;rw[Cs Z,E1]
def Qq(h:v<n):aF n z v j=if v=j then 1 else 0:=by unfold aF;rw[Cx h]
def jo(h:v<n):xF n z y v=y v:=by unfold xF;rw[Cx h]
def OO:xF n z y (n+i)=Kc n λj=>(z i j:Rat)*y j:=by unfold xF;rw[Cs Z,E1]
def nD{c r:Nat->Option Rat}(h:v<n):bF n c r σ v=c v:=by unfold bF;rw[Cx h]
def gn{c r:Nat->Option Rat}:bF n c r σ (n+i)=(r i).map λq=>q*σ i:=by unfold bF;rw[Cs Z,E1]
def xF_L:L0 n m (aF n z) (xF n z y):=λi _=>by
 rw[OO];exact yg λj b=>by rw[nQ,jo b]
def iniS(n:Nat)(z:Nat->Nat->Int)(y:Nat->Rat):PS:=⟨⟨λc=>c,λi=>n+i,z,1⟩,xF n z y⟩
def zih(hb:∀c,c<n->inBd lo hi c (y c)/\Lv lo hi c (y c)):PInv n m (aF n z) lo hi (L0 n m (aF n z)) (iniS n z y):=by
 have h:=PB.ini (n:=n) (m:=m) (a:=aF n z) λv j d _=>Qq d;have e:(λi c=>aF n z (n+i) c)=z:=by funext i c;exact nQ
 rw[e]at h;refine⟨h,xF_L,λc b=>?_⟩;show inBd lo hi c (xF n z y c)/\Lv lo hi c (xF n z y c);rw[jo b];exact hb c b
structure ScF (n DB M:Nat)(f:Nat->Rat)(z:Nat->Int)(σ:Rat):Prop where
 pos:0<σ
 eq:∀j,j<n->(z j:Rat)=σ*f j
 ex:∃D g:Nat,0<D/\0<g/\σ*(g:Rat)=(D:Rat)/\D<=DB/\g<=M/\∀j,j<n->g*(z j).natAbs<=M
structure NE (E P:Nat)(q:Rat):Prop where
 den:q.den<=E
 num:q.num.natAbs<=P
def Mt(q:Rat):(q.den:Rat)*q=(q.num:Rat):=by
 have c:(q.den:Rat)≠0:=λe=>q.den_nz (HM.1 e);have d:q=(q.num:Rat)/(q.den:Rat):=by rw[<-Rat.mkRat_eq_div,Rat.mkRat_self]
 have b:=EU (a:=(q.num:Rat)) c;rw[<-d]at b;rw[Fm];exact b
theorem zn8{P:Nat}{f:Nat->Nat->Rat}(Z1:∀i,i<m->ScF n DB M (f i) (z i) (σ i))(hM:1<=M)(H:1<=E)(l:E*M<=N)(I:P*DB<=N)(V:E<=N)(Z3:P<=N)(J:∀v,v<n->∀q,cl v=ξ q\/ch v=ξ q->NE E P q)(R:∀i,i<m->∀q,rl i=ξ q\/rh i=ξ q->NE E P q):Bnd n m (aF n z) (bF n cl rl σ) (bF n ch rh σ) M N:=by
 have W:M<=N:=C5 (ER M H) l;refine⟨λv Z4 j o=>?_,λv Z4 q u=>?_⟩;by_cases h:v<n;rw[Qq h];split<;>omega;obtain⟨i,rfl⟩:∃i,v=n+i:=⟨v-n,Z⟩;have⟨D,g,_,K,_,_,_,c⟩:=(Z1 i Z).ex;rw[nQ];exact C5 (ER _ K) (c j o);have w:∀q,NE E P q\/q=0->∃k s:Int,0<k/\(k:Rat)*q=s/\k.natAbs<=E/\s.natAbs<=P:=λq h=>(by obtain h|rfl:=h;refine⟨q.den,q.num,by have:=q.den_pos;omega,?_,by have:=h.den;omega,h.num⟩;rw[Ds];exact Mt q;exact⟨1,0,by decide,FC _,H,CH⟩);by_cases h:v<n;rw[nD h,nD h]at u;have⟨k,s,A,B,C,F⟩:=w q (by
  obtain b|b|b:=u;exact .inl (J v h q (.inl b));exact .inl (J v h q (.inr b));exact .inr b)
 refine⟨k,s,A,B,Z,Z,λj o=>?_⟩;rw[Qq h];split;rw[Int.mul_one];omega;rw[GZ];exact Ig _;obtain⟨i,rfl⟩:∃i,v=n+i:=⟨v-n,Z⟩;have hi:i<m:=Z;rw[gn,gn]at u;have⟨D,g,Z0,K,A,B,C,F⟩:=(Z1 i hi).ex;obtain⟨p,T,rfl⟩:∃p,(NE E P p\/p=0)/\q=p*σ i:=(by obtain b|b|b:=u;have⟨p,c,d⟩:=Eh.1 b;exact⟨p,.inl (R i hi p (.inl c)),d.symm⟩;have⟨p,c,d⟩:=Eh.1 b;exact⟨p,.inl (R i hi p (.inr c)),d.symm⟩;exact⟨0,.inr ω,by rw[b,ES]⟩);have⟨k,s,c,d,G,S⟩:=w p T;refine⟨k*g,s*D,HL c Z,?_,?_,?_,λj o=>?_⟩;rw[DA,DA,<-d,Ds,Ds,<-A];grind;rw[Dz,C4];exact C5 (Df G C) l;rw[Dz,C4];exact C5 (Df S B) I;rw[nQ,Int.mul_assoc,Dz,Dz,C4];exact C5 (Df G (F j o)) l
theorem Qr{f:Nat->Rat}{ζ:Nat->Int}{s:Rat}(h:∀j,j<n->(ζ j:Rat)=s*f j):(Kc n λj=>(ζ j:Rat)*y j)=s*Kc n λj=>f j*y j:=by grind [wL,yg]
theorem zrl{l u:Option Rat}{s x:Rat}(A:0<s):((∀a,(l.map λq=>q*s)=ξ a->a<=s*x)/\∀a,(u.map λq=>q*s)=ξ a->s*x<=a)↔(∀a,l=ξ a->a<=x)/\∀a,u=ξ a->x<=a:=by
 have d:∀{p q:Rat},p<=q↔s*p<=s*q:=λ{p q}=>⟨λh=>Rat.mul_le_mul_of_nonneg_left h (DQ A),λh=>FK.1 λf=>by
  have o:=Fy A (show 0<p-q by grind);grind⟩
 constructor;rintro⟨w,f⟩;refine⟨λa c=>?_,λa c=>?_⟩;have:=w (a*s) AK;rw[Fm a s]at this;exact d.2 this;have:=f (a*s) AK;rw[Fm a s]at this;exact d.2 this;rintro⟨w,f⟩;refine⟨λa c=>?_,λa c=>?_⟩;obtain⟨b,o,rfl⟩:=Eh.1 c;rw[Fm b s];exact d.1 (w b o);obtain⟨b,o,rfl⟩:=Eh.1 c;rw[Fm b s];exact d.1 (f b o)
def zqa{f:Nat->Nat->Rat}{w:Nat->Rat}(p:L0 n m (aF n z) w)(u:∀i,i<m->0<σ i)(A:∀i,i<m->∀j,j<n->(z i j:Rat)=σ i*f i j):(∀v,v<n+m->inBd (bF n cl rl σ) (bF n ch rh σ) v (w v))↔(∀v,v<n->inBd cl ch v (w v))/\∀i,i<m->inBd rl rh i (Kc n λj=>f i j*w j):=by have c:∀v,v<n->(inBd (bF n cl rl σ) (bF n ch rh σ) v (w v)↔inBd cl ch v (w v)):=λv h=>(by unfold inBd;rw[nD h,nD h]);have d:∀i,i<m->(inBd (bF n cl rl σ) (bF n ch rh σ) (n+i) (w (n+i))↔inBd rl rh i (Kc n λj=>f i j*w j)):=λi hi=>(by have e:w (n+i)=σ i*Kc n λj=>f i j*w j:=(by rw[p i Z,<-Qr (A i hi)];exact yg λj _=>by rw[nQ]);unfold inBd;rw[gn,gn,e];exact zrl (u i hi));constructor;exact λh=>⟨λv b=>(c v b).1 (h v Z),λi hi=>(d i hi).1 (h (n+i) Z)⟩;rintro⟨l,o⟩ v b;by_cases q:v<n;exact(c v q).2 (l v q);have:=(d (v-n) Z).2 (o (v-n) Z);rw[show n+(v-n)=v by omega]at this;exact this
def zp0{f:Nat->Rat}{w:Nat->Rat}{s:Rat}(b:L0 n m (aF n z) w)(c:∀j,j<n->(z m j:Rat)=s*f j):w (n+m)=s*Kc n λj=>f j*w j:=by rw[b m CG,<-Qr c];exact yg λj _=>by rw[nQ]
end
end
section
open Go Go.GL
variable {n m l bs n0 Z1 c i V D N T j r n' P b bS c1 c2 l1 l2 len cx lx BB Mo M lq fx gx c' cX m' l4 c4 l5 c5 l6 c6 l7 c7 l9 c9 f1 f2 kA lA u1 u2 p E:Nat}{h h':HF}{d:Sol}{A:Adr}{L:(Nat->Rat)->Prop}{q g y:Rat}{e ty:TypeId}{v v0:ψ}{b1 b2 low dx sx b8:Bool}{a1 a2 ax asc alo ahi aq ex a4 a5 a6 a7 a9 aA e1 aX:Option Addr}{ops:List Oper}{w Z0 ms:List Nat}{α:Type}{qs sc ob ss:List Rat}{X:CtxF}{t:TF}{Q:SV->Prop}{o:Oper}{s:List UInt8}{a0:Nat->Nat->Rat}{bf f:Int}{U':Nat->Nat->Int}{al ld:List (Nat×Nat)}{ef:List (Nat×HF×List Nat)}{ds cs rs:List SideD}{bz:List (Nat×List Int)}{S:List (List UInt8)}
section
variable {k:Nat}
def Kd(l:List (Bool×Rat))(v:Nat):Option Rat:=match l[v]? with|some (φ,q)=>ξ q|_=>θ
def xI{l:List (Bool×Rat)}{v:Nat}(h:l[v]?=ξ (φ,q)):Kd l v=ξ q:=by unfold Kd;rw[h]
def pj{l:List (Bool×Rat)}{v:Nat}(h:l[v]?=ξ (χ,q)):Kd l v=θ:=by unfold Kd;rw[h]
structure SolP (n m:Nat)(d:Sol)(s:PS):Prop where
 nl:O d.nb=n
 nb:∀c,c<n->d.nb[c]?=ξ (s.nb c)
 bl:O d.ba=m
 ba:∀i,i<m->d.ba[i]?=ξ (s.bs i)
 vl:O d.va=n+m
 va:∀v,v<n+m->d.va[v]?=ξ (s.x v)
 tl:O d.ta=m+1
 ta:∀i,i<=m->∃r,d.ta[i]?=ξ r/\O r.2=n/\∀c,c<n->r.2[c]?=ξ (s.T i c)
 de:d.den=s.d
 ll:O d.lo=n+m
 lh:O d.hi=n+m
 nm:n+m<900
 ls:O d.sc=n+m
 dn:d.n=n
structure Lim (V T Z1 D B:Nat):Prop where
 l1:V+B+1<=D
 l2:T+D+V+1<=2400
 l3:D+D<=2400
 l4:T<=Z1
 l5:T+Z1+1<=2400
structure SzP (n m V T Z1 B:Nat)(d:Sol)(s:PS):Prop where
 va:∀v,v<n+m->Sz V (s.x v)
 lo:∀p∈d.lo,Sz B p.2
 hi:∀p∈d.hi,Sz B p.2
 tT:∀i,i<m->∀c,c<n->(s.T i c).natAbs<2^T
 tO:∀c,c<n->(s.T m c).natAbs<2^Z1
 dd:s.d.natAbs<2^T
section
variable {B:Nat}{s:PS}{a:Nat->Nat->Int}{lo hi:Nat->Option Rat}
def VioP(lo hi:Nat->Option Rat)(s:PS)(k:Nat)(f:Int)(g:Rat):Prop:=
 (f= -1/\∀i,i<k->inBd lo hi (s.bs i) (s.x (s.bs i)))\/∃i low,f=((i:Nat):Int)/\i<k/\Viol lo hi s i low g/\∀i',i'<k->s.bs i'<s.bs i->inBd lo hi (s.bs i') (s.x (s.bs i'))
def VioP.skip(h:VioP lo hi s k (i:Int) g)(w:s.bs i<=s.bs k):VioP lo hi s (k+1) (i:Int) g:=by obtain⟨h,_⟩|⟨o,low,p,u,c,f⟩:=h;omega;obtain rfl:i=o:=Z;refine .inr ⟨i,low,ω,Z,c,λj v b=>?_⟩;by_cases e:j=k;subst e;omega;exact f j Z b
def VioP.no{f:Int}(h:VioP lo hi s k f g)(y:inBd lo hi (s.bs k) (s.x (s.bs k))):VioP lo hi s (k+1) f g:=by have c:∀j,(j<k->inBd lo hi (s.bs j) (s.x (s.bs j)))->j<k+1->inBd lo hi (s.bs j) (s.x (s.bs j)):=λj h b=>(by by_cases e:j=k;rw[e];exact y;exact h Z);obtain⟨h,o⟩|⟨C,low,u,o,v,w⟩:=h;exact .inl ⟨h,λj=>c j (o j)⟩;exact .inr ⟨C,low,u,Z,v,λj b p=>c j (λb=>w j b p) b⟩
theorem VioP.take{f:Int}{c:Rat}(h:VioP lo hi s k f g)(p:f= -1\/∃i:Nat,f=(i:Int)/\s.bs k<=s.bs i)(hv:Viol lo hi s k low c):VioP lo hi s (k+1) (k:Int) c:=by
 refine .inr ⟨k,low,ω,Fi _,hv,λj b w=>?_⟩;have b:j<k:=by grind
 obtain⟨h,o⟩|⟨v,low,y,o,C,u⟩:=h;exact o j b;obtain p|⟨i,e,hi⟩:=p;omega;obtain rfl:i=v:=Z;exact u j b Z
def Viol.mkL{l:Rat}(h:lo (s.bs i)=ξ l)(hx:s.x (s.bs i)<l):Viol lo hi s i φ (l-s.x (s.bs i)):=by unfold Viol;rw[Cx rfl];exact⟨l,h,hx,ω⟩
theorem Viol.mkH{u:Rat}(h:hi (s.bs i)=ξ u)(hx:u<s.x (s.bs i)):Viol lo hi s i χ (u-s.x (s.bs i)):=by unfold Viol;grind
end
section
variable {B:Nat}{s:PS}
def zcl(k:Nat)(g:GG h n0)(sm:SM l h n0 bs d A)(R:SolP n m d s)(bv:∀i,i<m->s.bs i<n+m)(sz:SzP n m V T Z1 B d s)(lm:Lim V T Z1 D B):CX (Ka (k+11)) 45 [ι bs] h n0 λw u v=>∃f q g b a l c d1 e1 f1 g1 fd,w=.tuple #[CJ .i64 q,.agg #[U b,Y a l c,U d1,Y e1 f1 g1],U fd]/\IW u v b a l c g.num/\IW u v d1 e1 f1 g1 (denZ g)/\VioP (Kd d.lo) (Kd d.hi) s m f g/\(fd=φ/\0<=f/\q=f\/fd=χ/\f= -1):=by have⟨b0,a0,u0,c0,ty,st,i0⟩:=sm.st;have be:=sm.bs.1;have bf:=R.nm;have:=lm.l1;have:=lm.l3;have vl:=R.vl;have bl:=R.bl;have ll:=R.ll;have lh:=R.lh;refine zw R4<|Za λh1 p1 x1=>?_;refine Za λh2 p2 x2=>?_;refine zG ?_;refine sF (α:=Nat×Int×Rat×Bool×Option Addr×Nat×Nat×Bool×Option Addr×Nat×Nat) (λz=>[(0,ι bs),(3,ι (3*n0+2)),(5,CJ .i64 z.2.1),(6,ι (3*(n0+1)+2)),(13,Y A.ba (O d.ba) (O d.ba)),(14,CJ .i64 (O d.ba:Int)),(15,CJ .i64 (z.1:Int))]) (λz u v w'=>w'=[]/\n0+1+1<=v/\ExtB (n0+1+1) [3*(n0+1)+2] h2 u/\u (3*(n0+1)+2)=ξ (.row [U z.2.2.2.1,Y z.2.2.2.2.1 z.2.2.2.2.2.1 z.2.2.2.2.2.2.1,U z.2.2.2.2.2.2.2.1,Y z.2.2.2.2.2.2.2.2.1 z.2.2.2.2.2.2.2.2.2.1 z.2.2.2.2.2.2.2.2.2.2] 66)/\IW u v z.2.2.2.1 z.2.2.2.2.1 z.2.2.2.2.2.1 z.2.2.2.2.2.2.1 z.2.2.1.num/\IW u v z.2.2.2.2.2.2.2.1 z.2.2.2.2.2.2.2.2.1 z.2.2.2.2.2.2.2.2.2.1 z.2.2.2.2.2.2.2.2.2.2 (denZ z.2.2.1)/\VioP (Kd d.lo) (Kd d.hi) s z.1 z.2.1 z.2.2.1/\z.1<=m) (λz=>m-z.1) (0,-1,0,χ,θ,0,0,χ,θ,0,0) ⟨ω,CG,El _ _ _,p2,(EB _ _).as ω,(EB _ _).as ω,.inl ⟨ω,λi hi=>BO hi (DR _)⟩,CH⟩ ?_;rintro⟨j,f,r,bS,aS,lS,kS,uS,vS,wS,xS⟩ t P n3 _ ⟨rfl,y3,Y3,p3,i3,j3,hv,hj⟩;have p3:P (3*(n0+1)+2)=ξ (.row [U bS,Y aS lS kS,U uS,Y vS wS xS] 66):=p3;have i3:IW P n3 bS aS lS kS r.num:=i3;have j3:IW P n3 uS vS wS xS (denZ r):=j3;have hv:VioP (Kd d.lo) (Kd d.hi) s j f r:=hv;have hj:j<=m:=hj;have y3:n0+1+1<=n3:=y3;have X3:Exo n0 h P:=⟨λc hc=>(Y3 c Z (λe=>by have:=C0.1 e;omega)).trans ((x2 c Z).trans (x1 c hc))⟩;have s3:=sm.ext (n':=n3) X3.go Z;refine zG ?_;by_cases q3:(j:Int)<(O d.ba:Int);refine zG ?_;have G:j<m:=Z;have gv:=R.ba j G;have ai:=bv j G;have gx:=R.va _ ai;have aa:=sz.va _ ai;obtain⟨pl,N⟩:∃x,d.lo[s.bs j]?=ξ x:=⟨_,CK Z⟩;obtain⟨ph,M⟩:∃x,d.hi[s.bs j]?=ξ x:=⟨_,CK Z⟩;have⟨k4,o4,e4,m4,r4,t4⟩:=natS.at s3.ba.rs gv;refine sI e4 r4 ?_;refine sL t4 m4 0 ?_;have go:(∃i:Nat,f=(i:Int)/\i<m/\s.bs i<s.bs j)\/f= -1\/(∃i:Nat,f=(i:Int)/\i<m/\s.bs j<=s.bs i):=(by obtain⟨h1,_⟩|⟨i,low,h1,h2,P,_⟩:=hv;exact .inr (.inl h1);by_cases hw:s.bs i<s.bs j;exact .inl ⟨i,h1,Z,hw⟩;exact .inr (.inr ⟨i,h1,Z,Z⟩));refine mM ?_;simp only[yu,xg,zK,yY];refine yj (λz=>[(0,ι bs),(3,ι (3*n0+2)),(5,CJ .i64 f),(6,ι (3*(n0+1)+2)),(7,CJ .i64 (j:Int)),(8,CJ .i64 (s.bs j:Int)),(13,Y A.ba (O d.ba) (O d.ba)),(14,CJ .i64 (O d.ba:Int)),(15,CJ .i64 (j:Int)),(32,U z)]) (λz u v w'=>w'=[]/\P=u/\n3=v/\(z=φ/\(∃i:Nat,f=(i:Int)/\i<m/\s.bs i<s.bs j)\/z=χ/\(f= -1\/∃i:Nat,f=(i:Int)/\s.bs j<=s.bs i))) ?_ ?_;obtain⟨i,rfl,a4,hw⟩|rfl|⟨i,rfl,a4,hw⟩:=go;refine zG ?_;have⟨k5,o5,e5,m5,r5,t5⟩:=natS.at s3.ba.rs (R.ba i a4);refine sI e5 r5 ?_;refine sL t5 m5 0 ?_;refine zG ?_;exact zA φ (by(repeat (first|exact trivial|refine⟨ω,?_⟩))) ⟨ω,ω,ω,.inl ⟨ω,i,ω,a4,hw⟩⟩;refine zG ?_;exact zA χ (by(repeat (first|exact trivial|refine⟨ω,?_⟩))) ⟨ω,ω,ω,.inr ⟨ω,.inl AP⟩⟩;refine zG ?_;have⟨k5,o5,e5,m5,r5,t5⟩:=natS.at s3.ba.rs (R.ba i a4);refine sI e5 r5 ?_;refine sL t5 m5 0 ?_;refine zG ?_;exact zA χ (by(repeat (first|exact trivial|refine⟨ω,?_⟩))) ⟨ω,ω,ω,.inr ⟨ω,.inr ⟨i,ω,hw⟩⟩⟩;rintro z t _ _ _⟨rfl,rfl,rfl,⟨rfl,i,rfl,a4,hw⟩|⟨rfl,ag⟩⟩;refine zG ?_;exact sK (j+1,(i:Int),r,bS,aS,lS,kS,uS,vS,wS,xS) ⟨ω,y3,Y3,p3,i3,j3,hv.skip Z,G⟩;refine zG ?_;have⟨k6,o6,b6,a6,l6,c6,d6,e6,f6,u6,ev,mv,rv,tv,iv,jv⟩:=QS.at s3.va.rs gx;refine sI ev rv ?_;refine sL tv mv 0 ?_;refine sA λh7 p7 x7=>?_;refine zG ?_;refine sS [U b6,Y a6 l6 c6,U d6,Y e6 f6 u6] λh8 p8 o8=>?_;have al:=sz.lo _ (CL N);have ak:=sz.hi _ (CL M);have⟨k9,o9,b9,a9,l9,c9,d9,e9,f9,g9,el,ml,rl,tl,il,jl⟩:=BS.at s3.lo.rs N;have⟨bg,bh,b5,b4,l10,b7,b8,bb,bc,bd,eh,mh,rh,th,ih,jh⟩:=BS.at s3.hi.rs M;have T8:Tr n3 P (n3+1) h8:=zt;have g8:=(g.ext X3.go (by omega:n0<=n3)).t T8;have a7:=iv.t T8;have a8:=jv.t T8;refine zG ?_;refine yj (λz=>[(0,ι bs),(3,ι (3*n0+2)),(5,CJ .i64 f),(6,ι (3*(n0+1)+2)),(7,CJ .i64 (j:Int)),(8,CJ .i64 (s.bs j:Int)),(9,ι (3*n3+2)),(13,Y A.ba (O d.ba) (O d.ba)),(14,CJ .i64 (O d.ba:Int)),(15,CJ .i64 (j:Int)),(40,U z)]) (λz u v w'=>w'=[]/\n3+1<=v/\J9 (n3+1) h8 u/\(z=φ/\(∃q,Kd d.lo (s.bs j)=ξ q/\s.x (s.bs j)<q)\/z=χ/\∀q,Kd d.lo (s.bs j)=ξ q->q<=s.x (s.bs j))) ?_ ?_;refine zl ?_;refine zH ?_;refine dI el rl ?_;refine zH ?_;refine dL tl ml 0 ?_;have⟨xl,ql⟩:=pl;cases xl;refine zJ ?_;exact zA χ (by(repeat (first|exact trivial|refine⟨ω,?_⟩))) ⟨ω,CG,FH _ _,.inr ⟨ω,λq o=>by rw[pj N]at o;cases o⟩⟩;refine zH ?_;refine dI el rl ?_;refine zH ?_;refine dL tl ml 1 ?_;refine dC (xp _ a7 a8 il.t jl.t aa al Z).cx ?_;rintro _ ao av⟨b1,rfl,p⟩ F C;obtain⟨rfl,p⟩|⟨rfl,p⟩|⟨rfl,p⟩:=p;refine zJ ?_;exact zA φ (by(repeat (first|exact trivial|refine⟨ω,?_⟩))) ⟨ω,F,C,.inl ⟨ω,_,xI N,p⟩⟩;refine zJ ?_;exact zA χ (by(repeat (first|exact trivial|refine⟨ω,?_⟩))) ⟨ω,F,C,.inr ⟨ω,λq o=>by rw[xI N]at o;cases o;exact FK.1 λh=>E2 (p▸h)⟩⟩;refine zJ ?_;exact zA χ (by(repeat (first|exact trivial|refine⟨ω,?_⟩))) ⟨ω,F,C,.inr ⟨ω,λq o=>by rw[xI N]at o;cases o;exact DQ p⟩⟩;rintro z t a3 y _⟨rfl,K,J,⟨rfl,H⟩|⟨rfl,H⟩⟩;have K:n3+1<=y:=K;have J:J9 (n3+1) h8 a3:=J;have⟨xl,ql⟩:=pl;cases xl;exfalso;have⟨q,o,_⟩:=H;rw[pj N]at o;cases o;have⟨q,o,H⟩:=H;rw[xI N]at o;cases o;refine kh ?_;refine dI el rl ?_;refine zH ?_;refine dL tl ml 1 ?_;refine zH ?_;refine dC (subQ _ g8.x il.t jl.t a7.t a8.t al aa Z) ?_;rintro _ ap aw⟨Z4,S,a5,W,Z3,Z0,a1,a2,rfl,ad,ae⟩ b3 b2;refine zH ?_;refine dS [U Z4,Y S a5 W,U Z3,Y Z0 a1 a2] λaq af ax=>?_;refine zJ ?_;exact sK (j+1,(j:Int),ql-s.x (s.bs j),Z4,S,a5,W,Z3,Z0,a1,a2) ⟨ω,Z,zy,af,ad.t zt,ae.t zt,hv.take ag (Viol.mkL (xI N) H),G⟩;have K:n3+1<=y:=K;have J:J9 (n3+1) h8 a3:=J;have am:=a7.ext J K;have an:=a8.ext J K;refine zG ?_;refine yj (λz=>[(0,ι bs),(3,ι (3*n0+2)),(5,CJ .i64 f),(6,ι (3*(n0+1)+2)),(7,CJ .i64 (j:Int)),(8,CJ .i64 (s.bs j:Int)),(9,ι (3*n3+2)),(13,Y A.ba (O d.ba) (O d.ba)),(14,CJ .i64 (O d.ba:Int)),(15,CJ .i64 (j:Int)),(73,U z)]) (λz u v w'=>w'=[]/\y<=v/\J9 y a3 u/\(z=φ/\(∃q,Kd d.hi (s.bs j)=ξ q/\q<s.x (s.bs j))\/z=χ/\∀q,Kd d.hi (s.bs j)=ξ q->s.x (s.bs j)<=q)) ?_ ?_;refine zl ?_;refine zH ?_;refine dI eh rh ?_;refine zH ?_;refine dL th mh 0 ?_;have⟨xh,qh⟩:=ph;cases xh;refine zJ ?_;exact zA χ (by(repeat (first|exact trivial|refine⟨ω,?_⟩))) ⟨ω,CG,FH _ _,.inr ⟨ω,λq o=>by rw[pj M]at o;cases o⟩⟩;refine zH ?_;refine dI eh rh ?_;refine zH ?_;refine dL th mh 1 ?_;refine dC (xp _ am an ih.t jh.t aa ak Z).cx ?_;rintro _ ao av⟨b1,rfl,p⟩ F C;obtain⟨rfl,p⟩|⟨rfl,p⟩|⟨rfl,p⟩:=p;refine zJ ?_;exact zA χ (by(repeat (first|exact trivial|refine⟨ω,?_⟩))) ⟨ω,F,C,.inr ⟨ω,λq o=>by rw[xI M]at o;cases o;exact DQ p⟩⟩;refine zJ ?_;exact zA χ (by(repeat (first|exact trivial|refine⟨ω,?_⟩))) ⟨ω,F,C,.inr ⟨ω,λq o=>by rw[xI M]at o;cases o;exact FK.1 λh=>E2 (p▸h)⟩⟩;refine zJ ?_;exact zA φ (by(repeat (first|exact trivial|refine⟨ω,?_⟩))) ⟨ω,F,C,.inl ⟨ω,_,xI M,p⟩⟩;rintro z t ah aj _⟨rfl,ac,ab,⟨rfl,I⟩|⟨rfl,I⟩⟩;have ac:y<=aj:=ac;have ab:J9 y a3 ah:=ab;have⟨xh,qh⟩:=ph;cases xh;exfalso;have⟨q,o,_⟩:=I;rw[pj M]at o;cases o;have⟨q,o,I⟩:=I;rw[xI M]at o;cases o;refine kh ?_;refine dI eh rh ?_;refine zH ?_;refine dL th mh 1 ?_;refine zH ?_;refine dC (subQ _ g8.x ih.t jh.t a7.t a8.t ak aa Z) ?_;rintro _ ap aw⟨Z4,S,a5,W,Z3,Z0,a1,a2,rfl,ad,ae⟩ b3 b2;refine zH ?_;refine dS [U Z4,Y S a5 W,U Z3,Y Z0 a1 a2] λaq af ax=>?_;refine zJ ?_;exact sK (j+1,(j:Int),qh-s.x (s.bs j),Z4,S,a5,W,Z3,Z0,a1,a2) ⟨ω,Z,zy,af,ad.t zt,ae.t zt,hv.take ag (Viol.mkH (xI M) I),G⟩;have ac:y<=aj:=ac;have ab:J9 y a3 ah:=ab;refine zG ?_;exact sK (j+1,f,r,bS,aS,lS,kS,uS,vS,wS,xS) ⟨ω,Z,zy,zp,i3.t zt,j3.t zt,hv.no ⟨H,I⟩,G⟩;have au:j=m:=Z;subst au;refine mN ?_;obtain⟨rfl,h2⟩|⟨i,low,rfl,h2,P,h4⟩:=hv;refine zH ?_;refine dr_I R5<|zH ?_;refine dS [U bS,Y aS lS kS,U uS,Y vS wS xS] λar az ay=>?_;refine zq ?_;exact⟨-1,0,r,_,_,_,_,_,_,_,_,χ,ω,i3.t zt,j3.t zt,.inl ⟨ω,h2⟩,.inr ⟨ω,ω⟩⟩;refine zH ?_;refine dr_I ⟨ω,ω,ω,ω,(by show ξ (CJ .i64 (if((i:Nat):Int)<0 then 0 else(i:Int)))=_;rw[Cs Z])⟩ ?_;refine zH ?_;refine dS [U bS,Y aS lS kS,U uS,Y vS wS xS] λar az ay=>?_;refine zq ?_;exact⟨i,i,r,_,_,_,_,_,_,_,_,φ,ω,i3.t zt,j3.t zt,.inr ⟨i,low,ω,h2,P,h4⟩,.inl ⟨ω,Z,ω⟩⟩
end
end
theorem xz{x y:Int}{m:Nat}(f:0<y)(hx:x.natAbs<2^m)(c:y.natAbs<2^m):Sz m (DK x y):=by
 obtain⟨d,e⟩:=pt f;refine⟨?_,?_⟩
 .rw[d];exact vh hx
 have b:=vh (y:=((C6 x.natAbs y.natAbs:Nat):Int)) c;rw[<-e,C4]at b;exact b
section
variable {k:Nat}{a:Nat->Nat->Rat}{T:Nat->Nat->Int}
end
section
variable {cq:Nat}
def aQ(qs:List Rat):Nat->Nat->Rat:=λ_ j=>(qs[j]?).getD 0
def NP{qs:List Rat}(h:qs[j]?=ξ q):aQ qs i j=q:=by unfold aQ;rw[h];rfl
def zmk(qs:List Rat):rowQ (O qs) (aQ qs) 0=qs:=by refine Et λj=>?_;unfold rowQ;rw[DC];by_cases h:j<O qs;rw[GJ h,CK h];show ξ (aQ qs 0 j)=_;rw[NP (CK h)];rw[Dl aD,Dl Z];rfl
def mixF{α:Type}(f g:Nat->α)(j N:Nat):List α:=(DV N).map λi=>if i<j then f i else g i
def xE{f g:Nat->α}:O (mixF f g j N)=N:=by unfold mixF;rw[CU,Fo]
theorem xG{f g:Nat->α}(h:i<N):(mixF f g j N)[i]?=ξ (if i<j then f i else g i):=by grind [mixF]
def pE{f g:Nat->α}(h:j<N):(mixF f g j N).set j (f j)=mixF f g (j+1) N:=by refine Et λi=>?_;rw[HX,xE];by_cases h1:j=i;subst h1;rw[Cx ω,Cx h,xG h,Cx (Fi _)];rw[Cs h1];by_cases h2:i<N;rw[xG h2,xG h2];by_cases h3:i<j;rw[Cx h3,Cx Z];rw[Cs h3,Cs Z];rw[Dl Bc,Dl Bc]
def iA{f:Nat->α}{z:α}:CO N z=mixF f (λ_=>z) 0 N:=by refine Et λi=>?_;rw[GN];by_cases h:i<N;rw[Cx h,xG h,Cs (DR _)];rw[Cs h,Dl Bc]
def cW{f g b:Nat->α}:mixF f g N N=mixF b f 0 N:=by refine Et λi=>?_;by_cases h:i<N;rw[xG h,xG h,Cx h,Cs (DR _)];rw[Dl Bc,Dl Bc]
def eg{a:Nat}:∀{l:List Rat} {m:Nat},(∀q∈l,q.den<2^a)->0<m->lcmD l m<=m*2^(a*O l)
 |[],m,_,_=>by
  show m<=m*2^(a*0);rw[Ey,Nat.pow_zero,DL];exact Ed _
 |q::l,m,h,hm=>by
  have h1:IX m q.den<=m*2^a:=C5 (I3 (EJ hm q.den_pos) (Nat.lcm_dvd (ac5 _ _) (ad3 _ _))) (C9 _ (D9 (h q Eb)));have b:=eg (l:=l) (m:=IX m q.den) (λx c=>h x (E7 _ c)) (Nat.lcm_pos hm q.den_pos);show lcmD l (IX m q.den)<=_;refine C5 b (C5 (CS _ h1) ?_);rw[DN,DY,DL,Ee,D4,Dm];exact Ed _
section
variable {a:Nat}
def nk:deni (O qs) (aQ qs) 0=lcmD qs 1:=by unfold deni;rw[zmk]
def kW(d:∀q∈qs,Sz a q)(e:a*O qs+a+1<=P):deni (O qs) (aQ qs) 0<2^P:=by rw[nk];have b:=eg (l:=qs) (m:=1) (λq c=>(d q c).2) zd;rw[EV]at b;exact Dh b (Nat.pow_lt_pow_right zd Z)
def cO(d:∀q∈qs,Sz a q)(g:a*O qs+a+1<=P)(hj:j<O qs):(KE (O qs) (aQ qs) 0 j).natAbs<2^P:=by have c:=eg (l:=qs) (m:=1) (λq b=>(d q b).2) zd;rw[EV,<-nk]at c;have b:=d _ (EX hj);unfold KE Nm;rw[NP (CK hj),Dz];have e:((deni (O qs) (aQ qs) 0:Nat):Int).tdiv ((qs[j]).den:Int)=((deni (O qs) (aQ qs) 0/(qs[j]).den:Nat):Int):=rfl;rw[e,C4];have f:deni (O qs) (aQ qs) 0/(qs[j]).den<=2^(a*O qs):=C5 (Nat.div_le_self _ _) c;refine CZ (Dh (C9 _ f) (Nat.mul_lt_mul_of_pos_right b.1 (G6 _))) ?_;rw[<-D4];exact CW zd Z
def Un(c:∀q∈qs,Sz a q)(b:a*O qs+a+1<=P)(hj:j<=O qs):KZ (KE (O qs) (aQ qs) 0) j<2^P:=by have h:=TO (f:=KE (O qs) (aQ qs) 0) (m:=j) (B:=2^P-1) λi d=>(by have:=cO c b (j:=i) Z;omega);have:=G6 P;omega
end
def scS(qs:List Rat):Rat:=if KZ (KE (O qs) (aQ qs) 0) (O qs)=0 then 1 else tS (O qs) (aQ qs) 0
structure ScR (qs:List Rat)(P:Nat)(zs:List Int)(s:Rat):Prop where
 len:O zs=O qs
 pos:0<s
 sz:Sz P s
 zb:∀z∈zs,z.natAbs<2^P
 eq:∀(j:Nat) (q:Rat) (z:Int),qs[j]?=ξ q->zs[j]?=ξ z->(z:Rat)=s*q
 fr:(s=1/\∀z∈zs,z=0)\/∃g:Nat,0<g/\s*(g:Rat)=(lcmD qs 1:Rat)/\∃z∈zs,z≠0
 ds:s=scS qs
def zik{f:Nat->Int}:∀{m:Nat},(∀j,j<m->f j=0)->KZ f m=0:=λ{m} h=>by
 have:=TO (f:=f) (m:=m) (B:=0) λj b=>by rw[h j b];exact Ed _
 omega
def ScR.mk0{qs:List Rat}{a P:Nat}(v:∀q∈qs,Sz a q)(s:a*O qs+a+1<=P)(m:KZ (KE (O qs) (aQ qs) 0) (O qs)=0):ScR qs P (mixF (tT (O qs) (aQ qs) 0) (KE (O qs) (aQ qs) 0) 0 (O qs)) 1:=by have c:∀j,j<O qs->KE (O qs) (aQ qs) 0 j=0:=λj b=>(by have:=TN (f:=KE (O qs) (aQ qs) 0) b;rw[m,Nat.zero_dvd]at this;omega);refine⟨xE,by decide,⟨by show 1<2^P;exact IH Z,by show 1<2^P;exact IH Z⟩,λz g=>?_,λj q z o p=>?_,.inl ⟨ω,λz g=>?_⟩,(Cx m).symm⟩;obtain⟨i,d,rfl⟩:=DU.1 g;rw[Cs (DR _),c i (GQ.1 d)];exact G6 _;have b:=(CQ.1 o).1;rw[xG b,Cs (DR _),c j b]at p;cases p;have e:=TM (bY (N:=O qs) (a:=aQ qs) (i:=0) b);have l:((KE (O qs) (aQ qs) 0 j:Int):Rat)=aQ qs 0 j*(deni (O qs) (aQ qs) 0:Rat):=e;rw[c j b,NP o]at l;rw[IZ];obtain h|h:=ag4.1 l.symm;rw[h];rfl;have u:=bW (N:=O qs) (a:=aQ qs) (i:=0);have:=HM.1 h;omega;obtain⟨i,d,rfl⟩:=DU.1 g;rw[Cs (DR _),c i (GQ.1 d)]
def ScR.mk1{qs:List Rat}{a P:Nat}(m:∀q∈qs,Sz a q)(g:a*O qs+a+1<=P)(f:¬KZ (KE (O qs) (aQ qs) 0) (O qs)=0):ScR qs P (mixF (tT (O qs) (aQ qs) 0) (KE (O qs) (aQ qs) 0) (O qs) (O qs)) (tS (O qs) (aQ qs) 0):=by
 have l:Lm (O qs) (aQ qs) 0=KZ (KE (O qs) (aQ qs) 0) (O qs):=by unfold Lm ML;rw[Cs f]
 have A:Lm (O qs) (aQ qs) 0<2^P:=by rw[l];exact Un m g CG
 refine⟨xE,TQ,xz (by rw[l];omega) (by rw[C4];exact kW m g) Z,λz y=>?_,λj q z c p=>?_,.inr ⟨Lm (O qs) (aQ qs) 0,by rw[l];omega,?_,?_⟩,(Cs f).symm⟩;obtain⟨i,d,rfl⟩:=DU.1 y;have d:=GQ.1 d;rw[Cx d];exact vh (cO m g d);have b:=(CQ.1 c).1;rw[xG b,Cx b]at p;cases p;rw[TS b,NP c];have c:((Lm (O qs) (aQ qs) 0:Nat):Rat)≠0:=λe=>by have:=HM.1 e;omega
 rw[<-nk];unfold tS;rw[EE,Ds,Ds];exact EU c;refine C1 λu=>f (zik λj b=>?_);have o:=TS (N:=O qs) (a:=aQ qs) (i:=0) b;have v:tT (O qs) (aQ qs) 0 j=0:=C1 λs=>u ⟨_,CL ((xG b).trans (congrArg ξ (Cx b))),s⟩;rw[v]at o;have w:aQ qs 0 j=0:=(ag4.1 o.symm).resolve_left λe=>by have:=TQ (N:=O qs) (a:=aQ qs) (i:=0);rw[e]at this;exact E2 this
 unfold KE Nm;rw[w];exact Gv _
theorem qa(k:Nat)(g:GG h n){qs:List Rat}(iq:QS h n (Y aq lq cq) qs){a P:Nat}(hz:∀q∈qs,Sz a q)(hP:a*O qs+a+1<=P)(bx:P<=2496)(hL:O qs<=1000):
  CX (Ka (k+12)) 22 [Y aq lq cq] h n λw v J=>∃B zs s b a l c d e f u,w=.tuple #[Y (ξ ⟨B,0,θ⟩) lq lq,.agg #[U b,Y a l c,U d,Y e f u]]/\3*n<=B/\gro B=χ/\OZ v J B zs/\KY v B 60/\ScR qs P zs s/\IW v J b a l c s.num/\IW v J d e f u (denZ s):=by
 have c6:=iq.len;subst c6;have T:∀{x:Nat},x<2^P->x<BW:=λh=>yU h bx;refine zw R4<|Za λh1 p1 x1=>?_;refine zG ?_;refine sC (zn3 _ g.x iq.x (D:=lcmD qs 1) (kt zd) (by rw[<-nk];exact T (kW hz hP)) (λq hq=>ku hq) Z) ?_;rintro _ h2 A⟨b2,a2,l2,c2,rfl,i2⟩ y2 x2;rw[<-nk]at i2;refine sA λh3 p3 x3=>?_;refine sS [U b2,Y a2 l2 c2] λh4 p4 o4=>?_;refine zG ?_;refine NM (L:=O qs) [U χ,η] ?_ hL;intro h5 p5 x5;refine Za λI p6 x6=>?_;refine zG ?_;obtain⟨V,b1⟩:∃B,B=3*A+2:=⟨_,ω⟩;obtain⟨m,ad⟩:∃B,B=3*(A+1)+2:=⟨_,ω⟩;obtain⟨H,b3⟩:∃B,B=3*(A+1+1)+2:=⟨_,ω⟩;have gB:gro m=χ:=by rw[ad];exact zB _
 have o5:OZ I (A+1+1+1) m (CO (O qs) 0):=(by rw[ad];exact(OR.fill (n:=A+1+1) Z p5 FL ⟨_,_,_,_,ω,EB _ _⟩).xx FL zx);have t5:KY I m 60:=⟨_,by rw[ad];exact zp⟩;have cg:I V=ξ (.row [U b2,Y a2 l2 c2] 60):=by rw[b1];exact zp
 have ce:I (3*n+2)=_:=(zp:I (3*n+2)=_);have c0:=i2.t (show Tr A h2 (A+1+1+1) I from zt);have cu:=iq.x (show Tx n h (A+1+1+1) I from zx);have g6:=g.x (show Tx n h (A+1+1+1) I from zx);have cp:Exo n h I:=⟨(show Tx n h (A+1+1+1) I from zx).2⟩;rw[<-b1,<-ad,<-b3];rw[<-b3]at p6;refine sF (α:=Nat×Bool×Option Addr×Nat×Nat) (λz=>[(3,ι (3*n+2)),(4,ι V),(5,Y (ξ ⟨m,0,θ⟩) (O qs) (O qs)),(6,ι H),(16,Y aq (O qs) cq),(17,CJ .i64 (O qs:Int)),(18,CJ .i64 (z.1:Int))]) (λz v J w'=>w'=[]/\(A+1+1+1)<=J/\ExtB (A+1+1+1) [m,H] I v/\OZ v J m (mixF (KE (O qs) (aQ qs) 0) (λ_=>0) z.1 (O qs))/\KY v m 60/\v H=ξ (.row [U z.2.1,Y z.2.2.1 z.2.2.2.1 z.2.2.2.2] 60)/\IW v J z.2.1 z.2.2.1 z.2.2.2.1 z.2.2.2.2 ((KZ (KE (O qs) (aQ qs) 0) z.1:Nat):Int)/\Tr (A+1+1+1) I J v/\z.1<=O qs) (λz=>O qs-z.1) (0,χ,θ,0,0) ⟨ω,CG,El _ _ _,o5.as iA,t5,p6,EB _ _,Eo _ _,CH⟩ ?_;rintro⟨j,bC,aC,lC,cC⟩ t o F _ ⟨rfl,y7,Y7,R,a5,p7,i7,T7,hj⟩;(try dsimp only at y7 R a5 p7 i7 T7 hj);have ch:o V=_:=(Y7 V Z eU).trans cg;have be:o (3*n+2)=_:=(Y7 (3*n+2) Z eU).trans ce;have X7:Exo n h o:=⟨λc hc=>(Y7 c Z eU).trans (cp.go c hc)⟩;have b7:=c0.t T7;have ae:KZ (KE (O qs) (aQ qs) 0) j<BW:=T (Un hz hP hj);refine zG ?_;by_cases q7:(j:Int)<(O qs:Int);refine zG ?_;have G:j<O qs:=Z;obtain⟨q,gq⟩:∃q,qs[j]?=ξ q:=⟨_,CK G⟩;have⟨k8,o8,b8,a8,l8,c8,d8,e8,f8,u8,bu,m8,r8,t8,i8,j8⟩:=QS.at (iq.ext (n':=F) X7.go Z) gq;have sq:=hz q (CL gq);refine sI bu r8 ?_;refine sL t8 m8 0 ?_;refine sA λy p9 x9=>?_;refine zG ?_;refine sS [U b8,Y a8 l8 c8,U d8,Y e8 f8 u8] λZ0 cb ah=>?_;refine zG ?_;refine sC (zmi _ i8.t j8.t b7.t (yU sq.1 Z) (yU sq.z Z) (by rw[C4];exact T (kW hz hP))) ?_;rintro _ K ag⟨bo,bn,l11,bq,rfl,b6⟩ d0 cs;have bt:q.num*((deni (O qs) (aQ qs) 0:Nat):Int).tdiv (q.den:Int)=KE (O qs) (aQ qs) 0 j:=by unfold KE Nm;rw[NP gq]
 rw[bt]at b6;refine sI ω G ?_;have p:∀c,c<3*F->K c=o c:=λc hc=>(by have e0:o c=o c:=rfl;exact zp);have a1:=R.go FL (show Tr F o ag K from zt) (p _ R.1);refine OK (n0:=n) (j:=j) (q:=KE (O qs) (aQ qs) 0 j) [U bo,Y bn l11 bq] a1 FL (by rw[xE];exact G) (Dd _) ⟨_,_,_,_,ω,b6⟩ Z ?_;rw[pE G];intro a0 a3 aw cn;refine mN ?_;have ct:a0 H=_:=(aw.1 H Z).trans ((p H Z).trans p7);refine zH ?_;obtain⟨ab,⟨ao,am,au,ab,rfl,Z4⟩,_,cl⟩:=a3.get (xG G) (off:=0+j*2) (Dd _);rw[Cx (Fi _)]at Z4;refine dI ω G ?_;refine dL cl a3.1 0 ?_;have ak:Tr F o ag a0:=FT aw (show Tr F o ag K from zt);refine dC (gcdX _ ((g.ext X7.go Z).t ak) (i7.t ak) Z4 AR (T (cO hz hP G))) ?_;rintro _ bw bd⟨ay,ax,bb,az,rfl,bz⟩ bg aj;refine dS [U ay,Y ax bb az] λac cd a4=>?_;refine zG ?_;have bh:∀c,c<3*F->c≠m->c≠H->ac c=o c:=λc hc h1 h2=>(a4.1 c h2).trans ((aj c Z).trans ((aw.1 c h1).trans (p c hc)));have bk:Tr F o bd ac:=FT a4 (Tr.e aj bg ak);have b0:ac m=a0 m:=(a4.1 m Z).trans (aj m a3.1);exact sK (j+1,ay,ax,bb,az) ⟨ω,Z,λc hc hn=>(by
  simp only[Dk,CT,or_false,not_or]at hn;exact(bh c Z hn.1 hn.2).trans (Y7 c hc (by simp[hn]))),a3.go FL (show Tr ag a0 bd ac from FT a4 (Tr.e aj bg (Eo _ _))) b0,(by
   have⟨C,W⟩:=a5;have⟨C2,h2⟩:=cn _ ⟨C,(p _ R.1).trans W⟩;exact⟨C2,b0.trans h2⟩),cd,(bz.t (FT a4 (Eo _ _))).as (by show _=((C6 _ _:Nat):Int);rw[C4]),T7.trans bk,mp⟩
 have G:j=O qs:=Z;subst G;refine zG ?_;refine sC (yK _ i7) ?_;rintro _ Z1 n8⟨b8,rfl,bp⟩ y8 x8;obtain⟨rfl,q8⟩|⟨rfl,q8⟩:=Kg bp;have ar:¬KZ (KE (O qs) (aQ qs) 0) (O qs)=0:=λe=>q8 AL;have b4:Lm (O qs) (aQ qs) 0=KZ (KE (O qs) (aQ qs) 0) (O qs):=by grind [Lm,ML]
 rw[<-b4]at i7 ae;have b5:((Lm (O qs) (aQ qs) 0:Nat):Int)≠0:=by rw[b4];omega
 have X8:Exo n h Z1:=⟨λc hc=>(x8 c Z).trans (X7.go c hc)⟩;have ci:Z1 V=_:=(x8 V Z).trans ch;have av:Z1 (3*n+2)=_:=(x8 _ Z).trans be;have cj:Z1 H=_:=(x8 H Z).trans p7;have c1:=b7.t (show Tr F o n8 Z1 from zt);have c4:=i7.t (show Tr F o n8 Z1 from zt);refine zG ?_;refine sF (α:=Nat) (λz=>[(3,ι (3*n+2)),(4,ι V),(5,Y (ξ ⟨m,0,θ⟩) (O qs) (O qs)),(6,ι H),(40,Y (ξ ⟨m,0,θ⟩) (O qs) (O qs)),(41,CJ .i64 (O qs:Int)),(42,CJ .i64 (z:Int))]) (λz v J w'=>w'=[]/\n8<=J/\ExtB n8 [m] Z1 v/\OZ v J m (mixF (tT (O qs) (aQ qs) 0) (KE (O qs) (aQ qs) 0) z (O qs))/\KY v m 60/\Tr n8 Z1 J v/\z<=O qs) (λz=>O qs-z) 0 ⟨ω,CG,El _ _ _,(R.xx FL zx).as cW,(by have⟨C,W⟩:=a5;exact⟨C,(x8 _ R.1).trans W⟩),Eo _ _,CH⟩ ?_;rintro i t y Z3 _⟨rfl,y9,Y9,S,ai,T9,hi⟩;(try dsimp only at y9 S ai T9 hi);have X9:Exo n h y:=⟨λc hc=>(Y9 c Z eU).trans (X8.go c hc)⟩;have cw:y V=_:=(Y9 V Z eU).trans ci;have cf:y (3*n+2)=_:=(Y9 _ Z eU).trans av;have cx:y H=_:=(Y9 H Z eU).trans cj;have c3:=c1.t T9;have ba:=c4.t T9;refine zG ?_;by_cases q9:(i:Int)<(O qs:Int);have M:i<O qs:=Z;refine zG ?_;obtain⟨aa,⟨an,al,l10,aa,rfl,af⟩,_,ck⟩:=S.get (xG M) (off:=0+i*2) (Dd _);rw[Cs (Nat.lt_irrefl _)]at af;refine sI ω M ?_;refine sL ck S.1 0 ?_;refine sA λK cc cs=>?_;refine zG ?_;refine sS [U an,Y al l10 aa] λa0 cv a3=>?_;refine zG ?_;refine sC (quoX _ af.t ba.t (T (cO hz hP M)) AR b5) ?_;rintro _ ap bc⟨ao,am,au,ab,rfl,Z4⟩ d1 cy;(try dsimp only at Z4);refine sI ω M ?_;have a7:∀c,c<3*Z3->ap c=y c:=λc hc=>(by have e0:y c=y c:=rfl;exact zp);refine OK (n0:=n) (j:=i) (q:=tT (O qs) (aQ qs) 0 i) [U ao,Y am au ab] (S.go FL (show Tr Z3 y bc ap from zt) (a7 _ S.1)) FL (by rw[xE];exact M) (Dd _) ⟨_,_,_,_,ω,Z4⟩ Z ?_;rw[pE M];intro bw ca bf co;refine zG ?_;exact sK (i+1) ⟨ω,Z,λc hc hn=>(by
  simp only[Dk,CT,or_false]at hn;exact(bf.1 c hn).trans ((a7 c Z).trans (Y9 c hc (by simp[hn])))),ca,(by
  have⟨C,W⟩:=ai;exact co _ ⟨C,(a7 _ S.1).trans W⟩),T9.trans (FT bf zt),Aq⟩
 have M:i=O qs:=Z;subst M;refine zG ?_;refine sC (iL _ (g.ext X9.go Z) c3 ba (by rw[C4];exact T (kW hz hP)) AR b5) ?_;rintro _ Z0 c7⟨an,al,l10,aa,br,bs,bv,cm,rfl,af,c5⟩ cz cr;refine zG ?_;refine sS [U an,Y al l10 aa,U br,Y bs bv cm] λK cc a1=>?_;have p:∀c,c<3*Z3->c≠3*n+2->K c=y c:=λc hc hn=>(a1.1 c hn).trans (cr c hc);have bj:Tr Z3 y c7 K:=zt;have bm:Exo n h K:=⟨λc hc=>(p c Z Z).trans (X9.go c hc)⟩;refine zq ?_ (hx:=⟨Z,bm.go⟩);exact⟨m,_,_,_,_,_,_,_,_,_,_,ω,Z,gB,S.go FL bj (p m S.1 Z),(by have⟨C,W⟩:=ai;exact⟨C,(p m S.1 Z).trans W⟩),ScR.mk1 hz hP ar,af.t (FT a1 (Eo _ _)),c5.t (FT a1 (Eo _ _))⟩;have ar:KZ (KE (O qs) (aQ qs) 0) (O qs)=0:=ak4 q8;refine zG ?_;refine sC (Tv _ _ _) ?_;rintro _ y Z3⟨b9,a9,l9,c9,d9,e9,f9,u9,rfl,i9,j9⟩ y9 x9;have av:Z1 (3*n+2)=_:=(x8 _ Z).trans be;have cf:y (3*n+2)=_:=(x9 _ Z).trans av;refine zG ?_;refine sS [U b9,Y a9 l9 c9,U d9,Y e9 f9 u9] λZ0 cb ah=>?_;have a6:∀c,c<3*F->c≠3*n+2->Z0 c=o c:=λc hc hn=>(ah.1 c hn).trans ((x9 c Z).trans (x8 c hc));have bi:Tr F o Z3 Z0:=zt;have bl:Exo n h Z0:=⟨λc hc=>(a6 c Z Z).trans (X7.go c hc)⟩;refine zq ?_ (hx:=⟨Z,bl.go⟩);exact⟨m,_,_,_,_,_,_,_,_,_,_,ω,Z,gB,(R.go FL bi (a6 m R.1 Z)).as cW,(by have⟨C,W⟩:=a5;exact⟨C,(a6 m R.1 Z).trans W⟩),ScR.mk0 hz hP ar,i9.t (FT ah (Eo _ _)),j9.t (FT ah (Eo _ _))⟩
end
theorem Uo{b:List Rat}{f:Nat->Rat}{N w:Nat}{x:Rat}(h:∀v,v<N->b[v]?=ξ (f v))(e:O b=N):∀v,v<N->(b.set w x)[v]?=ξ (Ke f w x v):=by grind [hv,Ke]
def SolP.mv{n m:Nat}{d:Sol}{s:PS}(b:SolP n m d s){e:List Rat}{x:Nat->Rat}(f:O e=n+m)(h:∀v,v<n+m->e[v]?=ξ (x v)):SolP n m {d with va:=e} ⟨s.toPT,x⟩:=
 ⟨b.nl,b.nb,b.bl,b.ba,f,h,b.tl,b.ta,b.de,b.ll,b.lh,b.nm,b.ls,b.dn⟩
section
variable {B:Nat}{s:PS}{a:Nat->Nat->Int}
def Up(k:Nat)(g:GG h n0)(N:SM l h n0 bs d A)(F:SolP n m d s)(pb:PB n m a L s.toPT)(sz:SzP n m V T Z1 B d s)(lm:Lim V T Z1 D B)(hc:c<n){r:Rat}{b1 d1:Bool}{a1 e1:Option Addr}{l1 c1 f1 u1:Nat}(i1:IW h n0 b1 a1 l1 c1 r.num)(j1:IW h n0 d1 e1 f1 u1 (denZ r))(sr:Sz D r):
  CF (Ka (k+12)) 50 [ι bs,CJ .i64 (c:Int),.agg #[U b1,Y a1 l1 c1,U d1,Y e1 f1 u1]] h n0 λ_ P u w=>n0<=u/\∃f,O f=n+m/\(∀v,v<n+m->f[v]?=ξ (Kq s c r m v))/\SM l P u bs {d with va:=f} A/\Tr n0 h u P/\(∀b,b<3*n0->¬BkOf (Y A.va (O d.va) (O d.va)) b->P b=h b)/\(∀c∈w,3*l<=c)/\(r=0\/∀b,BkOf (Y A.va (O d.va) (O d.va)) b->b∈w):=by
 have⟨b0,a0,u0,c0,ty,st,i0⟩:=N.st;have ax:=N.bs.1;have ck:=F.nm;have:=lm.l1;have:=lm.l2;have vl:=F.vl;have bl:=F.bl;have gc:=F.nb c hc;have aa:=pb.nv c hc;have gx:=F.va _ aa;have sx:=sz.va _ aa;have⟨k4,o4,e4,m4,r4,t4⟩:=natS.at N.nb.rs gc;have⟨k2,o2,b2,a2,l2,c2,d2,e2,f2,g2,ev,mv,rv,tv,iv,jv⟩:=QS.at N.va.rs gx;refine Lu R4<|zG ?_;refine sB [U b1,Y a1 l1 c1,U d1,Y e1 f1 u1] λh1 p1 x1=>?_;refine zG ?_;refine sC (kD _ i1.x j1.x) ?_;rintro _ h3 n3⟨b3,rfl,an⟩ y3 x3;obtain⟨rfl,q3⟩|⟨rfl,q3⟩:=Kg an;have⟨bv,p,gv,lv,ov,bi⟩:=N.va.or ω (show O d.va≠0 from Z);injection p with p;refine zG ?_;refine sI e4 r4 ?_;refine sL t4 m4 0 ?_;refine kh ?_;refine dI ev rv ?_;refine dL tv mv 0 ?_;refine zH ?_;refine dC (addQ _ g.x iv.x jv.x i1.x j1.x sx sr Z) ?_;rintro _ h5 Z4⟨b5,a5,l5,c5,d5,e5,f5,u5,rfl,i5,j5⟩ y5 x5;have K:Exo n0 h h5:=⟨(show Tx n0 h Z4 h5 from zx).2⟩;have ae:h5 (3*n0+2)=_:=(zp:h5 (3*n0+2)=_);have cl:=i1.ext (n':=Z4) K.go Z;have cm:=j1.ext (n':=Z4) K.go Z;refine dI p Z ?_;refine dZ [U b5,Y a5 l5 c5,U d5,Y e5 f5 u5] (ov.ext Ei K.go Z) Ei Z (Dd _) ⟨_,_,_,_,_,_,_,_,ω,i5,j5⟩ λh6 o6 Z3 T6=>?_;have s6:=(N.ext (n':=Z4) K.go Z).mv p Z3 (DT ..) (o6.gr Ei (T6 _ (by
  have⟨C,hC⟩:=bi;exact⟨C,(K.go _ ov.1).trans hC⟩)) gv lv ω |> λq=>by rw[p];exact q)
 have az:bv∈addW n0 [bv] []:=wQ ov.1 eF;have ak:Tr n0 h Z4 h6:=FT Z3 ⟨Z,λc hc=>.inl (K.go c hc)⟩;have ai:∀b,b<3*n0->¬BkOf (Y A.va (O d.va) (O d.va)) b->h6 b=h b:=λb hb hn=>(Z3.1 b (λe=>hn ⟨0,O d.va,O d.va,by rw[p,e]⟩)).trans (K.go b hb);have cs:h6 bs=_:=(Z3.1 bs (λe=>by have:=N.bs.2;rw[e,gv]at this;cases this)).trans ((K.go bs ax).trans st);have bg:h6 (3*n0+2)=_:=(Z3.1 (3*n0+2) (λe=>by have:=zB n0;rw[e,gv]at this;cases this)).trans ae;have b6:=Uo (w:=s.nb c) (x:=s.x (s.nb c)+r) F.va vl;refine zG ?_;refine sF (α:=Nat×List Rat) (λz=>[(0,ι bs),(1,CJ .i64 (c:Int)),(5,ι (3*n0+2)),(36,Y A.ba (O d.ba) (O d.ba)),(37,CJ .i64 (O d.ba:Int)),(38,CJ .i64 (z.1:Int))]) (λz P u w'=>Z4<=u/\SM l P u bs {d with va:=z.2} A/\O z.2=n+m/\(∀v,v<n+m->z.2[v]?=ξ (Kq s c r z.1 v))/\Tr n0 h u P/\(∀b,b<3*n0->¬BkOf (Y A.va (O d.va) (O d.va)) b->P b=h b)/\P (3*n0+2)=ξ (.row [U b1,Y a1 l1 c1,U d1,Y e1 f1 u1] 66)/\bv∈w'/\(∀c∈w',3*l<=c)/\z.1<=m) (λz=>m-z.1) (0,d.va.set (s.nb c) (s.x (s.nb c)+r)) ⟨CG,s6,by rw[DT];exact vl,b6,ak,ai,bg,az,yL (λc hc=>by rw[C0.1 hc];exact lv) (λc hc=>BO hc CT),CH⟩ ?_;rintro⟨j,f⟩ t Z0 n7 w7 ⟨y7,y,S,R,J,K7,p7,M,ab,hj⟩;(try dsimp only at y7 y S R J K7 p7 hj);have⟨b8,a8,u8,c8,cu,ct,i8⟩:=y.st;have cj:=y.bs.1;refine zG ?_;by_cases q7:(j:Int)<(O d.ba:Int);refine zG ?_;have I:j<m:=Z;have gw:=F.ba j I;have ac:=pb.bv j I;have aw:=R _ ac;have ex:Kq s c r j (s.bs j)=s.x (s.bs j):=oI (λq=>pb.dis c j hc I q.symm) λi hi q=>by have:=pb.jnj j i I Z q;omega
 have af:=sz.va _ ac;rw[<-ex]at af;have⟨r0,g0,_,au⟩:=F.ta j Z;have hT:=sz.tT j I c hc;have hd:=sz.dd;have ay:=pb.tab.dp;have a7:=F.de;have⟨k9,o9,e9,m9,r9,t9⟩:=natS.at y.ba.rs gw;refine sI e9 r9 ?_;refine sL t9 m9 0 ?_;have⟨cn,cr,br,bo,l10,bx,c4,c9,cc,cf,ew,mw,ah,tw,iw,jw⟩:=QS.at y.va.rs aw;have⟨bw,H,av,be,ow,bj⟩:=y.va.or ω (show O f≠0 from Z);injection H with H;obtain rfl:bw=bv:=by have e:=H.symm.trans p;cases e;rfl
 refine kh ?_;refine dI ew ah ?_;refine dL tw mw 0 ?_;refine zH ?_;refine dC (Nl _ (g.t J) y g0 (au c hc) (yU hT Z) (by show d.den.natAbs<BW;rw[a7];exact yU hd Z) aD) ?_;rintro _ cg cp⟨bt,bp,l11,bz,c6,ca,cd,cv,rfl,a3,a4⟩ bn bm;have sc:Sz T (DK (s.T j c) s.d):=xz ay hT hd;rw[show({d with va:=f}:Sol).den=s.d from a7]at a3 a4;rw[EE]at a3 a4 sc;refine zH ?_;refine dC (mulQ _ (g.t (J.e bm bn)) a3 a4 ((i1.t J).x zx) ((j1.t J).x zx) sc sr Z) ?_;rintro _ ch cq⟨bu,bq,co,c3,c7,cb,ce,cw,rfl,b7,bb⟩ cz cx;refine dC (addQ _ ((g.t J).x zx) iw.x jw.x b7 bb af (sc.mul sr) Z) ?_;rintro _ a6 ad⟨am,al,bd,ao,ap,aq,ar,bk,rfl,b9,bc⟩ d0 cy;have G:Exo n7 Z0 a6:=⟨(show Tx n7 Z0 ad a6 from zx).2⟩;refine dI H Z ?_;refine dZ [U am,Y al bd ao,U ap,Y aq ar bk] (ow.ext Ei G.go Z) Ei Z (Dd _) ⟨_,_,_,_,_,_,_,_,ω,b9,bc⟩ λci bf W aj=>?_;have bh:=(y.ext (n':=ad) G.go Z).mv H W (DT ..) (bf.gr Ei (aj _ (by
  have⟨C,hC⟩:=bj;exact⟨C,(G.go _ ow.1).trans hC⟩)) av be ω |> λq=>by rw[H];exact q)
 have ag:=Uo (w:=s.bs j) (x:=Kq s c r j (s.bs j)+(s.T j c:Rat)/s.d*r) R S;refine zJ ?_;exact sK (j+1,f.set (s.bs j) (Kq s c r j (s.bs j)+(s.T j c:Rat)/s.d*r)) ⟨Z,bh,by show(f.set _ _).length=_;rw[DT];exact S,ag,FT W (J.trans ⟨Z,λc hc=>.inl (G.go c hc)⟩),λb hb hn=>(W.1 b (λe=>hn ⟨0,O d.va,O d.va,by rw[p,e]⟩)).trans ((G.go b Z).trans (K7 b hb hn)),(W.1 (3*n0+2) (λe=>by have:=zB n0;rw[e,gv]at this;cases this)).trans ((G.go _ Z).trans p7),nM _ _ _ M,yL (λc hc=>by rw[C0.1 hc];exact lv) ab,I⟩;have b4:j=m:=Z;subst b4;refine zG ?_;refine⟨ω,[],ω,⟨Z,f,S,R,y,J,K7,ab,.inr λb hb=>by
  have⟨o,l',c',e⟩:=hb;rw[p]at e;injection e with e;injection e with e;injection e with e;exact e▸M⟩,λhw=>by rw[show w7=[]from hw]at M;cases M⟩
 subst q3;have X3:Exo n0 h h3:=⟨(show Tx n0 h n3 h3 from zx).2⟩;have y3:n0+1<=n3:=y3;have a9:∀v,v<n+m->d.va[v]?=ξ (Kq s c 0 m v):=λv hv=>by rw[mvx0];exact F.va v hv
 refine zG ?_;exact⟨ω,[],ω,⟨Z,d.va,vl,a9,N.ext X3.go Z,⟨Z,λc hc=>.inl (X3.go c hc)⟩,λb hb _=>X3.go b hb,λc hc=>BO hc CT,.inl AP⟩,λ_=>⟨CG,d.va,vl,a9,N,Eo _ _,A0,λc hc=>BO hc CT,.inl AP⟩⟩
end
section
variable {a:Nat}
def absX(k:Nat){x:Int}(d:IW h n sx ax lx cx x):CX (Ka (k+1)) 126 [.agg #[U sx,Y ax lx cx]] h n (IV (x.natAbs:Int)):=by refine zw R4<|zG ?_;refine sB [U sx,Y ax lx cx] λh1 i o=>?_;refine sA λe j p=>?_;refine zG ?_;refine sT #[U χ,Y ax lx cx] ?_;refine sS [U χ,Y ax lx cx] λf l g=>?_;refine zq ?_;exact⟨_,_,_,_,ω,⟨(Ae Z).symm,d.t.2⟩⟩
theorem OP(x:Rat):(ab x).num=(x.num.natAbs:Int)/\(ab x).den=x.den:=by grind [ab,FM,E0.2,Hm,Rat.neg_den,FK.1]
def zr4(k:Nat){x:Rat}(j:IW h n sx ax lx cx x.num)(l:IW h n dx ex fx gx (denZ x)):CX (Ka (k+2)) 97 [.agg #[U sx,Y ax lx cx,U dx,Y ex fx gx]] h n (QV (ab x)):=by refine zw R4<|zG ?_;refine sB [U sx,Y ax lx cx,U dx,Y ex fx gx] λh1 v A=>?_;refine sA λh2 w B=>?_;refine kh ?_;refine dC (absX _ j.x) ?_;rintro _ o q⟨e,d,g,f,rfl,i⟩ D C;refine zH ?_;refine dT #[U e,Y d g f,U dx,Y ex fx gx] ?_;refine dS [U e,Y d g f,U dx,Y ex fx gx] λp y u=>?_;refine zq ?_;exact⟨_,_,_,_,_,_,_,_,ω,i.t.as (OP x).1.symm,l.t.as (by unfold denZ;rw[(OP x).2])⟩
def Sz.ab{x:Rat}(h:Sz a x):Sz a (ab x):=⟨by rw[(OP x).1];have:=h.1;omega,by rw[(OP x).2];exact h.2⟩
def Sz.subT{x y:Rat}(hx:Sz a x)(d:Sz b y):Sz (a+b+1) (x-y):=by rw[Rat.sub_eq_add_neg];exact hx.add d.neg
def cJ{f g:List (Bool×Rat)}{v:Nat}{x:Rat}{p q:Bool×Rat}{up:Bool}(d:f[v]?=ξ p)(e:g[v]?=ξ q):rm (Kd f) (Kd g) v x up=if(qd x p q up).1 then ξ (qd x p q up).2 else θ:=by have⟨i,l⟩:=p;have⟨j,o⟩:=q;unfold rm qd;cases up;rw[Cs Ep,Cs Ep];cases i;rw[pj d];rfl;rw[xI d];rfl;rw[Cx ω,Cx rfl];cases j;rw[pj e];rfl;rw[xI e];rfl
section
variable {k:Nat}{lo hi:Nat->Option Rat}{s:PS}{up:Bool}
def cndK(m k:Nat)(lo hi:Nat->Option Rat)(s:PS)(c:Nat)(up:Bool)(r:Option Nat)(ρ:Rat):Prop:=Lc m lo hi s c up r ρ/\∀i,r=ξ i->i<k
def Ln(m:Nat)(lo hi:Nat->Option Rat)(s:PS)(c:Nat)(up:Bool)(k:Nat)(b:Int)(f:Nat)(fd:Bool)(ρ:Rat):Prop:=
 (fd=χ/\∀r ρ',¬cndK m k lo hi s c up r ρ')\/(fd=φ/\∃r,cndK m k lo hi s c up r ρ/\(r=θ/\b= -1\/∃i:Nat,r=ξ i/\b=(i:Int))/\f=OL s c r/\∀r' ρ',cndK m k lo hi s c up r' ρ'->ρ<ρ'\/ρ=ρ'/\f<=OL s c r')
def cndK.inc{r:Option Nat}{ρ:Rat}(h:cndK m k lo hi s c up r ρ):cndK m (k+1) lo hi s c up r ρ:=⟨h.1,λi e=>by have:=h.2 i e;omega⟩
def cndK.dn{r:Option Nat}{ρ:Rat}(h:cndK m (k+1) lo hi s c up r ρ):cndK m k lo hi s c up r ρ\/r=ξ k:=by
 by_cases e:r=ξ k;exact .inr e;exact .inl ⟨h.1,λi d=>by
  have:=h.2 i d;have:i≠k:=λf=>e (by rw[d,f]);omega⟩
def Ln.no{b:Int}{f:Nat}{j:Bool}{ρ:Rat}(h:Ln m lo hi s c up k b f j ρ)(v:∀d,¬Lc m lo hi s c up (ξ k) d):Ln m lo hi s c up (k+1) b f j ρ:=by have l:∀{r d},cndK m (k+1) lo hi s c up r d->cndK m k lo hi s c up r d:=λ{r d} q=>q.dn.resolve_right λe=>v d (e▸q.1);obtain⟨g,i⟩|⟨g,r,i,o,p,u⟩:=h;exact .inl ⟨g,λr d q=>i r d (l q)⟩;exact .inr ⟨g,r,i.inc,o,p,λw d q=>u w d (l q)⟩
def Qs{r:Option Nat}{ρ e:Rat}(h:Lc m lo hi s c up r ρ)(h':Lc m lo hi s c up r e):ρ=e:=by
 cases r with
 |none=>exact Ej (Eq.trans (Eq.symm h) h')
 |some i=>
  obtain⟨_,_,g,f,rfl⟩:=h;obtain⟨_,_,j,d,rfl⟩:=h';rw[f]at d;cases d;rfl
def Ln.take{b:Int}{f:Nat}{l:Bool}{ρ j:Rat}(h:Ln m lo hi s c up k b f l ρ)(u:Lc m lo hi s c up (ξ k) j)(g:l=χ\/j<ρ\/j=ρ/\s.bs k<f):Ln m lo hi s c up (k+1) (k:Int) (s.bs k) φ j:=by refine .inr ⟨ω,ξ k,⟨u,λi e=>by cases e;omega⟩,.inr ⟨k,ω,ω⟩,ω,λw y q=>?_⟩;obtain v|rfl:=q.dn;obtain⟨o,p⟩|⟨o,r,p,B,C,A⟩:=h;exact BO v (p w y);have d:=A w y v;obtain g|g|⟨g,F⟩:=g;rw[o]at g;cases g;obtain d|⟨d,_⟩:=d;exact .inl aD;exact .inl aD;obtain d|⟨d,D⟩:=d;exact .inl (by rw[g];exact d);exact .inr ⟨g.trans d,Z⟩;exact .inr ⟨Qs u q.1,CG⟩
def Ln.keep{b:Int}{f:Nat}{e:Bool}{ρ g:Rat}(h:Ln m lo hi s c up k b f e ρ)(u:Lc m lo hi s c up (ξ k) g)(v:e=φ)(i:ρ<g\/ρ=g/\f<=s.bs k):Ln m lo hi s c up (k+1) b f e ρ:=by obtain⟨d,_⟩|⟨d,r,j,l,o,p⟩:=h;rw[v]at d;cases d;refine .inr ⟨d,r,j.inc,l,o,λw y q=>?_⟩;obtain q|rfl:=q.dn;exact p w y q;rw[<-Qs u q.1];exact i
def Ln.start{f:Bool}{ρ:Rat}(h:rm lo hi (s.nb c) (s.x (s.nb c)) up=if f then ξ ρ else θ):Ln m lo hi s c up 0 (-1) (s.nb c) f ρ:=by
 have g:∀{r d},cndK m 0 lo hi s c up r d->r=θ:=λ{r d} q=>by
  cases r with
  |none=>rfl
  |some i=>have:=q.2 i rfl;omega
 cases f with
 |false=>
  refine .inl ⟨ω,λr d q=>?_⟩;obtain rfl:=g q;have q:rm lo hi (s.nb c) (s.x (s.nb c)) up=ξ d:=q.1;rw[h]at q;cases q
 |true=>
  refine .inr ⟨ω,θ,⟨h,λi e=>by cases e⟩,.inl ⟨ω,ω⟩,ω,λj d q=>?_⟩;obtain rfl:=g q;exact .inr ⟨Qs (r:=θ) h q.1,CG⟩
end
end
def KD(up:Bool):Int:=if up then 1 else -1
theorem zr5{x y k:Rat}(b:k≠0)(h:x=y\/x= -y):x/ab k=y/k\/x/ab k= -(y/k):=by grind [ab,only]
def zmg(b c:Bool): -9223372036854775808<=KD b*KD c/\KD b*KD c<9223372036854775808:=by cases b<;>cases c<;>decide
def zmh(b c:Bool):(c==b)=φ↔0<KD b*KD c:=by cases b<;>cases c<;>decide
theorem zmd{t:Int}{d:Int}{s:Int}(g:0<(d:Rat))(f:¬(t:Rat)/d=0)(h:s= -1/\((t:Rat)/d).num<0\/s=0/\((t:Rat)/d).num=0\/s=1/\0<((t:Rat)/d).num):s=KD (decide (0<t)):=by
 have i:=EU (a:=(t:Rat)) (show(d:Rat)≠0 by grind);generalize (t:Rat)/d=q at*;obtain⟨rfl,h⟩|⟨rfl,h⟩|⟨rfl,h⟩:=h;have e:q<0:=E0.1 λe=>by have:=(FM).2 e;omega
 have b:¬0<t:=λb=>(by have j:(0:Rat)<t:=FO.2 b;have:=Fy (show 0< -q by grind) g;grind);rw[Ae b];rfl;exact BO (Fs.1 h) f;have e:0<q:=E0.1 λe=>by
  have:=mt (FM (q:= -q)).1;have b:0<= -q:=by grind
  have:=(FM).2 b;rw[Hm]at this;omega
 have b:0<t:=FO.1 (by grind [Fy]);rw[BJ b];rfl
section
variable {B:Nat}{s:PS}{a:Nat->Nat->Int}{up:Bool}
def zia(k:Nat)(g:GG h n0)(sm:SM l h n0 bs d A)(H:SolP n m d s)(pb:PB n m a L s.toPT)(sz:SzP n m V T Z1 B d s)(lm:Lim V T Z1 D B)(hc:c<n)(hD:∀i,i<m->s.T i c≠0->∀q,(Kd d.lo (s.bs i)=ξ q\/Kd d.hi (s.bs i)=ξ q)->Sz D ((q-s.x (s.bs i))/((s.T i c:Rat)/s.d))):
  CX (Ka (k+13)) 53 [ι bs,CJ .i64 (c:Int),CJ .i64 (KD up)] h n0 λw I J=>∃b f ρ b1 a1 l1 c1 d1 e1 f1 g1 F,w=.tuple #[CJ .i64 b,.agg #[U b1,Y a1 l1 c1,U d1,Y e1 f1 g1],U F]/\IW I J b1 a1 l1 c1 ρ.num/\IW I J d1 e1 f1 g1 (denZ ρ)/\Ln m (Kd d.lo) (Kd d.hi) s c up m b f F ρ/\Sz D ρ:=by
 have⟨b0,a0,u0,c0,ty,st,i0⟩:=sm.st;have bg:=sm.bs.1;have cj:=H.nm;have:=lm.l1;have:=lm.l2;have:=lm.l3;have vl:=H.vl;have bl:=H.bl;have ll:=H.ll;have lh:=H.lh;have gc:=H.nb c hc;have ar:=pb.nv c hc;have gx:=H.va _ ar;have bo:up=φ↔0<KD up:=by cases up<;>decide
 obtain⟨pl,R⟩:∃x,d.lo[s.nb c]?=ξ x:=⟨_,CK Z⟩;obtain⟨ph,P⟩:∃x,d.hi[s.nb c]?=ξ x:=⟨_,CK Z⟩;have al:=sz.va _ ar;have N:=sz.lo _ (CL R);have M:=sz.hi _ (CL P);have G:=cJ (x:=s.x (s.nb c)) (up:=up) R P;have bm:Sz D (qd (s.x (s.nb c)) pl ph up).2:=(by unfold qd;split;exact(Sz.subT M al).mono Z;exact(Sz.subT al N).mono Z);have⟨k4,o4,e4,m4,r4,t4⟩:=natS.at sm.nb.rs gc;refine zw R4<|Za λh1 p1 x1=>?_;refine zG ?_;refine sI e4 r4 ?_;refine sL t4 m4 0 ?_;refine zG ?_;refine sC (TK _ g.x sm.x gx R P al N M Z bo) ?_;rintro _ h2 p⟨b2,a2,l2,c2,d2,e2,f2,g2,rfl,i2,j2⟩ y2 x2;generalize hρ:(qd (s.x (s.nb c)) pl ph up).2=ρ0 at*;generalize hfd:(qd (s.x (s.nb c)) pl ph up).1=fd0 at*;refine Za λh3 p3 x3=>?_;refine sS [U b2,Y a2 l2 c2,U d2,Y e2 f2 g2] λo p4 o4=>?_;have X4:Exo n0 h o:=⟨(show Tx n0 h (p+1) o from zx).2⟩;have T4:Tr n0 h (p+1) o:=zt;have i4:=i2.t (zt:Tr p h2 (p+1) o);have j4:=j2.t (zt:Tr p h2 (p+1) o);have cs:o (3*n0+2)=_:=(zp:o (3*n0+2)=_);have y2:n0+1<=p:=y2;have cy:o bs=_:=(X4.go bs bg).trans st;refine zG ?_;refine sF (α:=Nat×Int×Nat×Bool×Rat×Bool×Option Addr×Nat×Nat×Bool×Option Addr×Nat×Nat) (λz=>[(0,ι bs),(1,CJ .i64 (c:Int)),(2,CJ .i64 (KD up)),(7,ι (3*n0+2)),(9,CJ .i64 (z.2.2.1:Int)),(10,ι (3*p+2)),(11,U z.2.2.2.1),(12,CJ .i64 z.2.1),(36,Y A.ba (O d.ba) (O d.ba)),(37,CJ .i64 (O d.ba:Int)),(38,CJ .i64 (z.1:Int))]) (λz I J w'=>w'=[]/\p+1<=J/\ExtB (p+1) [3*p+2] o I/\I (3*p+2)=ξ (.row [U z.2.2.2.2.2.1,Y z.2.2.2.2.2.2.1 z.2.2.2.2.2.2.2.1 z.2.2.2.2.2.2.2.2.1,U z.2.2.2.2.2.2.2.2.2.1,Y z.2.2.2.2.2.2.2.2.2.2.1 z.2.2.2.2.2.2.2.2.2.2.2.1 z.2.2.2.2.2.2.2.2.2.2.2.2] 66)/\IW I J z.2.2.2.2.2.1 z.2.2.2.2.2.2.1 z.2.2.2.2.2.2.2.1 z.2.2.2.2.2.2.2.2.1 z.2.2.2.2.1.num/\IW I J z.2.2.2.2.2.2.2.2.2.1 z.2.2.2.2.2.2.2.2.2.2.1 z.2.2.2.2.2.2.2.2.2.2.2.1 z.2.2.2.2.2.2.2.2.2.2.2.2 (denZ z.2.2.2.2.1)/\Ln m (Kd d.lo) (Kd d.hi) s c up z.1 z.2.1 z.2.2.1 z.2.2.2.1 z.2.2.2.2.1/\Sz D z.2.2.2.2.1/\z.1<=m) (λz=>m-z.1) (0,-1,s.nb c,fd0,ρ0,b2,a2,l2,c2,d2,e2,f2,g2) ⟨ω,CG,El _ _ _,p4,i4,j4,.start G,bm,CH⟩ ?_;rintro⟨j,b,f,F,ρ,bS,aS,lS,kS,uS,vS,wS,xS⟩ t h5 n5 _ ⟨rfl,y5,Y5,p5,W,Z3,hv,S,hj⟩;dsimp only at p5 W Z3 hv S hj y5;have X5:Exo n0 h h5:=⟨λc hc=>(Y5 c Z (λe=>by have:=C0.1 e;omega)).trans (X4.go c hc)⟩;have s5:=sm.ext (n':=n5) X5.go Z;have g5:=g.ext X5.go (by omega:n0<=n5);refine zG ?_;by_cases q5:(j:Int)<(O d.ba:Int);refine zG ?_;have v:j<m:=Z;have gw:=H.ba j v;have au:=pb.bv j v;have bf:=H.va _ au;have ak:=sz.va _ au;have⟨r0,g0,_,bd⟩:=H.ta j Z;have hT:=sz.tT j v c hc;have hd:=sz.dd;have bh:=pb.tab.dp;have af:=H.de;have⟨k9,o9,e9,m9,r9,t9⟩:=natS.at s5.ba.rs gw;refine sI e9 r9 ?_;refine sL t9 m9 0 ?_;refine zG ?_;refine sC (Nl _ g5 s5 g0 (bd c hc) (yU hT Z) (by rw[af];exact yU hd Z) (by rw[af];omega)) ?_;rintro _ h6 n6⟨b6,a6,l6,c6,d6,e6,f6,g6,rfl,i6,j6⟩ y6 x6;have sc:Sz T (DK (s.T j c) s.d):=xz bh hT hd;rw[af]at i6 j6;rw[EE]at i6 j6 sc;refine Za λh7 p7 x7=>?_;refine zG ?_;refine sS [U b6,Y a6 l6 c6,U d6,Y e6 f6 g6] λh8 p8 o8=>?_;refine zG ?_;refine sC (kD _ i6.t j6.t) ?_;rintro _ h9 n9⟨b9,rfl,b5⟩ y9 x9;obtain⟨rfl,q9⟩|⟨rfl,q9⟩:=Kg b5;refine zG ?_;refine sC (fD _ i6.t j6.t) ?_;rintro _ ce cl⟨c5,rfl,c3⟩ d8 cz;have ag:c5=KD (decide (0<s.T j c)):=zmd pb.dpos q9 c3;obtain⟨pl,R⟩:∃x,d.lo[s.bs j]?=ξ x:=⟨_,CK Z⟩;obtain⟨ph,P⟩:∃x,d.hi[s.bs j]?=ξ x:=⟨_,CK Z⟩;have N:=sz.lo _ (CL R);have M:=sz.hi _ (CL P);refine zG ?_;refine st_mul ω ω ω ω ω ω (by rw[ag];exact zmg _ _) ?_;subst ag;refine sC (TK _ g5.x s5.x bf R P ak N M Z (zmh _ _)) ?_;rintro _ an y⟨b4,b3,l11,b7,b8,bb,bc,be,rfl,ah,ai⟩ d9 d0;have G:=cJ (x:=s.x (s.bs j)) (up:=(up==decide (0<s.T j c))) R P;generalize hρ:(qd (s.x (s.bs j)) pl ph (up==decide (0<s.T j c))).2=ρ1 at*;generalize hfd:(qd (s.x (s.bs j)) pl ph (up==decide (0<s.T j c))).1=fd1 at*;refine Za λcf cq d3=>?_;refine zG ?_;refine sS [U b4,Y b3 l11 b7,U b8,Y bb bc be] λad cr cn=>?_;refine zG ?_;cases fd1;refine zG ?_;exact sK (j+1,b,f,F,ρ,bS,aS,lS,kS,uS,vS,wS,xS) ⟨ω,Z,zy,zp,W.t zt,Z3.t zt,hv.no (λρ' hq=>by
  have⟨_,_,g',h1,_⟩:=hq;rw[G]at h1;cases h1),S,v⟩
 have Z4:s.T j c≠0:=λe=>q9 (by rw[e];exact pO _);have ay:=(pb.sgn (t:=s.T j c)).2.1 Z4;obtain⟨ap,aq,bn⟩:Lc m (Kd d.lo) (Kd d.hi) s c up (ξ j) (ρ1/ab ((s.T j c:Rat)/s.d))/\Sz D (ρ1/ab ((s.T j c:Rat)/s.d))/\Sz D ρ1:=(by have hb:∃q,(Kd d.lo (s.bs j)=ξ q\/Kd d.hi (s.bs j)=ξ q)/\(ρ1=q-s.x (s.bs j)\/ρ1= -(q-s.x (s.bs j))):=(by generalize (up==decide (0<s.T j c))=u at G;cases u;exact⟨_,.inl (NO G),.inr aD⟩;exact⟨_,.inr (NN G),.inl aD⟩);have⟨q,bj,bk⟩:=hb;have h1:=hD j v Z4 q bj;have h0:Sz D ρ1:=(by rw[<-hρ];unfold qd;split;exact(Sz.subT M ak).mono Z;exact(Sz.subT ak N).mono Z);refine⟨⟨v,Z4,ρ1,G,ω⟩,?_,h0⟩;have o:ρ1/ab ((s.T j c:Rat)/s.d)=(q-s.x (s.bs j))/((s.T j c:Rat)/s.d)\/ρ1/ab ((s.T j c:Rat)/s.d)= -((q-s.x (s.bs j))/((s.T j c:Rat)/s.d)):=zr5 ay bk;obtain o|o:=o;rw[o];exact h1;rw[o];exact h1.neg);have az:Tr n5 h5 (y+1) ad:=zt;have ah:=ah.t (zt:Tr y an (y+1) ad);have ai:=ai.t (zt:Tr y an (y+1) ad);refine kh ?_;refine dC (zr4 _ i6.t j6.t) ?_;rintro _ cg cm⟨c8,c7,ck,c9,ca,cb,cc,cd,rfl,bp,bt⟩ da d4;refine dC (divQ _ ((g5.t az).x zx) ah.t ai.t bp bt bn sc.ab Z) ?_;rintro _ ae K⟨a5,a4,aj,a7,a8,a9,aa,ac,rfl,av,aw⟩ db d5;refine dS [U a5,Y a4 aj a7,U a8,Y a9 aa ac] λao ct co=>?_;have bq:=av.t (zt:Tr K ae K ao);have bu:=aw.t (zt:Tr K ae K ao);refine zJ ?_;refine sC (xp _ bq bu W.t Z3.t aq S Z).cx ?_;rintro _ Z0 ax⟨cw,rfl,C⟩ dc d7;generalize hr1:ρ1/ab ((s.T j c:Rat)/s.d)=ρ2 at*;have am:Tr K ae ax Z0:=zt;have cu:Z0 (3*y+2)=_:=(zp:Z0 (3*y+2)=_);have br:=av.t am;have bw:=aw.t am;refine zM ?_;simp only[yu,xg,zK,yY];refine yj (λz=>[(0,ι bs),(1,CJ .i64 (c:Int)),(2,CJ .i64 (KD up)),(7,ι (3*n0+2)),(9,CJ .i64 (f:Int)),(10,ι (3*p+2)),(11,U F),(12,CJ .i64 b),(13,CJ .i64 (j:Int)),(14,CJ .i64 (s.bs j:Int)),(16,ι (3*y+2)),(36,Y A.ba (O d.ba) (O d.ba)),(37,CJ .i64 (O d.ba:Int)),(38,CJ .i64 (j:Int)),(82,U z)]) (λz I J w'=>w'=[]/\Z0=I/\ax=J/\(z=φ/\(F=χ\/ρ2<ρ\/ρ2=ρ/\s.bs j<f)\/z=χ/\F=φ/\(ρ<ρ2\/ρ=ρ2/\f<=s.bs j))) ?_ ?_;cases F;refine zG ?_;exact zA φ (by(repeat (first|exact trivial|refine⟨ω,?_⟩))) ⟨ω,ω,ω,.inl ⟨ω,.inl AP⟩⟩;obtain⟨rfl,C⟩|⟨rfl,C⟩|⟨rfl,C⟩:=C;refine zG ?_;exact zA φ (by(repeat (first|exact trivial|refine⟨ω,?_⟩))) ⟨ω,ω,ω,.inl ⟨ω,.inr (.inl C)⟩⟩;by_cases a3:(s.bs j:Int)<(f:Int);refine zG ?_;exact zA φ (by(repeat (first|exact trivial|refine⟨ω,?_⟩))) ⟨ω,ω,ω,.inl ⟨ω,.inr (.inr ⟨C,Z⟩)⟩⟩;refine zG ?_;exact zA χ (by(repeat (first|exact trivial|refine⟨ω,?_⟩))) ⟨ω,ω,ω,.inr ⟨ω,AP,.inr ⟨C.symm,Z⟩⟩⟩;refine zG ?_;exact zA χ (by(repeat (first|exact trivial|refine⟨ω,?_⟩))) ⟨ω,ω,ω,.inr ⟨ω,AP,.inl C⟩⟩;rintro z t _ _ _⟨rfl,rfl,rfl,⟨rfl,a3⟩|⟨rfl,a3,c4⟩⟩;refine kh ?_;refine dS [U a5,Y a4 aj a7,U a8,Y a9 aa ac] λch bz cp=>?_;refine zJ ?_;exact sK (j+1,(j:Int),s.bs j,φ,ρ2,a5,a4,aj,a7,a8,a9,aa,ac) ⟨ω,Z,zy,bz,br.t zt,bw.t zt,hv.take ap a3,aq,v⟩;refine zG ?_;exact sK (j+1,b,f,F,ρ,bS,aS,lS,kS,uS,vS,wS,xS) ⟨ω,Z,zy,zp,W.t zt,Z3.t zt,hv.keep ap a3 c4,S,v⟩;refine zG ?_;exact sK (j+1,b,f,F,ρ,bS,aS,lS,kS,uS,vS,wS,xS) ⟨ω,Z,zy,zp,W.t zt,Z3.t zt,hv.no λρ' hq=>(pb.sgn (t:=s.T j c)).2.1 hq.2.1 q9,S,v⟩;have bi:j=m:=Z;subst bi;refine kh ?_;refine dS [U bS,Y aS lS kS,U uS,Y vS wS xS] λci cv bx=>?_;refine zq ?_ (hx:=⟨Z,λc hc=>(bx.1 c Z).trans (X5.go c hc)⟩);exact⟨_,_,_,_,_,_,_,_,_,_,_,_,ω,W.t zt,Z3.t zt,hv,S⟩
end
section
variable {h0:HF}{B Z4:Nat}{T:List Nat}
def AU.ext{h:HF}{n:Nat}{w:List Nat}(a:AU h0 n0 v0 h n w v T)(x:J9 n h h')(f:n<=n'):AU h0 n0 v0 h' n' w v T:=
 ⟨C5 a.hn f,λb j i=>(x b (by have:=a.hn;omega)).trans (a.keep b j i),a.hw,Gro.ext a.g x f,a.or,a.wd⟩
theorem zjo{x s d:Nat}(a:V+c*P=Z4)(b:s+B*c'=d+c)(h3:x+d*P=V+s*P):x+c'*(P*B)=Z4:=by grind
theorem zog{P S X L:List Nat}{w:Nat}(a:O L=O Z0)(b:wv L+c*18446744073709551616^O Z0=wv Z0+wv X*w):wv (P++(L++S))+c*18446744073709551616^(O P+O Z0)=wv (P++(Z0++S))+wv X*(18446744073709551616^O P*w):=by grind [wZ,only,wv]
section
variable {r:List Oper}{d:Tmp}
def Uq(cs:List ψ)(a:nJ X ops t o d (Kh o.op=2/\Kr X.E o.op (J8 t)=ξ ⟨cs,e,χ,ξ (l,c)⟩))
  (k:∀h',h' (3*n+2)=ξ (.row cs e)->J9 n h h'->EO X ops r ⟨upd t d (Y (ξ ⟨3*n+2,0,θ⟩) l c),h',n+1,w⟩ Q):EO X ops (o::r) ⟨t,h,n,w⟩ Q:=by have⟨a,f,i,b,g⟩:=a;exact pZ ⟨a,f,i,b,g⟩ (k _ (zg _ _ _) (Fe Z))
end
def rQ(k:Nat){h:HF}{n:Nat}{q:ψ}{X Z3:List Nat}{aX aY:Option Addr}{lX lY cY:Nat}(g:GroU h n q T)(hT:Kb T)(hX:Sl h n 1 (Y aX lX cX) (u64s X))(hY:Sl h n 1 (Y aY lY cY) (u64s Z3))(wX:Kb X)(wY:Kb Z3)(oX:∀b,BkOf q b->Kw b (Y aX lX cX))(oY:∀b,BkOf q b->Kw b (Y aY lY cY))(hb:O T<1000000/\O X<1000000/\O Z3<1000000)(ao:O X<40\/O Z3<40):
  CF (Ka (k+3)) 122 [q,Y aX lX cX,Y aY lY cY] h n λv h' n' w=>∃T',AU h n q h' n' w v T'/\wv T'=wv T+wv X*wv Z3/\O T'<=max (O T) (O X+O Z3)+40:=by
 refine zw R4 ?_;have e1:=hX.lenW;have e2:=hY.lenW;subst e1 e2;refine mL ?_;refine zM ?_;refine st_I R5<|zM ?_;refine st_I R5<|lW R6 ?_;simp only[yu,xg,zK,yY];refine yj (α:=(Option Addr×Nat×List Nat)×(Option Addr×Nat×List Nat)) (λz=>[(0,q),(1,Y z.1.1 (O z.1.2.2) z.1.2.1),(2,Y z.2.1 (O z.2.2.2) z.2.2.1)]) (λz h' n' w=>h=h'/\n=n'/\w=[]/\Sl h n 1 (Y z.1.1 (O z.1.2.2) z.1.2.1) (u64s z.1.2.2)/\Sl h n 1 (Y z.2.1 (O z.2.2.2) z.2.2.1) (u64s z.2.2.2)/\Kb z.1.2.2/\Kb z.2.2.2/\(∀b,BkOf q b->Kw b (Y z.1.1 (O z.1.2.2) z.1.2.1))/\(∀b,BkOf q b->Kw b (Y z.2.1 (O z.2.2.2) z.2.2.1))/\O z.2.2.2<40/\O z.1.2.2<1000000/\wv z.1.2.2*wv z.2.2.2=wv X*wv Z3/\O z.1.2.2+O z.2.2.2=O X+O Z3) ?_ ?_;by_cases hlt:O X<O Z3;rw[ze gN];refine mL ?_;exact zA ((aY,cY,Z3),(aX,cX,X)) ⟨ω,ω,ω,CE⟩ ⟨ω,ω,ω,hY,hX,wY,wX,oY,oX,by show O X<40;omega,by show O Z3<_;omega,C3 _ _,Ee _ _⟩;rw[za gH];refine zN ?_;exact zA ((aX,cX,X),(aY,cY,Z3)) ⟨ω,ω,ω,CE⟩ ⟨ω,ω,ω,hX,hY,wX,wY,oX,oY,by show O Z3<40;omega,by show O X<_;omega,ω,ω⟩;rintro⟨⟨a,c,A⟩,⟨a',c',C⟩⟩ t _ _ _ ⟨rfl,rfl,rfl,hA,hC,wA,wC,oA,oC,an,ap,K,N⟩;simp only at hA hC wA wC oA oC an ap K N;rw[<-K,<-N];rw[<-N]at*;have b2:=hb.1;refine jQ ?_;refine st_I R5<|iU ?_;refine ye (λz=>[(0,z.1),(1,Y a (O A) c),(2,Y a' (O C) c')]) (λz h' n' w=>AU h n q h' n' w z.1 z.2/\wv z.2=wv T/\O z.2<=max (O T) (O A+O C)) (λz=>O A+O C-O z.2) (q,T) ⟨ω,ω,ω,CE⟩ ⟨.refl g hT,ω,Nat.le_max_left _ _⟩ (by show O A+O C-O T<LL;unfold LL;omega) ?_;rintro⟨v1,p⟩ t h1 n1 w1 ⟨j,m,W⟩;simp only at j m W;obtain⟨ac,rfl,_⟩:=Jg j.g;refine jQ ?_;refine st_I R5<|zM ?_;refine st_I R5<|zM ?_;refine st_I R5 ?_;by_cases hlt:O p<O A+O C;refine lI ?_;refine jQ ?_;refine Uq [CJ .u64 0] R5 λh2 p2 x2=>?_;refine Tu (j.ext x2 Zq) R9 (yp p2 R2) Z λv3 h3 w3 a3=>?_;refine zZ R4 rfl<|zN ?_;refine goOn (v3,p++[0]) aD ⟨ω,ω,ω,CE⟩ ⟨a3,?_,?_⟩;simp only;rw[yO,Ey,DG,m];simp only;exact Bp;refine Zr ?_;refine st_I R5<|my ?_;refine ye (α:=ψ×List Nat×Nat) (λz=>[(0,z.1),(1,Y a (O A) c),(36,Y a' (O C) c'),(37,CJ .i64 (O C:Int)),(38,CJ .i64 (z.2.2:Int))]) (λz h' n' w=>AU h n q h' n' w z.1 z.2.1/\wv z.2.1=wv T+wv A*wv (C.take z.2.2)/\O A+O C<=O z.2.1/\O z.2.1<=max (O T) (O A+O C)+z.2.2/\z.2.2<=O C) (λz=>O C-z.2.2) (Y ac (O p) (O p),p,0) ⟨ω,ω,ω,ω,ω,CE⟩ ⟨j,by simp[wv,dv]at m⊢;exact m,by show _<=O p;omega,W,CH⟩ AM ?_;rintro⟨v1,p,i⟩ t h1 n1 w1 ⟨j,m,ax,W,hi⟩;simp only at j m ax W hi;refine zN ?_;by_cases hiC:i=O C;subst hiC;rw[Da]at m;obtain⟨ac,rfl,_⟩:=Jg j.g;refine Ze ?_;exact retH _ ⟨ω,(zi ω),ω⟩ ⟨p,j,m,Z⟩;obtain⟨y,hy⟩:∃x,C[i]?=ξ x:=⟨C[i]'Z,CK Z⟩;have b0:=wC.get hy;obtain⟨b,rfl,a7,R,M⟩:=GroU.row j.g Z;obtain⟨P,Z0,S,D,hP,hZ⟩:∃P Z0 S,p=P++(Z0++S)/\O P=i/\O Z0=O A:=⟨p.take i,(p.drop i).take (O A),(p.drop i).drop (O A),by rw[D1,D1],Ah,tp⟩;have ad:=j.sl hA oA;have ae:=j.sl hC oC;have ab:=j.off hA oA b ⟨_,_,_,ω⟩;refine Zh ?_;refine yE R7 ae R2 hy (λ_=>rfl) R4 λ_=>?_;refine hH ?_;refine rt i (i+O A) R9 ω ω Z ?_;rw[show 0+i*1=O P from Z,show i+O A-i=O Z0 from Z];repeat refine zR ?_
 have ai:=li k (n:=n1) (b:=b) (cZ:=O p-i) (P:=P) (Z0:=Z0) (S:=S) R (by rw[<-D];exact M) Z (λd F=>j.wd d (by rw[D];simp[F])) ad wA ab hZ Z b0;refine zF _ R5 ai ?_;rintro _ h2 n2 w2⟨L,cc,rfl,aw,⟨al,rfl,am,ak⟩,af,a8,ag⟩;have a0:O (P++(L++S))=O p:=by rw[D];simp[a8]
 have a2:=j.trans (AU.row a7 R am al ak a0 (Kb.append (λd F=>j.wd d (by rw[D];simp[F])) (Kb.append af (λd F=>j.wd d (by rw[D];simp[F])))));have J:=zog (S:=S) (P:=P) a8 ag;rw[<-D,hP,hZ,m]at J;generalize hT2:P++(L++S)=T2 at a2 J a0;have J:wv T2+cc*18446744073709551616^(i+O A)=wv T+wv A*wv (C.take (i+1)):=(by rw[zQ hy,DY,J];omega);refine Zk ?_;refine st_I R5<|my ?_;rw[<-a0];refine ye (α:=ψ×List Nat×Nat×Nat) (λz=>[(0,z.1),(1,Y a (O A) c),(9,CJ .u64 (z.2.2.1:Int)),(10,CJ .i64 (z.2.2.2:Int)),(36,Y a' (O C) c'),(37,CJ .i64 (O C:Int)),(38,CJ .i64 (i:Int))]) (λz h' n' w=>AU h n q h' n' w z.1 z.2.1/\wv z.2.1+z.2.2.1*18446744073709551616^z.2.2.2=wv T+wv A*wv (C.take (i+1))/\O A+O C<=O z.2.1/\(O z.2.1<=max (O T) (O A+O C)+i\/(O z.2.1<=max (O T) (O A+O C)+i+1/\z.2.2.1=0))/\z.2.2.1<18446744073709551616/\z.2.2.2<=O z.2.1) (λz=>(O z.2.1-z.2.2.2)+(if z.2.2.1=0 then 0 else 1)) (Y (ξ ⟨b,0,θ⟩) (O T2) (O T2),T2,cc,i+O A) ⟨ω,ω,ω,by show CJ .i64 _=CJ .i64 _;rfl,ω,ω,ω,CE⟩ ⟨by rw[a0];exact a2,J,by show _<=O T2;omega,.inl (by show O T2<=_;omega),aw,by show i+O A<=O T2;omega⟩ (by show(O T2-(i+O A))+_<LL;unfold LL;split<;>omega) ?_;rintro⟨v3,u,c3,f⟩ t h3 n3 w3 ⟨a3,Z1,aa,aj,au,aq⟩;simp only at a3 Z1 aa aj au aq;refine zN ?_;by_cases hc0:c3=0;subst hc0;rw[Nat.zero_mul,DG]at Z1;refine Ze ?_;refine goOn (v3,u,i+1) aD ⟨ω,ω,ω,ω,ω,CE⟩ ⟨a3,Z1,aa,by show O u<=_+(i+1);omega,Aq⟩;have aj:O u<=max (O T) (O A+O C)+i:=Z;refine Zd ?_;obtain⟨b1,rfl,_⟩:=Jg a3.g;refine mM ?_;refine st_I R5<|Mm R6 ?_;simp only[yu,xg,zK,yY];refine yj (α:=ψ×List Nat) (λz=>[(0,z.1),(1,Y a (O A) c),(9,CJ .u64 (c3:Int)),(10,CJ .i64 (f:Int)),(36,Y a' (O C) c'),(37,CJ .i64 (O C:Int)),(38,CJ .i64 (i:Int))]) (λz h' n' w=>AU h n q h' n' w z.1 z.2/\wv z.2=wv u/\f<O z.2/\O A+O C<=O z.2/\(O z.2=O u\/(O z.2=O u+1/\f=O u/\z.2[f]?=ξ 0))) ?_ ?_;by_cases hat:f=O u;rw[ze gN];refine jQ ?_;refine Uq [CJ .u64 0] R5 λh4 p4 x4=>?_;refine Tu (a3.ext x4 Zq) R9 (yp p4 R2) Z λv5 h5 w5 a5=>?_;refine zZ R4 rfl<|zN ?_;refine zA (v5,u++[0]) ⟨ω,ω,ω,ω,ω,ω,ω,CE⟩ ⟨a5,?_,?_,?_,.inr ⟨?_,hat,?_⟩⟩;simp only;rw[yO,Ey,DG];simp only;exact Bp;simp only;exact Bp;simp only;rw[CP,List.length_singleton];simp only;rw[hat,Dq CG,D7];rfl;rw[za gH];refine zN ?_;exact zA (_,u) ⟨ω,ω,ω,ω,ω,ω,ω,CE⟩ ⟨a3,ω,by show f<O u;omega,aa,.inl ω⟩;rintro⟨v4,I⟩ t h4 n4 w4 ⟨a4,ah,a9,ay,H⟩;simp only at a4 ah a9 ay H;rw[<-ah]at Z1;obtain⟨b,rfl,a7,R,M⟩:=GroU.row a4.g Z;obtain⟨d,F⟩:∃x,I[f]?=ξ x:=⟨I[f]'Z,CK Z⟩;have b3:=a4.wd.get F;refine kj ?_;refine yE R7 (Gro.sl a4.g) R2 F (λ_=>rfl) R4 λ_=>?_;repeat refine zR ?_
 refine vt (c:=0) R5 zd ?_;obtain⟨s,hs⟩:∃x,x=(d+c3+0)%18446744073709551616:=⟨_,ω⟩;obtain⟨c5,av⟩:∃x,x=(d+c3+0)/18446744073709551616:=⟨_,ω⟩;rw[<-hs,<-av];repeat refine zR ?_
 refine zl6 R9 ⟨a9,by rw[zL];exact a9⟩ M (λ_=>rfl) ω ω ω (λ_=>rfl) ω λ_=>?_;rw[yk];refine Zb ?_;have a6:O (I.set f s)=O I:=DT;have a5:=a4.trans (AU.row (h':=upd h4 b (ξ (.row (u64s (I.set f s)) 141))) a7 R (λk hk az=>zm az) (λc hc=>C0.1 hc) (zg _ _ _) a6 (Kb.set a4.wd Z));refine goOn (_,I.set f s,c5,f+1) ?_ ⟨ω,ω,ω,ω,ω,ω,ω,CE⟩ ⟨a5,?_,?_,?_,?_,?_⟩;show(O (I.set f s)-(f+1))+(if c5=0 then 0 else 1)<(O u-f)+(if c3=0 then 0 else 1);rw[a6,Cs hc0];obtain H|⟨H,ar,G⟩:=H;split<;>omega;rw[F]at G;injection G with G;rw[Cx Z];omega;simp only;rw[Db];exact zjo Z1 Z (Mp s F);show _<=O (I.set f s);omega;show(I.set f s).length<=_\/_;rw[a6];obtain H|⟨H,ar,G⟩:=H;exact .inl Z;rw[F]at G;injection G with G;exact .inr ⟨Z,by show c5=0;omega⟩;show c5<_;omega;show f+1<=O (I.set f s);omega
end
section
variable {lo:Nat}{h0:HF}{T:List Nat}
def SumO(lo:Nat)(h:HF)(n bS:Nat)(z:Int)(m:Nat):Prop:=∃vP vN P N e,3*lo<=bS/\bS<3*n/\gro bS=χ/\h bS=ξ (.row [vP,vN] e)/\Gro h lo n 141 1 vP (O P) (u64s P)/\Gro h lo n 141 1 vN (O N) (u64s N)/\Kb P/\Kb N/\(∀b,BkOf vP b->¬BkOf vN b)/\z=(wv P:Int)-wv N/\O P<=m/\O N<=m
def SumO.ext{z:Int}(s:SumO lo h n bS z m)(x:J9 n h h')(a:n<=n'):SumO lo h' n' bS z m:=by have⟨o,l,P,N,e,b,c,d,f,g,i,j⟩:=s;exact⟨o,l,P,N,e,b,Z,d,(x _ c).trans f,g.ext x a,i.ext x a,j⟩
def SumO.start(a:3*lo<=bS)(c:bS<3*n)(h3:gro bS=χ)(d:h bS=ξ (.row [η,η] e)):SumO lo h n bS 0 0:=
 ⟨_,_,[],[],e,a,c,h3,d,.nil,.nil,Kb.nil,Kb.nil,λb⟨_,_,_,h⟩=>Ag,ω,CG,CG⟩
def AU.gro(a:AU h0 n0 v0 h n w v T)(f:lo<=n0)(hv:∀b,BkOf v0 b->3*lo<=b):Gro h lo n 141 1 v (O T) (u64s T):=by
 have g:Gro h 0 n 141 1 v (O T) (u64s T):=a.g;have d:=a.or;generalize (O T)=tl at g;generalize u64s T=tc at g;cases g with
 |nil=>exact .nil
 | @at_ b _ _ hg _ hb hr hl ho2=>
  refine .at_ hg ?_ hb hr hl ho2;obtain e|c:=d;exact hv _ ⟨_,_,_,e.symm⟩;have c:3*n0<=b:=c;omega
def Gro.bk{C:List ψ}(g:Gro h lo n e 1 v len C):∀b,BkOf v b->3*lo<=b/\b<3*n/\gro b=φ:=by
 rintro b⟨o,l,c,e⟩;cases g with
 |nil=>cases e
 |at_ hg hlo hb hr hl ho=>cases e;exact⟨hlo,hb,hg⟩
def Gro.weak{C:List ψ}(g:Gro h lo n e 1 v len C):Gro h 0 n e 1 v len C:=by
 cases g with
 |nil=>exact .nil
 |at_ hg hlo hb hr hl ho=>exact .at_ hg Z hb hr hl ho
def Gro.beside{u:ψ}{C:List ψ}(g:Gro h0 lo n0 e 1 u len C)(d:Keep v n0 h0 h)(a:∀b,BkOf u b->¬BkOf v b)(f:n0<=n):Gro h lo n e 1 u len C:=by
 cases g with
 |nil=>exact .nil
 |at_ hg hlo hb hr hl ho=>exact .at_ hg hlo Z ((d _ hb λo l c e=>a _ ⟨_,_,_,ω⟩ ⟨o,l,c,e⟩).trans hr) hl ho
def SumO.mono{z:Int}(s:SumO lo h n bS z m)(hm:m<=m'):SumO lo h n bS z m':=by have⟨q,p,P,N,e,b,c,d,f,g,i,j,l,o,a,u,y⟩:=s;exact⟨q,p,P,N,e,b,c,d,f,g,i,j,l,o,a,Z,Z⟩
def Gro.off{C:List ψ}{x:Option BF}(g:Gro h lo n e 1 v len C)(hb:gro bS=χ):Gro (upd h bS x) lo n e 1 v len C:=by
 cases g with
 |nil=>exact .nil
 |at_ hg hlo hbn hr hl ho=>exact .at_ hg hlo hbn ((zm λe=>by rw[e,hb]at hg;cases hg).trans hr) hl ho
theorem zl1{x y:Int}{p:Nat}(h:(decide (x<0)==decide (y<0))=φ):(p:Int)-n+x*y=((p+x.natAbs*y.natAbs:Nat):Int)-n:=by grind
theorem zl2{x y:Int}{p:Nat}(h:¬(decide (x<0)==decide (y<0))=φ):(p:Int)-n+x*y=(p:Int)-((n+x.natAbs*y.natAbs:Nat):Int):=by grind
theorem nO(k:Nat){z:Int}{x y:Int}(hs:SumO lo h n bS z m)(Z0:lo<=n)(ix:IW h lo b1 a1 l1 c1 x)(iy:IW h lo b2 a2 l2 c2 y)(sx:l1<40)(sy:l2<40)(hm:m<=1000):
  CF (Ka (k+4)) 92 [ι bS,.agg #[U b1,Y a1 l1 c1],.agg #[U b2,Y a2 l2 c2]] h n λ_ h' n' w=>SumO lo h' n' bS (z+x*y) (m+130)/\n<=n'/\J9 lo h h'/\(x*y=0\/bS∈w)/\∀c∈w,3*lo<=c:=by
 obtain⟨rfl,X,sX,nX,vX⟩:=ix;obtain⟨rfl,Z3,sY,nY,vY⟩:=iy;have eX:=sX.lenW;have eY:=sY.lenW;subst eX eY;refine Lu R4 ?_;have S:x*y=0->SumO lo h n bS (z+x*y) (m+130):=λe=>by rw[e,Iz];exact hs.mono Z
 refine zN ?_;refine tK [U (decide (x<0)),Y a1 (O X) c1] R5 ?_;intro h5 p5 x5;refine tK [U (decide (y<0)),Y a2 (O Z3) c2] R5 ?_;intro h6 p6 x6;have q5:=(x6 (3*n+2) Z).trans p5;have p:J9 n h h6:=x5.trans x6 (Dc n);have I:∀(t:TF),x*y=0->(rI .ret=φ/\∃vs,resF Kj ⟨t,h6,n+1+1,[]⟩ (Tryz.f92).results.toList=ξ vs/\(SumO lo h6 (n+1+1) bS (z+x*y) (m+130)/\n<=n+1+1/\J9 lo h h6/\(x*y=0\/bS∈([]:List Nat))/\∀c∈([]:List Nat),3*lo<=c)/\(True->SumO lo h n bS (z+x*y) (m+130)/\n<=n/\J9 lo h h/\(x*y=0\/bS∈([]:List Nat))/\∀c∈([]:List Nat),3*lo<=c)):=λt e=>
  ⟨rfl,[],rfl,⟨(S e).ext p Z,Z,p.mono Z0,.inl e,λc M=>BO M CT⟩,λ_=>⟨S e,CG,FH _ _,.inl e,λc M=>BO M CT⟩⟩
 refine jQ ?_;refine zT R6 q5 R2 ?_;refine zM ?_;by_cases hX0:O X=0
 .have hx:x=0:=by rw[CY.1 hX0]at vX;have:wv []=0:=rfl;omega
  refine Zd ?_;exact I _ (by rw[hx,Gv])
 repeat refine zR ?_
 refine zT R6 p6 R2 ?_;refine zM ?_;by_cases hY0:O Z3=0
 .have hy:y=0:=by rw[CY.1 hY0]at vY;have:wv []=0:=rfl;omega
  refine Zd ?_;exact I _ (by rw[hy,GZ])
 refine Zr ?_;refine zT R6 q5 R2 ?_;refine zM ?_;refine zT R6 p6 R2 ?_;refine st_B R5 ?_;obtain⟨V,Z4,P,N,e,h1,h2,G,h4,D,B,wP,wN,hd,hz,lP,lN⟩:=hs;have q6:=(p bS h2).trans h4;have a3:=sX.ext (p.mono Z0) (show lo<=n+1+1 by omega);have a4:=sY.ext (p.mono Z0) (show lo<=n+1+1 by omega);have F:∀{v:ψ} {len:Nat} {C:List ψ} {e:TypeId} (_:Gro h lo n e 1 v len C) (a:Option Addr) (l c:Nat) {cs:List ψ} (_:Sl h lo 1 (Y a l c) cs),∀b,BkOf v b->Kw b (Y a l c):=λg a l c _ s b L=>s.below.off (g.bk b L).1;clear I S;refine zN ?_;by_cases hsg:(decide (x<0)==decide (y<0))=φ
 .rw[za (by show U _=_;rw[hsg];rfl)];refine zl ?_;refine dr_P R5 ?_;refine dr_P R5 ?_;refine dr_P R5 ?_;refine dr_P R5 ?_;refine yd R6 (wf rfl q6 R2) R2 ?_;refine dr_P R5 ?_;refine yd R6 (wf rfl q5 R2) R2 ?_;refine dr_P R5 ?_;refine yd R6 (wf rfl p6 R2) R2 ?_;refine wa _ R7 (rQ k (D.weak.ext p Z) wP a3 a4 nX.1 nY.1 (F D a1 (O X) c1 sX) (F D a2 (O Z3) c2 sY) Z Z) ?_;rintro v7 h7 n7 w7⟨d,f,e7,l7⟩;obtain⟨j,rfl,_⟩:=Jg f.g;have H:=f.hn;refine⟨rfl,H,?_⟩;have q7:h7 bS=ξ (.row [V,Z4] e):=(f.keep bS Z λo l c i=>by
   have:=(D.bk bS ⟨o,l,c,i⟩).2.2;rw[G]at this;cases this).trans q6
  refine dr_P R5 ?_;refine dr_P R5 ?_;refine mX rfl rfl rfl (xn rfl rfl rfl rfl q7 zb) rfl rfl rfl CG ?_;rw[M0];refine zN ?_;have g7:=f.gro Z λb L=>(D.bk b L).1;have g8:=g7.off G (x:=ξ (.row [Y j (O d) (O d),Z4] e));have W:=((B.ext p Z).beside f.keep (λb u A=>hd b A u) H).off G (x:=ξ (.row [Y j (O d) (O d),Z4] e));have q:bS∈addW n [bS] (addW n w7 []):=wQ h2 (C0.2 rfl);refine⟨rfl,[],rfl,⟨⟨_,Z4,d,N,e,h1,Z,G,zg _ _ _,g8,W,f.wd,wN,?_,?_,Z,Z⟩,by show n<=n7;omega,λb L=>?_,.inr q,λc M=>?_⟩,λR=>?_⟩
  .intro b u A;have q1:=B.bk b A;have a0:Y j (O d) (O d)=V\/xC (n+1+1) (Y j (O d) (O d)):=f.or;rcases a0 with i|Z1
   .exact hd b (i▸u) A
   obtain⟨o,l,c,i⟩:=u;have i:Y j (O d) (O d)=Y (ξ ⟨b,o,θ⟩) l c:=i;rw[i]at Z1;have Z1:3*(n+1+1)<=b:=Z1;omega
  .rw[e7,vX,vY,hz];exact zl1 hsg
  .refine(zm Z).trans ((f.keep b Z λo l c i=>?_).trans (p b Z));have:=(D.bk b ⟨o,l,c,i⟩).1;omega
  .rcases tI _ _ c M with⟨J,_⟩|J
   .rw[C0.1 J];exact h1
   rcases tI _ _ c J with⟨K,_⟩|K
   .exact(D.bk c (f.hw c K)).1
   exact BO K CT
  have R:addW n [bS] (addW n w7 [])=[]:=R;rw[R]at q;exact BO q CT
 rw[ze (by show U _=_;rw[Bool.eq_false_iff.2 hsg];rfl)];refine zl ?_;refine dr_P R5 ?_;refine dr_P R5 ?_;refine dr_P R5 ?_;refine dr_P R5 ?_;refine yd R6 (wf rfl q6 R2) R2 ?_;refine dr_P R5 ?_;refine yd R6 (wf rfl q5 R2) R2 ?_;refine dr_P R5 ?_;refine yd R6 (wf rfl p6 R2) R2 ?_;refine wa _ R7 (rQ k (B.weak.ext p Z) wN a3 a4 nX.1 nY.1 (F B a1 (O X) c1 sX) (F B a2 (O Z3) c2 sY) Z Z) ?_;rintro v7 h7 n7 w7⟨d,f,e7,l7⟩;obtain⟨j,rfl,_⟩:=Jg f.g;have H:=f.hn;refine⟨rfl,H,?_⟩;have q7:h7 bS=ξ (.row [V,Z4] e):=(f.keep bS Z λo l c i=>by
  have:=(B.bk bS ⟨o,l,c,i⟩).2.2;rw[G]at this;cases this).trans q6
 refine dr_P R5 ?_;refine dr_P R5 ?_;refine mX rfl rfl rfl (xn rfl rfl rfl rfl q7 zb) rfl rfl rfl CG ?_;rw[M0];refine zN ?_;have g7:=f.gro Z λb L=>(B.bk b L).1;have g8:=g7.off G (x:=ξ (.row [V,Y j (O d) (O d)] e));have W:=((D.ext p Z).beside f.keep (hd) H).off G (x:=ξ (.row [V,Y j (O d) (O d)] e));have q:bS∈addW n [bS] (addW n w7 []):=wQ h2 (C0.2 rfl);refine⟨rfl,[],rfl,⟨⟨V,_,P,d,e,h1,Z,G,zg _ _ _,W,g8,wP,f.wd,?_,?_,Z,Z⟩,by show n<=n7;omega,λb L=>?_,.inr q,λc M=>?_⟩,λR=>?_⟩
 .intro b u A;have q1:=D.bk b u;have a0:Y j (O d) (O d)=Z4\/xC (n+1+1) (Y j (O d) (O d)):=f.or;rcases a0 with i|Z1
  .exact hd b u (i▸A)
  obtain⟨o,l,c,i⟩:=A;have i:Y j (O d) (O d)=Y (ξ ⟨b,o,θ⟩) l c:=i;rw[i]at Z1;have Z1:3*(n+1+1)<=b:=Z1;omega
 .rw[e7,vX,vY,hz];exact zl2 hsg
 .refine(zm Z).trans ((f.keep b Z λo l c i=>?_).trans (p b Z));have:=(B.bk b ⟨o,l,c,i⟩).1;omega
 .rcases tI _ _ c M with⟨J,_⟩|J
  .rw[C0.1 J];exact h1
  rcases tI _ _ c J with⟨K,_⟩|K
  .exact(B.bk c (f.hw c K)).1
  exact BO K CT
 have R:addW n [bS] (addW n w7 [])=[]:=R;rw[R]at q;exact BO q CT
end
section
variable {lo:Nat}
def zmz(k:Nat)(h:HF)(n:Nat)(b:Bool)(a:Option Addr)(l c:Nat):CF (Ka (k+2)) 95 [.agg #[U b,Y a l c]] h n λv g j w=>v=.agg #[U (!b&&decide (0<l)),Y a l c]/\n<=j/\w=[]/\J9 n h g:=by refine zw R4<|zN ?_;refine tK [U b,Y a l c] R5 λA p y=>?_;refine wt [U χ,η] R6 λi q e=>?_;have d:=(e (3*n+2) Z).trans p;refine jQ ?_;refine zT R6 d R2<|st_B R5<|zM ?_;refine zT R6 d R2<|zF _ R5 (rx k i (n+1+1) (!b) a l c) ?_;rintro _ B D _⟨rfl,rfl,rfl,f⟩;have u:=(f (3*(n+1)+2) Z).trans q;refine mq [U (!b&&decide (0<l)),Y a l c] R5 u R3 zb ω eN λC s o=>?_;refine zN ?_;exact uq R5 s ω ⟨ω,by show n<=n+1+1+1;omega,ω,J9.st ((y.trans e (Dc n)).trans f Z) o Z⟩
theorem ff(k:Nat){z:Int}{x y:Int}(l:SumO lo h n bS z m)(d:lo<=n)(q:IW h lo b1 a1 l1 c1 x)(M:IW h lo b2 a2 l2 c2 y)(S:l1<40)(T:l2<40)(hm:m<=1000):
  CF (Ka (k+5)) 93 [ι bS,.agg #[U b1,Y a1 l1 c1],.agg #[U b2,Y a2 l2 c2]] h n λ_ u D w=>SumO lo u D bS (z-x*y) (m+130)/\n<=D/\J9 lo h u/\(x*y=0\/bS∈w)/\∀c∈w,3*lo<=c:=by
 have p:x=0↔l1=0:=by rw[q.2.zero];omega
 have s:=q.1;have L:∀{g:HF} (_:J9 lo h g),IW g lo (!b1&&decide (0<l1)) a1 l1 c1 (-x):=λZ4=>⟨by
  rw[s];by_cases a:l1=0;rw[a,p.2 a];rfl;have:x≠0:=λe=>a (p.1 e);rw[BJ (show 0<l1 from Z),Bool.and_true];by_cases hx:x<0;rw[BJ hx,Ae (show ¬ -x<0 from Z)];rfl;rw[Ae hx,BJ (show -x<0 from Z)];rfl,by rw[Int.natAbs_neg];exact q.2.ext Z4 CG⟩
 refine Lu R4<|zN ?_;refine tK [U b1,Y a1 l1 c1] R5 λh5 Z1 V=>?_;refine tK [U b2,Y a2 l2 c2] R5 λv P I=>?_;have R:=(I (3*n+2) Z).trans Z1;have H:J9 n h v:=V.trans I (Dc n);refine zN ?_;refine zl ?_;refine dr_P R5<|yd R6 (yw R2 R ω zb ω) R2<|wa _ R7 (zmz (k+2) v (n+1+1) b1 a1 l1 c1) ?_;rintro _ K n7 _⟨rfl,Z0,rfl,W⟩;refine⟨ω,Z0,?_⟩;have b:J9 n h K:=H.trans W Z;refine yd R6 (yw R2 P ω zb ω) R2<|wa _ R7 (nO k (l.ext b Z) Z (L (b.mono d)) (M.ext (b.mono d) CG) S T hm) ?_;rintro v8 h8 N G⟨F,y8,Z3,A,C⟩;refine⟨ω,y8,?_⟩;rw[M0];have J:z+ -x*y=z-x*y:=by grind
 rw[J]at F;have B:bS<3*n:=(by have⟨_,_,_,_,_,_,g,_⟩:=l;exact g);have f:x*y=0\/bS∈addW n G []:=(by obtain a|a:=A;left;rw[Int.neg_mul]at a;omega;exact .inr (wQ B a));refine⟨ω,[],ω,⟨F,by show n<=N;omega,(b.mono d).trans Z3 CG,f,λc j=>?_⟩,λo=>?_⟩;obtain⟨i,_⟩|i:=tI _ _ c j;exact C c i;exact BO i CT;have o:addW n G []=[]:=o;rw[o]at f;have a:x*y=0:=f.resolve_right CT;exact⟨by rw[a,Int.sub_zero];exact l.mono Z,CG,FH _ _,.inl a,λc j=>BO j CT⟩
end
theorem Ur(k:Nat){h:HF}{n:Nat}{o p:Option Addr}{M q N s:Nat}{A C:List Nat}(u:Sl h n 1 (Y o M q) (u64s A))(i:Sl h n 1 (Y p N s) (u64s C))(Z1:NW A)(P:NW C)(hb:O A<100000000)(F:wv C<=wv A):
  CF (Ka (k+2)) 125 [Y o M q,Y p N s] h n λv T Z3 w=>∃L,ResW n h v T Z3 w L/\wv L=wv A-wv C:=by
 refine zw R4 ?_;have R:=u.lenW;have S:=i.lenW;subst R S;have m:O C<=O A:=by
  rcases EH (O A) (O C) with j|j
  .have:=Z1.len_lt P j;omega
  exact j
 refine mL ?_;refine zM ?_;refine st_I R5<|vB R9 Z ?_;rw[show zn (CJ .u64 0)=[CJ .u64 0]from rfl,xO];generalize hh:upd h (3*n+2) _=h1;have d:∃e,h1 (3*n+2)=ξ (.row (u64s (CO (O A) 0)) e):=⟨_,oB⟩;have⟨e,d⟩:=d;have f:J9 n h h1:=by grind [Fe]
 refine Zk ?_;refine lZ R7 (uX (u.ext f (Dc n))) CG d (by simp[zL,Du]) (xW _) eC ?_;rw[List.drop_eq_nil_of_le (by simp[zL,Du]),List.append_nil];generalize hh:upd h1 (3*n+2) _=h2;have G:h2 (3*n+2)=ξ (.row (u64s A) e):=by rw[<-hh,zg]
 have g:J9 n h h2:=λb hb=>by rw[<-hh,zm Z];exact f b hb
 refine Zk ?_;refine zF _ R5 (mB k Z G CG Z1.1 (i.ext g (Dc n)) P.1 (i.below.off Z) m Z F) ?_;rintro _ h3 n3 w3⟨L,⟨J,rfl,K,H⟩,B,D,a0⟩;try simp only[tH]
 rw[zV λy W=>by rw[J y W];show 3*n<=3*n+2;omega];refine my ?_;refine zM ?_;have I:=xi k (n:=n+1) (a:=ξ ⟨3*n+2,0,θ⟩) (len:=O A) (cap:=O A) (l:=L) Z (λ_ e=>by injection e with e;rw[<-e]) (xr Z H D);refine zF _ R5 I ?_;rintro _ _ _ _⟨rfl,rfl,rfl,rfl,V⟩;refine my ?_;have⟨Z0,t2⟩:=xD B;exact retH _ ⟨rfl,(zi rfl),rfl⟩ ⟨_,⟨rfl,Dc n,λc Z4=>(K c Z Z).trans (g c Z4),V,Z0⟩,by rw[t2];omega⟩
section
variable {lo:Nat}
def Gro.form{C:List ψ}(g:Gro h lo n e 1 v len C):∃a,v=Y a len len/\(∀b,a=ξ b->b.spot=θ):=by
 cases g with
 |nil=>exact⟨θ,ω,λb h=>by cases h⟩
 |at_ hg hlo hb hr hl ho=>exact⟨_,ω,λb h=>by injection h with h;rw[<-h]⟩
theorem zot(k:Nat){z:Int}(S:SumO lo h n bS z m)(hm:m<=10000):CX (Ka (k+4)) 94 [ι bS] h n (IV z):=by
 have⟨vP,vN,P,N,e,h1,J,h3,K,B,A,wP,wN,hd,hz,lP,lN⟩:=S;obtain⟨aP,rfl,Z3⟩:=B.form;obtain⟨aN,rfl,W⟩:=A.form;refine zw R4<|zN ?_;refine wt [U χ,η] R6 λh5 D l=>?_;have F:=(l bS J).trans K;have V:=B.sl.ext l (Dc n);have Z4:=A.sl.ext l (Dc n);have⟨u,H⟩:=xD wP;have⟨s,G⟩:=xD wN;have tP:=xU P;have tN:=xU N;refine zN ?_;refine zl ?_;refine dr_P R5<|dr_P R5<|dr_P R5<|yd R6 (wf ω F R2) R2<|wa _ R7 (xi (k+2) Z Z3 V) ?_;rintro _ _ _ _⟨rfl,rfl,rfl,rfl,zP⟩;refine⟨ω,CG,?_⟩;refine dr_P R5<|dr_P R5<|dr_P R5<|yd R6 (wf ω F R2) R2<|wa _ R7 (xi (k+2) Z W Z4) ?_;rintro _ _ _ _⟨rfl,rfl,rfl,rfl,zNg⟩;refine⟨ω,CG,?_⟩;refine dr_S R5<|dr_S R5 ?_;rw[M0];refine Zi ?_;refine yi _ R5 (uF k zP zNg u s Z) ?_;rintro _ rfl;rw[H,G];by_cases hle:wv N<=wv P;have R:0<=cmpZ (wv P) (wv N):=by grind [cmpZ]
 refine Zm ?_;refine zF _ R5 (Ur (k+1) zP zNg u s Z Z) ?_;rintro Z0 p a _⟨L,⟨rfl,y6,o,d,q⟩,y⟩;obtain⟨f,c,g,rfl,_⟩:=d.len;refine zF _ R5 (rx (k+2) p a χ f c g) ?_;rintro _ M T _⟨rfl,rfl,rfl,b⟩;have j:=(b (3*n+2) Z).trans ((o (3*n+2) Z).trans D);refine mq [U χ,Y f c g] R5 j R3 zb ω eN λZ1 w i=>?_;refine zN ?_;refine uq R5 w ω ⟨ω,by show n<=a+1;omega,J9.st ((l.trans o (Dc n)).trans b Z) i Z,_,_,_,_,ω,?_,?_⟩;rw[Ae Z];exact WW.only ⟨L,d.ext b (Dc a),q,Z⟩ j ω i;have R:cmpZ (wv P) (wv N)<0:=by grind [cmpZ]
 refine Zt ?_;refine zF _ R5 (Ur (k+1) zNg zP s u Z Z) ?_;rintro Z0 p a _⟨L,⟨rfl,y6,o,d,q⟩,y⟩;obtain⟨f,c,g,rfl,_⟩:=d.len;refine zF _ R5 (rx (k+2) p a φ f c g) ?_;rintro _ M T _⟨rfl,rfl,rfl,b⟩;have C:0<c:=(by have:=d.lenW;subst this;refine Nat.pos_of_ne_zero λI=>?_;rw[CY.1 I]at y;have:wv []=0:=rfl;omega);rw[BJ C];have j:=(b (3*n+2) Z).trans ((o (3*n+2) Z).trans D);refine mq [U φ,Y f c g] R5 j R3 zb ω eN λZ1 w i=>?_;refine zN ?_;refine uq R5 w ω ⟨ω,by show n<=a+1;omega,J9.st ((l.trans o (Dc n)).trans b Z) i Z,_,_,_,_,ω,?_,?_⟩;rw[BJ Z];exact WW.only ⟨L,d.ext b (Dc a),q,Z⟩ j ω i
end
def rowL(N:Nat)(f:Nat->Int):List Int:=(DV N).map f
def yv{N:Nat}{f:Nat->Int}:O (rowL N f)=N:=by unfold rowL;rw[CU,Fo]
def vu{N j:Nat}{f:Nat->Int}(h:j<N):(rowL N f)[j]?=ξ (f j):=by unfold rowL;rw[DC,GJ h];rfl
def fI{N:Nat}{f:Nat->Int}{zs:List Int}(c:O zs=N)(h:∀j,j<N->zs[j]?=ξ (f j)):zs=rowL N f:=by refine Et λj=>?_;by_cases hj:j<N;rw[h j hj,vu hj];rw[Dl Z,Dl (by rw[yv];omega)]
def zht{N j:Nat}{f:Nat->Int}{q:Int}:(rowL N f).set j q=rowL N (Ke f j q):=by refine fI (by rw[DT,yv]) λi c=>?_;rw[HX,yv];unfold Ke;by_cases e:j=i;subst e;rw[Cx ω,Cx c,Cx rfl];rw[Cs e,Cs λq=>e q.symm,vu c]
def LM(Z4:Nat->Nat->Int)(i j:Nat)(q:Int):Nat->Nat->Int:=λa=>if a=i then Ke (Z4 i) j q else Z4 a
structure Tb (h:HF)(n m N:Nat)(B:Nat->Nat)(Z4:Nat->Nat->Int):Prop where
 o:∀a,a<=m->OZ h n (B a) (rowL N (Z4 a))
 g:∀a,a<=m->gro (B a)=χ
 j:∀a b,a<=m->b<=m->B a=B b->a=b
section
variable {B:Nat->Nat}{Z4:Nat->Nat->Int}{q:Int}
def Tb.go(t:Tb h n m N B Z4)(T:Tr n h n' h')(e:∀a,a<=m->h' (B a)=h (B a)):Tb h' n' m N B Z4:=⟨λa c=>(t.o a c).go FL T (e a c),t.g,t.j⟩
def Tb.x(t:Tb h n m N B Z4)(T:Tx n h n' h':=by exact zx):Tb h' n' m N B Z4:=⟨λa c=>(t.o a c).xx intP.kp T,t.g,t.j⟩
def Tb.as(t:Tb h n m N B Z4)(e:∀a b,a<=m->b<N->Z4 a b=U' a b):Tb h n m N B U':=⟨λa c=>(t.o a c).as (fI yv λj f=>by rw[vu f,e a j c f]),t.g,t.j⟩
theorem Tb.set(t:Tb h n m N B Z4)(hi:i<=m)(o:OZ h' n (B i) ((rowL N (Z4 i)).set j q))(S:Kx (B i) h h'):Tb h' n m N B (LM Z4 i j q):=by
 refine⟨λa c=>?_,t.g,t.j⟩;unfold LM;split
 .next e=>rw[e,<-zht];exact o
 next e=>exact(t.o a c).go FL (FT S (Eo _ _)) (S.1 _ λf=>e (t.j a i c hi f))
def Tb.el(t:Tb h n m N B Z4)(hi:i<=m)(hj:j<N):∃b1 a1 l1 c1,At h (B i) (0+j*2) [U b1,Y a1 l1 c1]/\IW h n b1 a1 l1 c1 (Z4 i j):=by obtain⟨c,⟨g,f,u,c,rfl,p⟩,_,v⟩:=(t.o i hi).get (vu hj) (Dd _);exact⟨g,f,u,c,v,p⟩
end
def KK(T:Nat->Nat->Int)(d:Int)(r e i j:Nat):Nat->Nat->Int:=λa b=>if(a<i\/a=i/\b<j)/\a≠r/\b≠e then(T a b*T r e-T a e*T r b).tdiv d else T a b
section
variable {T:Nat->Nat->Int}{d:Int}{e a:Nat}
def zgz:KK T d r e 0 0=T:=by funext a b;unfold KK;rw[Cs Z]
def pS(h:a=r\/b=e\/a=i/\j<=b):KK T d r e i j a b=T a b:=by unfold KK;rw[Cs Z]
theorem Us(hi:i≠r)(hj:j≠e):LM (KK T d r e i j) i j ((T i j*T r e-T i e*T r j).tdiv d)=KK T d r e i (j+1):=by unfold LM Ke KK;grind
theorem zlp:KK T d r e i e=KK T d r e i (e+1):=by grind [KK]
theorem zg0(hi:i≠r)(hj:j≠e)(h:T i j=0)(h':T i e=0\/T r j=0):KK T d r e i j=KK T d r e i (j+1):=by
 rw[<-Us hi hj];have c:(T i j*T r e-T i e*T r j).tdiv d=0:=by rcases h' with h'|h'<;>rw[h,h']<;>simp
 rw[c];funext a b;unfold LM Ke;split
 .next q=>
  show _=if b=j then _ else _
  split
  .next q2=>rw[q,q2,pS (.inr (.inr ⟨rfl,CG⟩)),h]
  rw[q]
 rfl
theorem zlm(hb:b<N):KK T d r e i N a b=KK T d r e (i+1) 0 a b:=by grind [KK]
theorem zln:KK T d r e r 0 a b=KK T d r e (r+1) 0 a b:=by grind [KK]
end
structure Apa (l m bs:Nat)(d:Sol)(A:Adr)(B:Nat->Nat):Prop where
 bs:3*l<=bs
 lo:∀i,i<=m->3*l<=B i
 inj:∀i j,i<=m->j<=m->B i=B j->i=j
 ta:∀i,i<=m->∃zs,d.ta[i]?=ξ (B i,zs)
 dj:∀b,BkOf (Y A.nb (O d.nb) (O d.nb)) b->¬BkOf (Y A.ba (O d.ba) (O d.ba)) b
section
variable {s:PS}{B:Nat->Nat}
def Apa.at(f:Apa l m bs d A B)(p:SolP n m d s){i:Nat}(hi:i<=m):d.ta[i]?=ξ (B i,rowL n (s.T i)):=by have⟨zs,e⟩:=f.ta i hi;have⟨r,c,g,o⟩:=p.ta i hi;rw[e]at c;cases c;have q:zs=rowL n (s.T i):=fI g o;rw[e,q]
def Apa.tb(c:Apa l m bs d A B)(g:SM l h n0 bs d A)(o:SolP n m d s):Tb h n0 m n B s.T:=
 ⟨λa f=>(g.rw _ (CL (c.at o f))).1,λa f=>(g.rw _ (CL (c.at o f))).2,c.inj⟩
def Apa.ne(v:Apa l m bs d A B)(o:SM l h n0 bs d A)(D:SolP n m d s)(C:0<n){i:Nat}(hi:i<=m):B i≠bs:=λe=>by
 have⟨b,a,u,c,L,F,_⟩:=o.st;have⟨H,G,K,I,p,_⟩:=(v.tb o D).el hi C;rw[e]at p;have⟨f,J,g,w,_,y⟩:=p;rw[F]at g;cases g;cases w;cases y
end
def Rec.key{C:List ψ}{p:List (Nat×List Int)}{h h':HF}{n n':Nat}(g:Rec 1 (λc d=>KN c d h n) C p):∀{f:List (Nat×List Int)},f.map (λr=>(r.1,O r.2))=p.map (λr=>(r.1,O r.2))->Rec 1 (λc d=>KN c d h' n') C f:=by
 induction g with
 |nil=>
  intro f e;cases f with
  |nil=>exact .nil
  |cons x y=>cases e
 |cons hl o hr ih=>
  intro f e;cases f with
  |nil=>cases e
  |cons x y=>
   injection e with e1 e2;injection e1 with e3 e4;refine .cons hl ?_ (ih e2);show _=_;have o:_=_:=o;rw[o,e3,e4]
theorem GR.key{lo n:Nat}{h:HF}{e:TypeId}{v:ψ}{f c:List (Nat×List Int)}(g:GR 1 KN lo h n e v f)(k:c.map (λr=>(r.1,O r.2))=f.map (λr=>(r.1,O r.2))):GR 1 KN lo h n e v c:=by
 have⟨C,o,p,u⟩:=g;have w:O c=O f:=by grind [O,CU]
 exact⟨C,by rw[w];exact o,p.key k,u⟩
theorem SM.piv{l n0 n' bs m H I:Nat}{h h':HF}{d:Sol}{A:Adr}{B:Nat->Nat}{L:Int}{p w:List Nat}{o:List (Nat×List Int)}{b:Bool}{a:Option Addr}{u c:Nat}{ty:TypeId}(f:SM l h n0 bs d A)(W:∀a,a<=m->gro (B a)=χ)(hv:A.ba=ξ ⟨H,0,θ⟩)(Z0:A.nb=ξ ⟨I,0,θ⟩)(T:Tr n0 h n' h')(K:∀b,b<3*n0->b≠bs->(∀a,a<=m->b≠B a)->b≠H->b≠I->h' b=h b)
  (st:h' bs=ξ (.row [CJ .i64 (d.n:Int),Y A.sc (O d.sc) (O d.sc),Y A.lo (O d.lo) (O d.lo),Y A.hi (O d.hi) (O d.hi),Y A.va (O d.va) (O d.va),Y A.ba (O d.ba) (O d.ba),Y A.nb (O d.nb) (O d.nb),Y A.ta (O d.ta) (O d.ta),U b,Y a u c] ty))(i:IW h' n' b a u c L)(Z1:O p=O d.ba)(R:O w=O d.nb)(ob:GR 1 natP l h' n' 3 (Y A.ba (O d.ba) (O d.ba)) p)(on:GR 1 natP l h' n' 3 (Y A.nb (O d.nb) (O d.nb)) w)(k:o.map (λr=>(r.1,O r.2))=d.ta.map (λr=>(r.1,O r.2)))(V:∀r∈o,OZ h' n' r.1 r.2/\gro r.1=χ):SM l h' n' bs {d with den:=L,ba:=p,nb:=w,ta:=o} A:=by
 have S:O o=O d.ta:=by grind [O,CU]
 have F:∀{sz:Nat} {D:Type} {P:List ψ->D->HF->Nat->Prop} {ds:List D} {v:ψ} {e:TypeId},GR sz P l h n0 e v ds->(∀b,BkOf v b->b≠H/\b≠I)->∀b,BkOf v b->h' b=h b:=λg J b y=>(by have C:=g.bk b y;exact K b C.2.1 (λq=>by rw[q,f.bs.2]at C;cases C.2.2.1) (λa Z3 q=>by rw[q,W a Z3]at C;cases C.2.2.1) (J b y).1 (J b y).2);have G:∀{sz:Nat} {D:Type} {P:List ψ->D->HF->Nat->Prop} {ds:List D} {v:ψ} {e:TypeId},GR sz P l h n0 e v ds->e≠3->∀b,BkOf v b->b≠H/\b≠I:=λg M b y=>
  ⟨λq=>g.ne f.ba M b y ⟨0,O d.ba,O d.ba,by rw[hv,q]⟩,λq=>g.ne f.nb M b y ⟨0,O d.nb,O d.nb,by rw[Z0,q]⟩⟩
 refine⟨⟨b,a,u,c,ty,?_,i⟩,⟨by have:=f.bs.1;have:=T.1;omega,f.bs.2⟩,f.sc.go Ei T (F f.sc (G f.sc zd)),f.lo.go Gd T (F f.lo (G f.lo zd)),f.hi.go Gd T (F f.hi (G f.hi zd)),f.va.go Ei T (F f.va (G f.va zd)),?_,?_,?_,V,f.dj⟩;show h' bs=ξ (.row [_,_,_,_,_,Y A.ba (O p) (O p),Y A.nb (O w) (O w),Y A.ta (O o) (O o),_,_] ty);rw[Z1,R,S];exact st;show GR _ _ _ _ _ _ (Y A.ba (O p) (O p)) _;rw[Z1];exact ob;show GR _ _ _ _ _ _ (Y A.nb (O w) (O w)) _;rw[R];exact on;show GR _ _ _ _ _ _ (Y A.ta (O o) (O o)) _;rw[S];exact(f.ta.go J0 T (F f.ta (G f.ta zd))).key k
def WW.l39P{h:HF}{n:Nat}{a:Option Addr}{l m:Nat}(i:WW h n a l c m)(hm:m<BW):l<40:=by obtain⟨L,f,g,rfl⟩:=i;have:=g.len39 hm;have:=f.lenW;omega
def za9{a b c f:Int}{Z1 T:Nat}(p:a.natAbs<2^Z1)(q:b.natAbs<2^T)(h3:c.natAbs<2^Z1)(u:f.natAbs<2^T)(h:Z1+T+1<=2496):(0+a*b-c*f).natAbs<BW:=by have g:=GP p q;have o:=GP h3 u;rw[<-D4]at g o;refine yU (e:=Z1+T+1) ?_ h;have:=ac4 (a*b) (c*f);rw[Dz,Dz]at this;rw[am8,Db];omega
def At.k{h:HF}{b o:Nat}{c:List ψ}(a:At h b o c)(e:h' b=h b):At h' b o c:=by have⟨y,f,g,p⟩:=a.ex;exact⟨y,f,e.trans g,p⟩
def LB(T:Nat->Nat->Int)(d:Int)(m r e j:Nat):Nat->Nat->Int:=λa b=>if a=r/\b<j then -T r b else KK T d r e (m+1) 0 a b
section
variable {T:Nat->Nat->Int}{d:Int}{e a:Nat}
def zg3:LB T d m r e 0=KK T d r e (m+1) 0:=by funext a b;unfold LB;rw[Cs Z]
def zlt:LB T d m r e j r j=T r j:=by unfold LB;rw[Cs Z,pS (.inl ω)]
theorem zg4:LM (LB T d m r e j) r j (-T r j)=LB T d m r e (j+1):=by unfold LM Ke LB;grind
def Mu(T:Nat->Nat->Int)(d:Int)(m r e j:Nat):Nat->Nat->Int:=LM (LB T d m r e j) r e d
def Li(Z4:Nat->Nat->Int)(i j:Nat):Nat->Nat->Int:=λa b=>if a<i\/a=i/\b<j then -Z4 a b else Z4 a b
def zg1{Z4:Nat->Nat->Int}:Li Z4 0 0=Z4:=by funext a b;unfold Li;rw[Cs Z]
def zlr{Z4:Nat->Nat->Int}:Li Z4 i j i j=Z4 i j:=by unfold Li;rw[Cs Z]
theorem zg2{Z4:Nat->Nat->Int}:LM (Li Z4 i j) i j (-Z4 i j)=Li Z4 i (j+1):=by unfold LM Ke Li;grind
theorem zlq{Z4:Nat->Nat->Int}(hb:b<N):Li Z4 i N a b=Li Z4 (i+1) 0 a b:=by grind [Li]
def zls{Z4:Nat->Nat->Int}(f:a<=m):Li Z4 (m+1) 0 a b= -Z4 a b:=by unfold Li;rw[Cx Z]
def Ut(f:a<=m)(hb:b<N):sgn (T r e)*Mu T d m r e N a b=pT T d r e a b:=by unfold Mu pT LM Ke;by_cases h:a=r;rw[Cx h,Cx h];show _*(if b=e then _ else _)=_;by_cases h2:b=e;rw[Cx h2,Cx h2];rw[Cs h2,Cs h2];unfold LB;rw[Cx ⟨ω,hb⟩];rw[Cs h,Cs h];unfold LB KK;rw[Cs Z];by_cases h2:b=e;rw[Cs Z,Cx h2,h2];rw[Cx Z,Cs h2]
end
def Mv(m N:Nat)(B:Nat->Nat)(Z4:Nat->Nat->Int):List (Nat×List Int):=(DV (m+1)).map λi=>(B i,rowL N (Z4 i))
def Uu{m:Nat}{B:Nat->Nat}{Z4:Nat->Nat->Int}:O (Mv m N B Z4)=m+1:=by unfold Mv;rw[CU,Fo]
theorem Qt{m:Nat}{B:Nat->Nat}{Z4:Nat->Nat->Int}(h:i<=m):(Mv m N B Z4)[i]?=ξ (B i,rowL N (Z4 i)):=by grind [Mv]
def zl0{l n m bs:Nat}{d:Sol}{A:Adr}{s:PS}{B:Nat->Nat}{Z4:Nat->Nat->Int}(f:SolP n m d s)(g:Apa l m bs d A B):(Mv m n B Z4).map (λr=>(r.1,O r.2))=d.ta.map (λr=>(r.1,O r.2)):=by refine Et λi=>?_;rw[DC,DC];by_cases h:i<=m;rw[Qt h,g.at f h];show ξ (B i,O (rowL n (Z4 i)))=ξ (B i,O (rowL n (s.T i)));rw[yv,yv];rw[Dl (by rw[Uu];omega),Dl (by have:=f.tl;omega)]
section
variable {e:Nat}{s:PS}{a:Nat->Nat->Int}{B:Nat->Nat}
def Uv(k:Nat)(sm:SM l h n0 bs d A)(sp:SolP n m d s)(pb:PB n m a L s.toPT)(sz:SzP n m V T Z1 BB d s)(lm:Lim V T Z1 D BB)(ap:Apa l m bs d A B)(hr:r<m)(he:e<n)(ht:s.T r e≠0):
  CF (Ka (k+12)) 51 [ι bs,CJ .i64 (r:Int),CJ .i64 (e:Int)] h n0 λ_ h' u w=>n0<=u/\SM l h' u bs {d with den:=((s.T r e).natAbs:Int),ba:=d.ba.set r (s.nb e),nb:=d.nb.set e (s.bs r),ta:=Mv m n B (pT s.T s.d r e)} A/\Tr n0 h u h'/\(∀b,b<3*n0->b≠bs->(∀a,a<=m->b≠B a)->¬BkOf (Y A.ba (O d.ba) (O d.ba)) b->¬BkOf (Y A.nb (O d.nb) (O d.nb)) b->h' b=h b)/\(∀c∈w,3*l<=c)/\(∀b,BkOf (Y A.nb (O d.nb) (O d.nb)) b->b∈w):=by
 have⟨b0,a0,u0,c0,ty,st,i0⟩:=sm.st;have bg:=sm.bs.1;have ij:=sp.nm;have tl:=sp.tl;have nl:=sp.nl;have bl:=sp.bl;have tb:=ap.tb sm sp;have bh:=λi hi=>ap.ne sm sp (i:=i) Z hi;have e6:=sp.de;have ie:=pb.tab.dp;have fz:=sz.dd;have ig:=lm.l2;have g0:=lm.l4;have ii:=lm.l5;have av:∀i c,i<=m->c<n->(s.T i c).natAbs<2^Z1:=λi c hi hc=>(by by_cases q:i=m;rw[q];exact sz.tO c hc;exact CZ (sz.tT i Z c hc) (CW zd g0));have⟨bt,aq,lt,ct,tt,it⟩:=tb.el (D9 hr) he;have fy:=(tb.o r (D9 hr)).1;have⟨k1,o1,e1,m1,r1,t1⟩:=rwS.at sm.ta.rs (ap.at sp (D9 hr));refine Lu R4<|zG ?_;refine sI e1 r1 ?_;refine sL t1 m1 0 ?_;refine zG ?_;refine sI ω (show e<O (rowL n (s.T r)) by rw[yv];exact he) ?_;refine sL tt fy 0 ?_;refine Za λh1 p1 x1=>?_;refine zG ?_;refine sS [U bt,Y aq lt ct] λh2 p2 o2=>?_;have T2:Tr n0 h (n0+1) h2:=zt;have K2:∀b,b<3*n0->(∀a,a<=m->b≠B a)->h2 b=h b:=λb hb _=>(o2.1 b Z).trans (x1 b hb);have gs:Tb h2 (n0+1) m n B (KK s.T s.d r e 0 0):=by rw[zgz];exact tb.go T2 λa ha=>(o2.1 _ (by have:=(tb.o a ha).1;omega)).trans (x1 _ (tb.o a ha).1)
 have e7:∀{b},BkOf (Y A.ta (O d.ta) (O d.ta)) b->∀a,a<=m->b≠B a:=λhb a ha q=>(by have:=(sm.ta.bk _ hb).2.2.1;rw[q,tb.g a ha]at this;cases this);have ir:h2 bs=_:=(K2 bs bg λa ha q=>bh a ha q.symm).trans st;refine zG ?_;refine sF (α:=Nat) (λz=>[(0,ι bs),(1,CJ .i64 (r:Int)),(2,CJ .i64 (e:Int)),(6,Y (ξ ⟨B r,0,θ⟩) (O (rowL n (s.T r))) (O (rowL n (s.T r)))),(7,ι (3*n0+2)),(34,Y A.ta (O d.ta) (O d.ta)),(35,CJ .i64 (O d.ta:Int)),(36,CJ .i64 (z:Int))]) (λz h' u Z3=>n0+1<=u/\Tb h' u m n B (KK s.T s.d r e z 0)/\Tr n0 h u h'/\(∀b,b<3*n0->(∀a,a<=m->b≠B a)->h' b=h b)/\h' (3*n0+2)=ξ (.row [U bt,Y aq lt ct] 60)/\(∀c∈Z3,∃a,a<=m/\c=B a)/\z<=m+1) (λz=>m+1-z) 0 ⟨CG,gs,T2,K2,p2,λc hc=>BO hc CT,CH⟩ ?_;rintro i t h3 n3 w3⟨y3,ac,T3,K3,p3,d1,hi⟩;have y3:n0+1<=n3:=y3;have ac:Tb h3 n3 m n B (KK s.T s.d r e i 0):=ac;have T3:Tr n0 h n3 h3:=T3;have K3:∀b,b<3*n0->(∀a,a<=m->b≠B a)->h3 b=h b:=K3;have p3:h3 (3*n0+2)=ξ (.row [U bt,Y aq lt ct] 60):=p3;have hi:i<=m+1:=hi;refine zG ?_;by_cases q3:(i:Int)<(O d.ta:Int);have y:i<=m:=Z;have⟨k4,o4,e4,m4,r4,t4⟩:=rwS.at sm.ta.rs (ap.at sp y);have t4:=t4.k (K3 k4 m4 (e7 ⟨o4,_,_,by rw[e4]⟩));have⟨b5,a5,l5,c5,t5,i5⟩:=ac.el y he;have fw:=(ac.o i y).1;refine zG ?_;refine sI e4 r4 ?_;refine sL t4 (show k4<3*n3 from Z) 0 ?_;refine zG ?_;refine sI ω (show e<O (rowL n (s.T i)) by rw[yv];exact he) ?_;refine sL t5 fw 0 ?_;refine Za λh6 p6 x6=>?_;refine zG ?_;refine sS [U b5,Y a5 l5 c5] λh7 p7 o7=>?_;have T7:Tr n3 h3 (n3+1) h7:=zt;have k7:Exo n3 h3 h7:=⟨λb hb=>(o7.1 b Z).trans (x6 b hb)⟩;have ep:=ac.go T7 λa ha=>k7.go _ (ac.o a ha).1;have ej:=(k7.go (3*n0+2) Z).trans p3;have dy:Tr n0 h (n3+1) h7:=T3.trans T7;have du:∀b,b<3*n0->(∀a,a<=m->b≠B a)->h7 b=h b:=λb hb hn=>(k7.go b Z).trans (K3 b hb hn);have g6:=i5.t T7;by_cases q4:(i:Int)=(r:Int);refine zG ?_;exact sK (i+1) ⟨Z,ep.as λa b _ _=>by rw[show i=r by omega];exact zln,dy,du,ej,d1,Aq⟩;have e8:i≠r:=Z;refine zG ?_;refine sF (α:=Nat) (λz=>[(0,ι bs),(1,CJ .i64 (r:Int)),(2,CJ .i64 (e:Int)),(6,Y (ξ ⟨B r,0,θ⟩) (O (rowL n (s.T r))) (O (rowL n (s.T r)))),(7,ι (3*n0+2)),(9,Y (ξ ⟨B i,0,θ⟩) (O (rowL n (s.T i))) (O (rowL n (s.T i)))),(10,ι (3*n3+2)),(34,Y A.ta (O d.ta) (O d.ta)),(35,CJ .i64 (O d.ta:Int)),(36,CJ .i64 (i:Int)),(48,Y (ξ ⟨B i,0,θ⟩) (O (rowL n (s.T i))) (O (rowL n (s.T i)))),(49,CJ .i64 (O (rowL n (s.T i)):Int)),(50,CJ .i64 (z:Int))]) (λz h' u Z3=>n3+1<=u/\Tb h' u m n B (KK s.T s.d r e i z)/\Tr (n3+1) h7 u h'/\(∀b,b<3*(n3+1)->b≠B i->h' b=h7 b)/\(∀c∈Z3,∃a,a<=m/\c=B a)/\z<=n) (λz=>n-z) 0 ⟨CG,ep,Eo _ _,λ_ _ _=>rfl,d1,CH⟩ ?_;rintro j t W v w8⟨y8,I,T8,K8,aw,hj⟩;have y8:n3+1<=v:=y8;have I:Tb W v m n B (KK s.T s.d r e i j):=I;have T8:Tr (n3+1) h7 v W:=T8;have K8:∀b,b<3*(n3+1)->b≠B i->W b=h7 b:=K8;have hj:j<=n:=hj;have fx:B i<3*n0:=(tb.o i y).1;have be:Tr n0 h v W:=dy.trans T8;have bc:∀b,b<3*n0->(∀a,a<=m->b≠B a)->W b=h b:=λb hb hn=>(K8 b Z (hn i y)).trans (du b hb hn);have bj:=(K8 (3*n0+2) Z Z).trans ej;have gi:=(K8 (3*n3+2) Z (by have:=fx;omega)).trans p7;have eL:O (rowL n (s.T i))=n:=yv;refine zG ?_;by_cases q8:(j:Int)<(O (rowL n (s.T i)):Int);have H:j<n:=Z;have⟨b9,a9,l9,c9,t9,i9⟩:=I.el y H;rw[pS (.inr (.inr ⟨ω,CG⟩))]at i9;have cv:=(I.o i y).1;refine zG ?_;refine sI ω (show j<O (rowL n (s.T i))from Z) ?_;refine sL t9 cv 0 ?_;refine Za λar b1 bm=>?_;refine zG ?_;refine sS [U b9,Y a9 l9 c9] λJ ge bi=>?_;have an:Tr v W (v+1) J:=zt;have ay:Exo v W J:=⟨λb hb=>(bi.1 b Z).trans (bm b hb)⟩;have c1:=I.go an λa ha=>ay.go _ (I.o a ha).1;have gz:=(ay.go (3*n0+2) Z).trans bj;have i1:=(ay.go (3*n3+2) Z).trans gi;have b7:=i9.t an;have bq:=g6.t (T8.trans an);rw[pS (.inr (.inl ω))]at bq;have⟨cp,co,d5,cr,eo,ab⟩:=c1.el (D9 hr) H;rw[pS (.inl ω)]at ab;have cu:=(c1.o r (D9 hr)).1;simp only[yu,xg,zK,yY];refine yj (α:=Bool) (λz=>[(0,ι bs),(1,CJ .i64 (r:Int)),(2,CJ .i64 (e:Int)),(6,Y (ξ ⟨B r,0,θ⟩) (O (rowL n (s.T r))) (O (rowL n (s.T r)))),(7,ι (3*n0+2)),(9,Y (ξ ⟨B i,0,θ⟩) (O (rowL n (s.T i))) (O (rowL n (s.T i)))),(10,ι (3*n3+2)),(11,CJ .i64 (j:Int)),(12,ι (3*v+2)),(34,Y A.ta (O d.ta) (O d.ta)),(35,CJ .i64 (O d.ta:Int)),(36,CJ .i64 (i:Int)),(48,Y (ξ ⟨B i,0,θ⟩) (O (rowL n (s.T i))) (O (rowL n (s.T i)))),(49,CJ .i64 (O (rowL n (s.T i)):Int)),(50,CJ .i64 (j:Int)),(72,U z)]) (λz h' u Z3=>w8=Z3/\v+1<=u/\J9 (v+1) J h'/\(z=φ/\(j=e\/j≠e/\s.T i j=0/\(s.T i e=0\/s.T r j=0))\/z=χ/\j≠e)) ?_ ?_;have ce:(j:Int)≠(e:Int)->j≠e:=λh q=>h (by rw[q]);by_cases q9:(j:Int)=(e:Int);refine zG ?_;exact zA φ (by(repeat (first|exact trivial|refine⟨ω,?_⟩))) ⟨ω,CG,FH _ _,.inl ⟨ω,.inl Z⟩⟩;refine zG ?_;refine sC (yK _ b7) ?_;rintro _ c4 a2⟨cq,rfl,ey⟩ b6 bn;obtain⟨rfl,da⟩|⟨rfl,da⟩:=Kg ey;refine zG ?_;exact zA χ (by(repeat (first|exact trivial|refine⟨ω,?_⟩))) ⟨ω,b6,bn,.inr ⟨ω,ce q9⟩⟩;refine zG ?_;refine sC (yK _ bq.x) ?_;rintro _ a6 eg⟨i4,rfl,ez⟩ j0 iy;obtain⟨rfl,em⟩|⟨rfl,em⟩:=Kg ez;refine zG ?_;refine sI ω (show j<O (rowL n (s.T r)) by rw[yv];exact H) ?_;refine sL eo cu 0 ?_;refine zG ?_;refine sC (yK _ ab.x) ?_;rintro _ R F⟨i6,rfl,f0⟩ dq iz;obtain⟨rfl,db⟩|⟨rfl,db⟩:=Kg f0;refine zG ?_;exact zA χ (by(repeat (first|exact trivial|refine⟨ω,?_⟩))) ⟨ω,(show Tx (v+1) J F R from zx).1,(show Tx (v+1) J F R from zx).2,.inr ⟨ω,ce q9⟩⟩;refine zG ?_;exact zA φ (by(repeat (first|exact trivial|refine⟨ω,?_⟩))) ⟨ω,(show Tx (v+1) J F R from zx).1,(show Tx (v+1) J F R from zx).2,.inl ⟨ω,.inr ⟨ce q9,da,.inr db⟩⟩⟩;refine zG ?_;exact zA φ (by(repeat (first|exact trivial|refine⟨ω,?_⟩))) ⟨ω,(show Tx (v+1) J eg a6 from zx).1,(show Tx (v+1) J eg a6 from zx).2,.inl ⟨ω,.inr ⟨ce q9,da,.inl em⟩⟩⟩;rintro z t G f _⟨rfl,a3,b2,hz⟩;have a3:v+1<=f:=a3;have b2:J9 (v+1) J G:=b2;have aa:Tr v W f G:=an.e b2 a3;have c3:Exo (v+1) J G:=⟨b2⟩;have P:=c1.x ⟨a3,b2⟩;have d3:Exo v W G:=⟨λb hb=>(b2 b Z).trans (ay.go b hb)⟩;have ex:∀b,b<3*n0->(∀a,a<=m->b≠B a)->G b=h b:=λb hb hn=>(d3.go b Z).trans (bc b hb hn);obtain⟨rfl,hz⟩|⟨rfl,hz⟩:=hz;refine zG ?_;exact sK (j+1) ⟨Z,P.as λa b _ _=>by obtain rfl|⟨hz,h1,h2⟩:=hz;rw[zlp];rw[zg0 e8 hz h1 h2],T8.trans aa,λb (hb:b<3*(n3+1)) hn=>(d3.go b Z).trans (K8 b hb hn),aw,qe⟩;have e3:Tr n0 h f G:=be.trans aa;refine Za λM gh ae=>?_;have gj:SumO f M (f+1) (3*f+2) 0 0:=SumO.start Z Z (zB f) gh;have ax:IW M f b9 a9 l9 c9 (s.T i j):=(b7.x ⟨a3,c3.go⟩).ext ae CG;have az:IW M f bt aq lt ct (s.T r e):=(it.t e3).ext ae CG;have ec:IW M f b5 a5 l5 c5 (s.T i e):=(bq.x ⟨a3,c3.go⟩).ext ae CG;have ed:IW M f cp co d5 cr (s.T r j):=(ab.x ⟨a3,c3.go⟩).ext ae CG;refine zG ?_;refine zF _ R5 (nO _ gj Zq ax az (ax.2.l39P (yU (av _ _ y H) Z)) (az.2.l39P (yU (av _ _ (D9 hr) he) Z)) Z) ?_;rintro _ ag im iw⟨gk,j1,b3,_,f4⟩;rw[zV (λb hb=>by have:=f4 b hb;show 3*n0<=b;omega)];have b3:J9 f M ag:=b3;have bz:ag bs=_:=(b3 bs Z).trans ((ae bs Z).trans ((ex bs bg λa ha q=>bh a ha q.symm).trans st));have fa:=eo.ext c3.go cu;refine kh ?_;refine dI ω (show j<O (rowL n (s.T r)) by rw[yv];exact H) ?_;refine dL fa (show B r<3*f from Z) 0 ?_;refine zH ?_;refine wa _ R7 (ff _ gk Z (ec.ext b3 CG) (ed.ext b3 CG) (ec.2.l39P (yU (av _ _ y he) Z)) (ed.2.l39P (yU (av _ _ (D9 hr) H) Z)) Z) ?_;rintro _ fv io ix⟨gl,gx,ci,_,f5⟩;refine⟨ω,gx,?_⟩;have ci:J9 f ag fv:=ci;rw[M0,zV (λb hb=>by have:=f5 b hb;show 3*n0<=b;omega)];refine kh ?_;refine dC (zot _ gl Z) ?_;rintro _ c6 eh⟨i7,i3,ik,ib,rfl,g4⟩ j2 et;have i2:c6 bs=_:=(et bs Z).trans ((ci bs Z).trans bz);refine zH ?_;have ee:Exo f G c6:=⟨λb hb=>(et b Z).trans ((ci b Z).trans ((b3 b Z).trans (ae b hb)))⟩;have f6:IW c6 eh b0 a0 u0 c0 s.d:=((i0.t e3).ext ee.go Z).as e6;refine dC (quoX _ g4 f6 (za9 (av _ _ y H) (sz.tT r hr e he) (av _ _ y he) (sz.tT r hr j H) Z) (yU fz Z) Z) ?_;rintro _ cs d6⟨fn,fk,ga,fq,rfl,g5⟩ j3 dn;have dn:J9 eh c6 cs:=dn;have d7:f<=d6:=Z;have d4:Exo f G cs:=⟨λb hb=>(dn b Z).trans (ee.go b hb)⟩;have dk:=P.x (n':=d6) ⟨d7,d4.go⟩;have fh:Tr f G d6 cs:=⟨d7,λc hc=>.inl (d4.go c hc)⟩;have ou:=dk.o i y;refine zH ?_;refine dI ω (show j<O (rowL n (s.T i))from Z) ?_;refine dZ (n0:=n0) (j:=j) [U fn,Y fk ga fq] ou FL (by rw[yv];exact H) (Dd _) ⟨_,_,_,_,ω,g5⟩ ?_;intro id gd cl _;have dl:=dk.set y gd cl;rw[am8,Us e8 hz]at dl;refine zG ?_;exact sK (j+1) ⟨Z,dl,FT cl (T8.trans (aa.trans fh)),λb (hb:b<3*(n3+1)) hn=>(cl.1 b hn).trans ((d4.go b Z).trans ((d3.go b Z).trans (K8 b hb hn))),yL (λc hc=>⟨i,y,C0.1 hc⟩) aw,qe⟩;have H:j=n:=Z;subst H;refine zG ?_;exact sK (i+1) ⟨Z,I.as λa b _ hb=>zlm hb,be,bc,bj,aw,Aq⟩;have cx:i=m+1:=Z;subst cx;rw[<-zg3]at ac;refine zG ?_;have eR:O (rowL n (s.T r))=n:=yv;refine sF (α:=Nat) (λz=>[(0,ι bs),(1,CJ .i64 (r:Int)),(2,CJ .i64 (e:Int)),(6,Y (ξ ⟨B r,0,θ⟩) (O (rowL n (s.T r))) (O (rowL n (s.T r)))),(7,ι (3*n0+2)),(93,Y (ξ ⟨B r,0,θ⟩) (O (rowL n (s.T r))) (O (rowL n (s.T r)))),(94,CJ .i64 (O (rowL n (s.T r)):Int)),(95,CJ .i64 (z:Int))]) (λz h' u Z3=>n3<=u/\Tb h' u m n B (LB s.T s.d m r e z)/\Tr n3 h3 u h'/\(∀b,b<3*n3->b≠B r->h' b=h3 b)/\(∀c∈Z3,∃a,a<=m/\c=B a)/\z<=n) (λz=>n-z) 0 ⟨CG,ac,Eo _ _,λ_ _ _=>rfl,d1,CH⟩ ?_;rintro j t W v w8⟨y8,I,T8,K8,aw,hj⟩;have y8:n3<=v:=y8;have I:Tb W v m n B (LB s.T s.d m r e j):=I;have T8:Tr n3 h3 v W:=T8;have K8:∀b,b<3*n3->b≠B r->W b=h3 b:=K8;have hj:j<=n:=hj;have Z0:=D9 hr;have be:Tr n0 h v W:=T3.trans T8;have bc:∀b,b<3*n0->(∀a,a<=m->b≠B a)->W b=h b:=λb hb hn=>(K8 b Z (hn r Z0)).trans (K3 b hb hn);have bj:=(K8 (3*n0+2) Z Z).trans p3;refine zG ?_;by_cases q8:(j:Int)<(O (rowL n (s.T r)):Int);have H:j<n:=Z;have⟨b9,a9,l9,c9,t9,i9⟩:=I.el Z0 H;rw[zlt]at i9;have cv:=(I.o r Z0).1;refine zG ?_;refine sI ω (show j<O (rowL n (s.T r))from Z) ?_;refine sL t9 cv 0 ?_;refine Za λar b1 bm=>?_;refine zG ?_;refine sS [U b9,Y a9 l9 c9] λJ ge bi=>?_;have an:Tr v W (v+1) J:=zt;have ay:Exo v W J:=⟨λb hb=>(bi.1 b Z).trans (bm b hb)⟩;have b7:=i9.t an;refine zG ?_;refine sC (negX _ b7) ?_;rintro _ au a7⟨cp,co,d5,cr,rfl,ab⟩ b4 ch;have a1:Exo v W au:=⟨λb hb=>(ch b Z).trans (ay.go b hb)⟩;have a8:=I.x (n':=a7) ⟨Z,a1.go⟩;refine sI ω (show j<O (rowL n (s.T r))from Z) ?_;refine sZ (n0:=n0) (j:=j) [U cp,Y co d5 cr] (a8.o r Z0) FL (by rw[yv];exact H) (Dd _) ⟨_,_,_,_,ω,ab⟩ ?_;intro c4 gb ck;have df:=a8.set Z0 gb ck;rw[zg4]at df;refine zG ?_;exact sK (j+1) ⟨Z,df,FT ck (T8.trans ⟨Z,λc hc=>.inl (a1.go c hc)⟩),λb (hb:b<3*n3) hn=>(ck.1 b hn).trans ((a1.go b Z).trans (K8 b hb hn)),yL (λc hc=>⟨r,Z0,C0.1 hc⟩) aw,qe⟩;have H:j=n:=Z;subst H;have cw:∀a,a<=m->bs≠B a:=λa ha q=>bh a ha q.symm;have gm:=(bc bs bg cw).trans st;refine zG ?_;refine sI ω (show e<O (rowL j (s.T r))from Z) ?_;refine sZ (n0:=n0) (j:=e) [U b0,Y a0 u0 c0] (I.o r Z0) FL (by rw[yv];exact he) (Dd _) ⟨_,_,_,_,ω,i0.t be⟩ ?_;intro h9 o9 S9;have eq:=I.set Z0 o9 S9;have en:=(S9.1 bs (cw r Z0)).trans gm;have ek:=(S9.1 (3*n0+2) Z).trans bj;have fd:=FT S9 be;refine zG ?_;refine Qd (n0:=n0) [CJ .i64 (d.n:Int),Y A.sc (O d.sc) (O d.sc),Y A.lo (O d.lo) (O d.lo),Y A.hi (O d.hi) (O d.hi),Y A.va (O d.va) (O d.va),Y A.ba (O d.ba) (O d.ba),Y A.nb (O d.nb) (O d.nb),Y A.ta (O d.ta) (O d.ta),U bt,Y aq lt ct] en λar b1 al=>?_;have cm:=FT al fd;have d2:=it.t cm;have dv:∀b,b<3*n0->b≠bs->(∀a,a<=m->b≠B a)->ar b=h b:=λb hb h1 h2=>(al.1 b h1).trans ((S9.1 b (h2 r Z0)).trans (bc b hb h2));have d9:=(al.1 (3*n0+2) Z).trans ek;have aj:=eq.go (FT al (Eo _ _)) λa ha=>al.1 _ (bh a ha);have bp:∀c∈addW n0 [bs] (addW n0 [B r] w8),c=bs\/∃a,a<=m/\c=B a:=yL (λc hc=>.inl (C0.1 hc)) (yL (λc hc=>.inr ⟨r,Z0,C0.1 hc⟩) λc hc=>.inr (aw c hc));have c8:bs∈addW n0 [bs] (addW n0 [B r] w8):=wQ bg eF;generalize addW n0 [bs] (addW n0 [B r] w8)=w10 at bp c8⊢;rw[e6]at aj;have aj:Tb ar v m j B (Mu s.T s.d m r e j):=aj;simp only[yu,xg,zK,yY];refine yj (α:=Bool) (λz=>[(0,ι bs),(1,CJ .i64 (r:Int)),(2,CJ .i64 (e:Int)),(7,ι (3*n0+2)),(119,U z)]) (λz h' u Z3=>w10=Z3/\v<=u/\J9 v ar h'/\(z=φ/\s.T r e<0\/z=χ/\0<s.T r e)) ?_ ?_;refine zG ?_;refine sC (Nf _ d2.t) ?_;rintro _ J il⟨iq,rfl,ai⟩ eu er;obtain⟨rfl,ai⟩|⟨rfl,ai⟩|⟨rfl,ai⟩:=ai;refine zG ?_;exact zA φ (by(repeat (first|exact trivial|refine⟨ω,?_⟩))) ⟨ω,eu,er,.inl ⟨ω,ai⟩⟩;exact BO ai ht;refine zG ?_;exact zA χ (by(repeat (first|exact trivial|refine⟨ω,?_⟩))) ⟨ω,eu,er,.inr ⟨ω,ai⟩⟩;rintro z t au a7 _⟨rfl,b4,ch,hz⟩;have b4:v<=a7:=b4;have a1:Exo v ar au:=⟨ch⟩;have cn:Tr n0 h a7 au:=cm.trans ⟨b4,λc hc=>.inl (a1.go c hc)⟩;have cj:∀b,b<3*n0->b≠bs->(∀a,a<=m->b≠B a)->au b=h b:=λb hb h1 h2=>(a1.go b Z).trans (dv b hb h1 h2);have f8:=(a1.go (3*n0+2) Z).trans d9;have bx:=(a1.go bs Z).trans b1;have a8:=aj.x ⟨b4,a1.go⟩;have ab:=d2.ext a1.go b4;refine yj (α:=Bool×Option Addr×Nat×Nat) (λ_=>[(0,ι bs),(1,CJ .i64 (r:Int)),(2,CJ .i64 (e:Int))]) (λz h' u Z3=>a7<=u/\h' bs=ξ (.row [CJ .i64 (d.n:Int),Y A.sc (O d.sc) (O d.sc),Y A.lo (O d.lo) (O d.lo),Y A.hi (O d.hi) (O d.hi),Y A.va (O d.va) (O d.va),Y A.ba (O d.ba) (O d.ba),Y A.nb (O d.nb) (O d.nb),Y A.ta (O d.ta) (O d.ta),U z.1,Y z.2.1 z.2.2.1 z.2.2.2] ty)/\IW h' u z.1 z.2.1 z.2.2.1 z.2.2.2 ((s.T r e).natAbs:Int)/\Tb h' u m j B (pT s.T s.d r e)/\Tr n0 h u h'/\(∀b,b<3*n0->b≠bs->(∀a,a<=m->b≠B a)->h' b=h b)/\(∀c∈Z3,c=bs\/∃a,a<=m/\c=B a)/\bs∈Z3) ?_ ?_;obtain⟨rfl,hz⟩|⟨rfl,hz⟩:=hz;refine zG ?_;refine sC (negX _ ab) ?_;rintro _ c4 a2⟨cq,e0,ef,e2,rfl,ea⟩ b6 bn;have cg:Exo a7 au c4:=⟨bn⟩;have b6:a7<=a2:=b6;have dc:=(bn bs Z).trans bx;refine zG ?_;refine Qd (n0:=n0) [CJ .i64 (d.n:Int),Y A.sc (O d.sc) (O d.sc),Y A.lo (O d.lo) (O d.lo),Y A.hi (O d.hi) (O d.hi),Y A.va (O d.va) (O d.va),Y A.ba (O d.ba) (O d.ba),Y A.nb (O d.nb) (O d.nb),Y A.ta (O d.ta) (O d.ta),U cq,Y e0 ef e2] dc λa6 gf am=>?_;have fe:Tr n0 h a2 a6:=FT am (cn.trans ⟨b6,λc hc=>.inl (cg.go c hc)⟩);have dw:∀b,b<3*n0->b≠bs->(∀a,a<=m->b≠B a)->a6 b=h b:=λb hb h1 h2=>(am.1 b h1).trans ((cg.go b Z).trans (cj b hb h1 h2));have dg:=(a8.x ⟨b6,cg.go⟩).go (FT am (Eo _ _)) λa ha=>am.1 _ (bh a ha);rw[<-zg1 (Z4:=Mu s.T s.d m r e j)]at dg;have g2:=ea.t (FT am (Eo a2 c4));have cy:∀c∈addW n0 [bs] w10,c=bs\/∃a,a<=m/\c=B a:=yL (λc hc=>.inl (C0.1 hc)) bp;have ca:bs∈addW n0 [bs] w10:=wQ bg eF;generalize addW n0 [bs] w10=w14 at cy ca⊢;refine zG ?_;refine sF (α:=Nat) (λz=>[(0,ι bs),(1,CJ .i64 (r:Int)),(2,CJ .i64 (e:Int)),(128,Y A.ta (O d.ta) (O d.ta)),(129,CJ .i64 (O d.ta:Int)),(130,CJ .i64 (z:Int))]) (λz h' u Z3=>a2<=u/\Tb h' u m j B (Li (Mu s.T s.d m r e j) z 0)/\Tr a2 a6 u h'/\(∀b,b<3*a2->(∀a,a<=m->b≠B a)->h' b=a6 b)/\(∀c∈Z3,c=bs\/∃a,a<=m/\c=B a)/\bs∈Z3/\z<=m+1) (λz=>m+1-z) 0 ⟨CG,dg,Eo _ _,λ_ _ _=>rfl,cy,ca,CH⟩ ?_;rintro i t R F iu⟨dq,b8,bf,ak,cz,cb,hi⟩;have dq:a2<=F:=dq;have b8:Tb R F m j B (Li (Mu s.T s.d m r e j) i 0):=b8;have bf:Tr a2 a6 F R:=bf;have ak:∀b,b<3*a2->(∀a,a<=m->b≠B a)->R b=a6 b:=ak;have hi:i<=m+1:=hi;refine zG ?_;by_cases db:(i:Int)<(O d.ta:Int);have y:i<=m:=Z;have⟨k4,o4,e4,m4,r4,t4⟩:=rwS.at sm.ta.rs (ap.at sp y);have e9:=e7 ⟨o4,_,_,by rw[e4]⟩;have f2:k4≠bs:=λq=>(by have h1:=(sm.ta.bk k4 ⟨o4,_,_,by rw[e4]⟩).2.2.1;rw[q,sm.bs.2]at h1;cases h1);have t4:=t4.k ((ak k4 Z e9).trans (dw k4 m4 f2 e9));refine zG ?_;refine sI e4 r4 ?_;refine sL t4 (show k4<3*F from Z) 0 ?_;refine zG ?_;have eL:O (rowL j (s.T i))=j:=yv;refine sF (α:=Nat) (λz=>[(0,ι bs),(1,CJ .i64 (r:Int)),(2,CJ .i64 (e:Int)),(17,Y (ξ ⟨B i,0,θ⟩) (O (rowL j (s.T i))) (O (rowL j (s.T i)))),(128,Y A.ta (O d.ta) (O d.ta)),(129,CJ .i64 (O d.ta:Int)),(130,CJ .i64 (i:Int)),(134,Y (ξ ⟨B i,0,θ⟩) (O (rowL j (s.T i))) (O (rowL j (s.T i)))),(135,CJ .i64 (O (rowL j (s.T i)):Int)),(136,CJ .i64 (z:Int))]) (λz h' u Z3=>F<=u/\Tb h' u m j B (Li (Mu s.T s.d m r e j) i z)/\Tr F R u h'/\(∀b,b<3*F->b≠B i->h' b=R b)/\(∀c∈Z3,c=bs\/∃a,a<=m/\c=B a)/\bs∈Z3/\z<=j) (λz=>j-z) 0 ⟨CG,b8,Eo _ _,λ_ _ _=>rfl,cz,cb,CH⟩ ?_;rintro c t G f iv⟨a3,P,aa,c2,d0,cc,hc⟩;have a3:F<=f:=a3;have P:Tb G f m j B (Li (Mu s.T s.d m r e j) i c):=P;have aa:Tr F R f G:=aa;have c2:∀b,b<3*F->b≠B i->G b=R b:=c2;have hc:c<=j:=hc;refine zG ?_;by_cases q16:(c:Int)<(O (rowL j (s.T i)):Int);have c7:c<j:=Z;have⟨fl,fi,g8,fo,gn,eb⟩:=P.el y c7;rw[zlr]at eb;have f1:=(P.o i y).1;refine zG ?_;refine sI ω (show c<O (rowL j (s.T i))from Z) ?_;refine sL gn f1 0 ?_;refine Za λic gg es=>?_;refine zG ?_;refine sS [U fl,Y fi g8 fo] λe5 ip ei=>?_;have fg:Tr f G (f+1) e5:=zt;have g7:Exo f G e5:=⟨λb hb=>(ei.1 b Z).trans (es b hb)⟩;have g3:=eb.t fg;refine zG ?_;refine sC (negX _ g3) ?_;rintro _ M ah⟨fm,fj,g9,fp,rfl,ax⟩ dr ae;have az:Exo f G M:=⟨λb hb=>(ae b Z).trans (g7.go b hb)⟩;have bb:=P.x (n':=ah) ⟨Z,az.go⟩;refine sI ω (show c<O (rowL j (s.T i))from Z) ?_;refine sZ (n0:=n0) (j:=c) [U fm,Y fj g9 fp] (bb.o i y) FL (by rw[yv];exact c7) (Dd _) ⟨_,_,_,_,ω,ax⟩ ?_;intro fu d8 K;have dh:=bb.set y d8 K;rw[zg2]at dh;refine zG ?_;exact sK (c+1) ⟨Z,dh,FT K (aa.trans ⟨Z,λc hc=>.inl (az.go c hc)⟩),λb (hb:b<3*F) hn=>(K.1 b hn).trans ((az.go b Z).trans (c2 b hb hn)),yL (λc hc=>.inr ⟨i,y,C0.1 hc⟩) d0,nM _ _ _ cc,by show c+1<=j;omega⟩;have c7:c=j:=Z;subst c7;refine zG ?_;exact sK (i+1) ⟨Z,P.as λa b _ hb=>zlq hb,bf.trans aa,λb (hb:b<3*a2) hn=>(c2 b Z (hn i y)).trans (ak b hb hn),d0,cc,Aq⟩;have cx:i=m+1:=Z;subst cx;refine zG ?_;have e1:sgn (s.T r e)= -1:=Cx hz;exact zA (cq,e0,ef,e2) (by(repeat (first|exact trivial|refine⟨ω,?_⟩))) ⟨(show a7<=F from Z),(ak bs Z cw).trans gf,(g2.t bf).as Z,b8.as λa b ha hb=>by rw[zls ha,<-Ut ha hb,e1];omega,fe.trans bf,λb hb h1 h2=>(ak b Z h2).trans (dw b hb h1 h2),cz,cb⟩;refine zG ?_;have e1:sgn (s.T r e)=1:=Cs Z;exact zA (bt,aq,lt,ct) (by(repeat (first|exact trivial|refine⟨ω,?_⟩))) ⟨CG,bx,ab.as Z,a8.as λa b ha hb=>by rw[<-Ut ha hb,e1,JI],cn,cj,bp,c8⟩;rintro⟨bd,ad,ud,cd⟩ t M ah dm ⟨dr,f9,ax,bb,ao,af,f3,gy⟩;have dr:a7<=ah:=dr;have ao:Tr n0 h ah M:=ao;have af:∀b,b<3*n0->b≠bs->(∀a,a<=m->b≠B a)->M b=h b:=af;have S:∀{b},gro b=φ->b≠bs/\∀a,a<=m->b≠B a:=λhb=>⟨λq=>(by rw[q,sm.bs.2]at hb;cases hb),λa ha q=>(by rw[q,tb.g a ha]at hb;cases hb)⟩;have ft:=sp.nb e he;have fs:=sp.ba r hr;have⟨bv,ev,gv,lv,ov,gt⟩:=sm.ba.or ω (show O d.ba≠0 from Z);have⟨bw,ew,gw,lw,ow,gu⟩:=sm.nb.or ω (show O d.nb≠0 from Z);injection ev with ev;injection ew with ew;have cf:bv≠bw:=λq=>ap.dj bw ⟨0,O d.nb,O d.nb,by rw[ew]⟩ ⟨0,O d.ba,O d.ba,by rw[ev,q]⟩;have br:=ov.go FW ao (af bv ov.1 (S gv).1 (S gv).2);have bu:=ow.go FW ao (af bw ow.1 (S gw).1 (S gw).2);obtain⟨i8,rfl,_,gp⟩:=bu.get ft (off:=0+e*1) Z;obtain⟨ia,rfl,_,gq⟩:=br.get fs (off:=0+r*1) Z;have f7:n0<=ah:=ao.1;refine kh ?_;refine dI ew (show e<O d.nb from Z) ?_;refine dL gp bu.1 0 ?_;refine zH ?_;refine dI ev (show r<O d.ba from Z) ?_;refine dL gq br.1 0 ?_;refine dI ev (show r<O d.ba from Z) ?_;refine dZ (n0:=n0) (j:=r) [CJ .i64 (s.nb e:Int)] br FW Z (Dd _) ω λfu d8 K fb=>?_;refine zH ?_;refine dI ew (show e<O d.nb from Z) ?_;refine dZ (n0:=n0) (j:=e) [CJ .i64 (s.bs r:Int)] (bu.go FW (FT K (Eo _ _)) (K.1 bw (λq=>cf q.symm))) FW Z (Dd _) ω λag gc a4 fc=>?_;refine zG ?_;have dz:Tr n0 h ah ag:=FT a4 (FT K ao);have di:=bb.go (FT a4 (FT K (Eo _ _))) λa ha=>(a4.1 _ λq=>(S gw).2 a ha q.symm).trans (K.1 _ λq=>(S gv).2 a ha q.symm);have dx:∀b,b<3*n0->b≠bs->(∀a,a<=m->b≠B a)->b≠bv->b≠bw->ag b=h b:=λb hb h1 h2 h3 h4=>(a4.1 b h4).trans ((K.1 b h3).trans (af b hb h1 h2));have bz:=(a4.1 bs λq=>(S gw).1 q.symm).trans ((K.1 bs λq=>(S gv).1 q.symm).trans f9);have ds:KY M bv 3:=(by have⟨C,hC⟩:=gt;exact⟨C,(af bv ov.1 (S gv).1 (S gv).2).trans hC⟩);have dt:KY M bw 3:=(by have⟨C,hC⟩:=gu;exact⟨C,(af bw ow.1 (S gw).1 (S gw).2).trans hC⟩);have ob:=(d8.go FW (FT a4 (Eo _ _)) (a4.1 bv cf)).gr FW (by
  have⟨C,hC⟩:=fb _ ds;exact⟨C,(a4.1 bv cf).trans hC⟩) gv lv (L:=O d.ba) (DT ..)
 have on:=gc.gr FW (fc _ (by
  have⟨C,hC⟩:=dt;exact⟨C,(K.1 bw λq=>cf q.symm).trans hC⟩)) gw lw (L:=O d.nb) (DT ..)
 rw[<-ev]at ob;rw[<-ew]at on;have fr:SM l ag ah bs {d with den:=((s.T r e).natAbs:Int),ba:=d.ba.set r (s.nb e),nb:=d.nb.set e (s.bs r),ta:=Mv m j B (pT s.T s.d r e)} A:=sm.piv tb.g ev ew dz dx bz (ax.t (FT a4 (FT K (Eo _ _)))) (DT ..) (DT ..) ob on (zl0 sp ap) λp hp=>(by obtain⟨q,hq,rfl⟩:=DU.1 hp;have hq:=GQ.1 hq;exact⟨di.o q Z,di.g q Z⟩);have g1:∀c∈addW n0 [bw] (addW n0 [bv] dm),3*l<=c:=yL (λc hc=>by rw[C0.1 hc];exact lw) (yL (λc hc=>by rw[C0.1 hc];exact lv) λc hc=>by
  obtain rfl|⟨a,ha,rfl⟩:=f3 c hc;exact ap.bs;exact ap.lo a ha)
 have bo:bw∈addW n0 [bw] (addW n0 [bv] dm):=wQ ow.1 eF;refine⟨ω,[],ω,⟨f7,fr,dz,λb hb h1 h2 h3 h4=>dx b hb h1 h2 (λq=>h3 ⟨0,O d.ba,O d.ba,by rw[ev,q]⟩) (λq=>h4 ⟨0,O d.nb,O d.nb,by rw[ew,q]⟩),g1,λb hb=>?_⟩,λhw=>by rw[show addW n0 [bw] (addW n0 [bv] dm)=[]from hw]at bo;cases bo⟩;have⟨o,l',c',q⟩:=hb;rw[ew]at q;injection q with q;injection q with q;injection q with q;exact q▸bo
end
theorem cF{l:List Nat}{f:Nat->Nat}{N w x:Nat}(h:∀v,v<N->l[v]?=ξ (f v))(a:O l=N):∀v,v<N->(l.set w x)[v]?=ξ (Ke f w x v):=by grind [hv,Ke]
def Sol.piv(d:Sol)(m n:Nat)(B:Nat->Nat)(t:PT)(r e:Nat):Sol:={d with den:=((t.T r e).natAbs:Int),ba:=d.ba.set r (t.nb e),nb:=d.nb.set e (t.bs r),ta:=Mv m n B (pT t.T t.d r e)}
section
variable {e:Nat}{s:PS}{B:Nat->Nat}
def SolP.piv(a:SolP n m d s):SolP n m (d.piv m n B s.toPT r e) ⟨s.toPT.piv r e,s.x⟩:=
 ⟨(DT ..).trans a.nl,cF a.nb a.nl,(DT ..).trans a.bl,cF a.ba a.bl,a.vl,a.va,Uu,λi f=>⟨_,Qt f,yv,λc b=>vu b⟩,ω,a.ll,a.lh,a.nm,a.ls,a.dn⟩
def Apa.piv(a:Apa l m bs d A B){t:PT}:Apa l m bs (d.piv m n B t r e) A B:=
 ⟨a.bs,a.lo,a.inj,λi c=>⟨_,Qt c⟩,by
  show ∀b,BkOf (Y A.nb (O (d.nb.set e (t.bs r))) (O (d.nb.set e (t.bs r)))) b->¬BkOf (Y A.ba (O (d.ba.set r (t.nb e))) (O (d.ba.set r (t.nb e)))) b;rw[DT,DT];exact a.dj⟩
def Apa.mv(a:Apa l m bs d A B){b:List Rat}:Apa l m bs {d with va:=b} A B:=⟨a.bs,a.lo,a.inj,a.ta,a.dj⟩
end
def Uw{l:List (Bool×Rat)}{v:Nat}{x:Rat}{p:Bool×Rat}(h:l[v]?=ξ p):cG (Kd l) v x↔(p.1=χ\/x<p.2):=by have⟨b,q⟩:=p;unfold cG;cases b;rw[pj h];exact⟨λ_=>.inl ω,λ_ u a=>by cases a⟩;exact B3
def Ux{l:List (Bool×Rat)}{v:Nat}{x:Rat}{p:Bool×Rat}(h:l[v]?=ξ p):cS (Kd l) v x↔(p.1=χ\/p.2<x):=by have⟨b,q⟩:=p;unfold cS;cases b;rw[pj h];exact⟨λ_=>.inl ω,λ_ u a=>by cases a⟩;exact B3
section
variable {lo hi:Nat->Option Rat}{s:PS}{k:Nat}
theorem zg7{e:Nat}(hv:Viol lo hi s r low g):suit lo hi (rdOf m s r e low) c↔(0<KD (decide (0<s.T r c))*g.num/\s.T r c≠0/\cG hi (s.nb c) (s.x (s.nb c))\/KD (decide (0<s.T r c))*g.num<0/\s.T r c≠0/\cS lo (s.nb c) (s.x (s.nb c))):=by
 have j:((s.T r c:Rat)<0↔s.T r c<0):=aE;have o:((0:Rat)<(s.T r c:Rat)↔0<s.T r c):=FO;unfold suit rdOf;dsimp only;rw[j,o];unfold Viol at hv;have v:KD (decide (0<s.T r c))=if 0<s.T r c then 1 else -1:=by grind [KD]
 rw[v];cases low with
 |true=>
  rw[Cx rfl]at hv⊢;obtain⟨l,p,u,rfl⟩:=hv;have b:0<(l-s.x (s.bs r)).num:=by
   have d:0<l-s.x (s.bs r):=by grind
   have:=(FM (q:=l-s.x (s.bs r))).2 (DQ d);have:(l-s.x (s.bs r)).num≠0:=λq=>by rw[Fs.1 q]at d;exact E2 d
   omega
  generalize (l-s.x (s.bs r)).num=z at b;split<;>constructor<;>rintro(⟨i,a⟩|⟨i,a⟩);exact .inl ⟨Z,Z,a⟩;omega;exact .inl ⟨Z,a.2⟩;omega;omega;exact .inr ⟨Z,Z,a⟩;omega;exact .inr ⟨Z,a.2⟩
 |false=>
  rw[Cs Ep]at hv⊢;obtain⟨l,p,u,rfl⟩:=hv;have b:(l-s.x (s.bs r)).num<0:=by grind [FM,E0.2]
  generalize (l-s.x (s.bs r)).num=z at b;split<;>constructor<;>rintro(⟨i,a⟩|⟨i,a⟩);omega;exact .inr ⟨Z,Z,a⟩;omega;exact .inr ⟨Z,a.2⟩;exact .inl ⟨Z,Z,a⟩;omega;exact .inl ⟨Z,a.2⟩;omega
def LY(n m:Nat)(lo hi:Nat->Option Rat)(s:PS)(r:Nat)(low:Bool)(k:Nat)(f:Int):Prop:=
 (f= -1/\∀c,c<k->¬suit lo hi (rdOf m s r 0 low) c)\/∃c:Nat,f=(c:Int)/\c<k/\suit lo hi (rdOf m s r 0 low) c/\∀c',c'<k->s.nb c'<s.nb c->¬suit lo hi (rdOf m s r 0 low) c'
def LY.no(h:LY n m lo hi s r low k f)(d:¬suit lo hi (rdOf m s r 0 low) k):LY n m lo hi s r low (k+1) f:=by obtain⟨h,b⟩|⟨c,j,b,l,o⟩:=h;refine .inl ⟨h,λc p=>?_⟩;by_cases e:c=k;rw[e];exact d;exact b c Z;refine .inr ⟨c,j,Z,l,λa p i=>?_⟩;by_cases e:a=k;rw[e];exact d;exact o a Z i
def LY.skip(h:LY n m lo hi s r low k (c:Int))(q:s.nb c<=s.nb k):LY n m lo hi s r low (k+1) (c:Int):=by obtain⟨h,i⟩|⟨d,o,i,j,l⟩:=h;omega;obtain rfl:c=d:=Z;refine .inr ⟨c,ω,Z,j,λa p b=>?_⟩;by_cases e:a=k;subst e;omega;exact l a Z b
theorem LY.take(h:LY n m lo hi s r low k f)(o:suit lo hi (rdOf m s r 0 low) k)(i:f= -1\/∃c:Nat,f=(c:Int)/\s.nb k<=s.nb c):LY n m lo hi s r low (k+1) (k:Int):=by
 refine .inr ⟨k,ω,Fi _,o,λa b p=>?_⟩;have b:a<k:=by grind
 obtain⟨h,d⟩|⟨j,q,d,u,l⟩:=h;exact d a b;obtain i|⟨c,e,hi⟩:=i;omega;obtain rfl:c=j:=Z;exact l a b Z
end
structure Cap (n M Mo N V T Z1 D B:Nat):Prop where
 t:KJ n*(M^(n-1)*M)<2^T
 d:KJ n*M^n<2^T
 o:KJ n*(M^(n-1)*Mo)<2^Z1
 v1:vN n M N<2^V
 v2:vD n N<2^V
 s1:vN n M N*N+N*vD n N<2^D
 s2:vD n N*N<2^D
 b:N<2^B
theorem QB.sz{A B a:Nat}(h:QB A B q)(l:A<2^a)(o:B<2^a):Sz a q:=by
 have⟨x,y,b,f,g,j⟩:=h;have e:q=DK x y:=by grind [EE,Eu.1,Fm,Rat.mul_div_cancel]
 rw[e];exact xz b Z Z
section
variable {B:Nat}{s:PS}{a:Nat->Nat->Int}
structure Fix (n m M Mo N V T Z1 D B:Nat)(a:Nat->Nat->Int)(d:Sol):Prop where
 b:Bnd n m a (Kd d.lo) (Kd d.hi) M N
 o:∀j,j<n->(a (n+m) j).natAbs<=Mo
 c:Cap n M Mo N V T Z1 D B
 l:Lim V T Z1 D B
 lo:∀p∈d.lo,Sz B p.2
 hi:∀p∈d.hi,Sz B p.2
 le:∀v l u,Kd d.lo v=ξ l->Kd d.hi v=ξ u->l<=u
def Fix.szp(x:Fix n m M Mo N V T Z1 D B a d)(e:PInv n m a (Kd d.lo) (Kd d.hi) L s):SzP n m V T Z1 B d s:=by have⟨p,g⟩:=e.vtx x.b;refine⟨λv l=>(g.qb Z (x.b.aM v l)).sz x.c.v1 x.c.v2,x.lo,x.hi,λi j c f=>?_,λc f=>?_,Dh (e.toPB.bD x.b.aM) x.c.d⟩;exact Dh (e.toPB.bT x.b.aM Z f (x.b.aM _ (e.bv i j))) x.c.t;exact Dh (e.toPB.bT x.b.aM CG f (by rw[e.bm];exact x.o)) x.c.o
def Fix.stp(x:Fix n m M Mo N V T Z1 D B a d)(e:PInv n m a (Kd d.lo) (Kd d.hi) L s)(g:c<n)(hi:i<m)(f:s.T i c≠0)(j:Kd d.lo (s.bs i)=ξ q\/Kd d.hi (s.bs i)=ξ q):Sz D ((q-s.x (s.bs i))/((s.T i c:Rat)/s.d)):=
 (e.stp x.b g hi f j).sz x.c.s1 x.c.s2
end
theorem zgx{lo hi:Nat->Option Rat}{s:PS}{r:Nat}{low:Bool}{g:Rat}(h:Viol lo hi s r low g):g.num≠0/\(low=φ↔0<g.num):=by
 unfold Viol at h;cases low with
 |true=>
  rw[Cx rfl]at h;obtain⟨l,_,c,rfl⟩:=h;have b:0<l-s.x (s.bs r):=by grind
  have:=(FM (q:=l-s.x (s.bs r))).2 (DQ b);have:(l-s.x (s.bs r)).num≠0:=λq=>by rw[Fs.1 q]at b;exact E2 b
  exact⟨this,λ_=>Z,λ_=>rfl⟩
 |false=>
  rw[Cs Ep]at h;obtain⟨l,_,c,rfl⟩:=h;have b:l-s.x (s.bs r)<0:=by grind
  have:=mt (FM (q:=l-s.x (s.bs r))).1 (E0.2 b);exact⟨Z,λq=>(by cases q),λq=>Z⟩
theorem Uy{l:List (Bool×Rat)}{v a:Nat}{q:Rat}(b:∀p∈l,Sz a p.2)(h:Kd l v=ξ q):Sz a q:=by grind [Kd]
structure Same (d d':Sol):Prop where
 n:d'.n=d.n
 sc:d'.sc=d.sc
 lo:d'.lo=d.lo
 hi:d'.hi=d.hi
theorem Same.refl(d:Sol):Same d d:=⟨rfl,rfl,rfl,rfl⟩
structure Ste (l n m bs:Nat)(a:Nat->Nat->Int)(L:(Nat->Rat)->Prop)(A:Adr)(B:Nat->Nat)(d0:Sol)(h:HF)(n0:Nat)(d:Sol)(s:PS):Prop where
 sm:SM l h n0 bs d A
 sp:SolP n m d s
 iv:PInv n m a (Kd d0.lo) (Kd d0.hi) L s
 ap:Apa l m bs d A B
 eq:Same d0 d
section
variable {s:PS}{a:Nat->Nat->Int}{B:Nat->Nat}
def Fix.same{f:Sol}(x:Fix n m M Mo N V T Z1 D BB a d)(e:Same d f):Fix n m M Mo N V T Z1 D BB a f:=by have⟨v,w,b,c⟩:=e;have⟨g,i,j,o,p,q,u⟩:=x;refine⟨?_,i,j,o,?_,?_,?_⟩;rw[b,c];exact g;rw[b];exact p;rw[c];exact q;rw[b,c];exact u
def zmn(k:Nat)(g:GG h n0)(S:Ste l n m bs a L A B d h n0 d s)(x:Fix n m M Mo N V T Z1 D BB a d)(hn:0<n)(ce:n+m<=11):
  CF (Ka (k+15)) 17 [ι bs] h n0 λw h' n' W=>∃d' s',n0<=n'/\Ste l n m bs a L A B d h' n' d' s'/\Tr n0 h n' h'/\(∀b,b<3*l->h' b=h b)/\(∀c∈W,3*l<=c)/\(w=.tuple #[CJ .i64 0,CJ .i64 0,U φ]/\Feas m (Kd d.lo) (Kd d.hi) s'\/∃(r:Nat) (low:Bool) (q:Rat),w=.tuple #[CJ .i64 (r:Int),CJ .i64 (KD low),U χ]/\Vio m (Kd d.lo) (Kd d.hi) s' r low q/\∀c,c<n->¬suit (Kd d.lo) (Kd d.hi) (rdOf m s' r 0 low) c):=by
 have⟨bw,ew,gw,lw,ow,dn⟩:=S.sm.nb.or ω (show O d.nb≠0 by have:=S.sp.nl;omega);injection ew with ew;have hl:3*l<=3*n0:=by have:=S.ap.bs;have:=S.sm.bs.1;omega
 have h4:4^(n+m)<=4^11:=CW zd ce;refine Lu R4<|zG ?_;refine sF (α:=Nat×Sol×PS) (λ_=>[(0,ι bs)]) (λz h' n' w'=>n0<=n'/\Ste l n m bs a L A B d h' n' z.2.1 z.2.2/\Tr n0 h n' h'/\(∀b,b<3*l->h' b=h b)/\(∀c∈w',3*l<=c)/\(z=(0,d,s)\/bw∈w')/\nT (Ud n m a (Kd d.lo) (Kd d.hi) L) (λs=>Lb m (Kd d.lo) (Kd d.hi) s (n+m)) z.1 z.2.2) (λz=>4^(n+m)-z.1) (0,d,s) ⟨CG,S,Eo _ _,λ_ _=>rfl,λc hc=>BO hc CT,.inl ω,nT.start⟩ ?_ (hm:=by show _<LL;unfold LL;(try dsimp only);omega);rintro⟨q,I,u⟩ t h1 n1 w1 ⟨y1,y,T1,K1,ar,an,b8⟩;(try dsimp only at y1 y T1);have hq:q<4^(n+m):=b8.lt λs=>iI _;have x1:=x.same y.eq;have el:=y.eq.lo;have eh:=y.eq.hi;have I1:PInv n m a (Kd I.lo) (Kd I.hi) L u:=by rw[el,eh];exact y.iv
 have J:=x1.szp I1;refine zG ?_;refine sC (zcl _ (g.t T1) y.sm y.sp y.iv.bv J x.l) ?_;rintro _ h2 P⟨f,qf,Z0,b2,a2,l2,c2,d2,e2,f2,g2,fd,rfl,i2,j2,hv,hf⟩ y2 x2;rw[el,eh]at hv;have S2:Ste l n m bs a L A B d h2 P I u:=⟨y.sm.ext x2 y2,y.sp,y.iv,y.ap,y.eq⟩;have T2:Tr n0 h P h2:=T1.trans ⟨y2,λc hc=>.inl (x2 c hc)⟩;have K2:∀b,b<3*l->h2 b=h b:=λb hb=>(x2 b Z).trans (K1 b hb);have y2:n1<=P:=y2;refine Za λh3 p3 x3=>?_;refine zG ?_;refine sS [U b2,Y a2 l2 c2,U d2,Y e2 f2 g2] λh4 p4 o4=>?_;have k4:Exo P h2 h4:=⟨λc hc=>(o4.1 c Z).trans (x3 c hc)⟩;have i4:=i2.t (zt:Tr P h2 (P+1) h4);have j4:=j2.t (zt:Tr P h2 (P+1) h4);have S4:Ste l n m bs a L A B d h4 (P+1) I u:=⟨S2.sm.ext k4.go Zq,y.sp,y.iv,y.ap,y.eq⟩;have T4:Tr n0 h (P+1) h4:=T2.trans ⟨Dc _,λc hc=>.inl (k4.go c hc)⟩;have K4:∀b,b<3*l->h4 b=h b:=λb hb=>(k4.go b Z).trans (K2 b hb);refine zG ?_;obtain⟨rfl,hf,rfl⟩|⟨rfl,rfl⟩:=hf;obtain⟨hv,_⟩|⟨r,low,rfl,Z4,a3,bf⟩:=hv;omega;have dj:=y.sp.nl;have db:=S4.sm.bs.1;have⟨b9,a9,u9,c9,dm,dl,_⟩:=S4.sm.st;refine zG ?_;refine sF (α:=Nat×Int) (λz=>[(0,ι bs),(5,CJ .i64 (r:Int)),(6,ι (3*P+2)),(8,CJ .i64 z.2),(23,Y A.nb (O I.nb) (O I.nb)),(24,CJ .i64 (O I.nb:Int)),(25,CJ .i64 (z.1:Int))]) (λz h' n' w'=>w1=w'/\P+1<=n'/\J9 (P+1) h4 h'/\LY n m (Kd d.lo) (Kd d.hi) u r low z.1 z.2/\z.1<=n) (λz=>n-z.1) (0,-1) ⟨ω,CG,FH _ _,.inl ⟨ω,λc hc=>BO hc (DR _)⟩,CH⟩ ?_ (hm:=by have:=y.sp.nm;show _<LL;unfold LL;(try dsimp only);omega);rintro⟨j,f⟩ t H G _ ⟨rfl,y5,x5,hu,hj⟩;(try dsimp only at y5 hu hj);have k5:Exo (P+1) h4 H:=⟨x5⟩;have R:Ste l n m bs a L A B d H G I u:=⟨S4.sm.ext k5.go y5,y.sp,y.iv,y.ap,y.eq⟩;have T5:Tr n0 h G H:=T4.trans ⟨y5,λc hc=>.inl (k5.go c hc)⟩;have p5:=(k5.go (3*P+2) Z).trans p4;have i5:=i4.ext k5.go y5;have j5:=j4.ext k5.go y5;have bg:=R.sm.st;have⟨b0,a0,u0,c0,ty,bg,_⟩:=bg;have dc:=R.sm.bs.1;refine zG ?_;by_cases q5:(j:Int)<(O I.nb:Int);have aa:j<n:=Z;have gv:=y.sp.nb j aa;have⟨k6,o6,e6,m6,r6,t6⟩:=natS.at R.sm.nb.rs gv;refine zG ?_;refine sI e6 r6 ?_;refine sL t6 m6 0 ?_;have go:(∃i:Nat,f=(i:Int)/\i<n/\u.nb i<u.nb j)\/f= -1\/(∃i:Nat,f=(i:Int)/\i<n/\u.nb j<=u.nb i):=(by obtain⟨h1,_⟩|⟨i,h1,h2,h3,_⟩:=hu;exact .inr (.inl h1);by_cases hw:u.nb i<u.nb j;exact .inl ⟨i,h1,Z,hw⟩;exact .inr (.inr ⟨i,h1,Z,Z⟩));refine mM ?_;simp only[yu,xg,zK,yY];refine yj (α:=Bool) (λz=>[(0,ι bs),(5,CJ .i64 (r:Int)),(6,ι (3*P+2)),(8,CJ .i64 f),(9,CJ .i64 (j:Int)),(10,CJ .i64 (u.nb j:Int)),(23,Y A.nb (O I.nb) (O I.nb)),(24,CJ .i64 (O I.nb:Int)),(25,CJ .i64 (j:Int)),(42,U z)]) (λz h' n' w'=>w1=w'/\H=h'/\G=n'/\(z=φ/\(∃i:Nat,f=(i:Int)/\i<n/\u.nb i<u.nb j)\/z=χ/\(f= -1\/∃i:Nat,f=(i:Int)/\u.nb j<=u.nb i))) ?_ ?_;obtain⟨i,rfl,a7,hw⟩|rfl|⟨i,rfl,a7,hw⟩:=go;refine zG ?_;have⟨k7,o7,e7,m7,r7,t7⟩:=natS.at R.sm.nb.rs (y.sp.nb i a7);refine sI e7 r7 ?_;refine sL t7 m7 0 ?_;refine zG ?_;exact zA φ (by(repeat (first|exact trivial|refine⟨ω,?_⟩))) ⟨ω,ω,ω,.inl ⟨ω,i,ω,a7,hw⟩⟩;refine zG ?_;exact zA χ (by(repeat (first|exact trivial|refine⟨ω,?_⟩))) ⟨ω,ω,ω,.inr ⟨ω,.inl AP⟩⟩;refine zG ?_;have⟨k7,o7,e7,m7,r7,t7⟩:=natS.at R.sm.nb.rs (y.sp.nb i a7);refine sI e7 r7 ?_;refine sL t7 m7 0 ?_;refine zG ?_;exact zA χ (by(repeat (first|exact trivial|refine⟨ω,?_⟩))) ⟨ω,ω,ω,.inr ⟨ω,.inr ⟨i,ω,hw⟩⟩⟩;rintro z t _ _ _⟨rfl,rfl,rfl,⟨rfl,i,rfl,a7,hw⟩|⟨rfl,bb⟩⟩;refine zG ?_;exact sK (j+1,(i:Int)) ⟨ω,y5,k5.go,hu.skip Z,qe⟩;have⟨k8,o8,e8,m8,r8,t8⟩:=rwS.at R.sm.ta.rs (y.ap.at y.sp (D9 Z4));have⟨cv,cr,l10,cy,cm,ch⟩:=(R.ap.tb R.sm R.sp).el (D9 Z4) aa;have bi:=((R.ap.tb R.sm R.sp).o r (D9 Z4)).1;refine zG ?_;refine yj (α:=Int) (λz=>[(0,ι bs),(5,CJ .i64 (r:Int)),(6,ι (3*P+2)),(8,CJ .i64 f),(9,CJ .i64 (j:Int)),(10,CJ .i64 (u.nb j:Int)),(11,CJ .i64 z),(23,Y A.nb (O I.nb) (O I.nb)),(24,CJ .i64 (O I.nb:Int)),(25,CJ .i64 (j:Int))]) (λz h' n' w'=>w1=w'/\G<=n'/\J9 G H h'/\(z=1/\u.T r j≠0/\0<KD (decide (0<u.T r j))*Z0.num\/z=0/\(u.T r j=0\/Z0.num=0)\/z= -1/\u.T r j≠0/\KD (decide (0<u.T r j))*Z0.num<0)) ?_ ?_;refine zl ?_;refine zH ?_;refine dI e8 r8 ?_;refine dL t8 m8 0 ?_;refine zH ?_;refine dI ω (show j<O (rowL n (u.T r)) by rw[yv];exact aa) ?_;refine dL cm bi 0 ?_;refine dC (Nf _ ch) ?_;rintro _ aj ay⟨ag,rfl,Z3⟩ ah ac;refine zH ?_;refine dC (fD _ i5.x j5.x) ?_;rintro _ C F⟨dk,rfl,K⟩ cp cn;obtain⟨rfl,Z3⟩|⟨rfl,Z3⟩|⟨rfl,Z3⟩:=Z3;obtain⟨rfl,K⟩|⟨rfl,K⟩|⟨rfl,K⟩:=K;refine zH ?_;refine dr_I (ik:=.i64) (a:=1) R5<|zJ ?_;exact zA (1) (by(repeat (first|exact trivial|refine⟨ω,?_⟩))) ⟨ω,(show Tx G H F C from zx).1,(show Tx G H F C from zx).2,.inl ⟨ω,Z,(by rw[Ae (show ¬0<u.T r j by omega)];show 0<(-1:Int)*Z0.num;omega)⟩⟩;refine zH ?_;refine dr_I (ik:=.i64) (a:=0) R5<|zJ ?_;exact zA (0) (by(repeat (first|exact trivial|refine⟨ω,?_⟩))) ⟨ω,(show Tx G H F C from zx).1,(show Tx G H F C from zx).2,.inr (.inl ⟨ω,.inr K⟩)⟩;refine zH ?_;refine dr_I (ik:=.i64) (a:= -1) R5<|zJ ?_;exact zA (-1) (by(repeat (first|exact trivial|refine⟨ω,?_⟩))) ⟨ω,(show Tx G H F C from zx).1,(show Tx G H F C from zx).2,.inr (.inr ⟨ω,Z,(by rw[Ae (show ¬0<u.T r j by omega)];show(-1:Int)*Z0.num<0;omega)⟩)⟩;obtain⟨rfl,K⟩|⟨rfl,K⟩|⟨rfl,K⟩:=K;refine zH ?_;refine dr_I (ik:=.i64) (a:=0) R5<|zJ ?_;exact zA (0) (by(repeat (first|exact trivial|refine⟨ω,?_⟩))) ⟨ω,(show Tx G H F C from zx).1,(show Tx G H F C from zx).2,.inr (.inl ⟨ω,.inl Z3⟩)⟩;refine zH ?_;refine dr_I (ik:=.i64) (a:=0) R5<|zJ ?_;exact zA (0) (by(repeat (first|exact trivial|refine⟨ω,?_⟩))) ⟨ω,(show Tx G H F C from zx).1,(show Tx G H F C from zx).2,.inr (.inl ⟨ω,.inl Z3⟩)⟩;refine zH ?_;refine dr_I (ik:=.i64) (a:=0) R5<|zJ ?_;exact zA (0) (by(repeat (first|exact trivial|refine⟨ω,?_⟩))) ⟨ω,(show Tx G H F C from zx).1,(show Tx G H F C from zx).2,.inr (.inl ⟨ω,.inl Z3⟩)⟩;obtain⟨rfl,K⟩|⟨rfl,K⟩|⟨rfl,K⟩:=K;refine zH ?_;refine dr_I (ik:=.i64) (a:= -1) R5<|zJ ?_;exact zA (-1) (by(repeat (first|exact trivial|refine⟨ω,?_⟩))) ⟨ω,(show Tx G H F C from zx).1,(show Tx G H F C from zx).2,.inr (.inr ⟨ω,Z,(by rw[BJ (show 0<u.T r j from Z3)];show(1:Int)*Z0.num<0;omega)⟩)⟩;refine zH ?_;refine dr_I (ik:=.i64) (a:=0) R5<|zJ ?_;exact zA (0) (by(repeat (first|exact trivial|refine⟨ω,?_⟩))) ⟨ω,(show Tx G H F C from zx).1,(show Tx G H F C from zx).2,.inr (.inl ⟨ω,.inr K⟩)⟩;refine zH ?_;refine dr_I (ik:=.i64) (a:=1) R5<|zJ ?_;exact zA (1) (by(repeat (first|exact trivial|refine⟨ω,?_⟩))) ⟨ω,(show Tx G H F C from zx).1,(show Tx G H F C from zx).2,.inl ⟨ω,Z,(by rw[BJ (show 0<u.T r j from Z3)];show 0<(1:Int)*Z0.num;omega)⟩⟩;rintro z t ak b1 _⟨rfl,ai,bh,hz⟩;(try dsimp only at ai bh);have aq:=y.iv.nv j aa;have gx:=y.sp.va _ aq;obtain⟨pl,gl⟩:∃x,I.lo[u.nb j]?=ξ x:=⟨_,CK (by have:=y.sp.ll;omega)⟩;obtain⟨ph,gh⟩:∃x,I.hi[u.nb j]?=ξ x:=⟨_,CK (by have:=y.sp.lh;omega)⟩;have cg:=Uw (x:=u.x (u.nb j)) gh;have cs:=Ux (x:=u.x (u.nb j)) gl;rw[eh]at cg;rw[el]at cs;have a1:=zg7 (m:=m) (c:=j) (e:=0) a3;have cd:=x.l.l1;have dh:=x.l.l3;obtain⟨rfl,hz,au⟩|⟨rfl,hz⟩|⟨rfl,hz,au⟩:=hz;refine zG ?_;refine sC (aG _ (R.sm.x zx) gx gh (J.va _ aq) (J.hi _ (CL gh)) Z) ?_;rintro _ a6 ab⟨c7,rfl,ad⟩ cq co;obtain⟨rfl,a5⟩|⟨rfl,a5⟩:=Kg ad;refine zG ?_;exact sK (j+1,f) ⟨ω,Z,k5.go.trans (show Tx G H ab a6 from zx).2 y5,hu.no (λq=>by obtain⟨_,_,q⟩|⟨q,_⟩:=a1.1 q;exact a5 (cg.1 q);omega),qe⟩;refine zG ?_;exact sK (j+1,(j:Int)) ⟨ω,Z,k5.go.trans (show Tx G H ab a6 from zx).2 y5,hu.take (a1.2 (.inl ⟨au,hz,cg.2 a5⟩)) bb,qe⟩;refine zG ?_;exact sK (j+1,f) ⟨ω,Z,k5.go.trans (show Tx G H b1 ak from zx).2 y5,hu.no (λq=>by obtain hz|hz:=hz;obtain⟨_,q,_⟩|⟨_,q,_⟩:=a1.1 q<;>exact q hz;obtain⟨q,_⟩|⟨q,_⟩:=a1.1 q<;>(rw[hz,GZ]at q;omega)),qe⟩;refine zG ?_;refine sC (lg _ (R.sm.x zx) gx gl (J.va _ aq) (J.lo _ (CL gl)) Z) ?_;rintro _ a6 ab⟨c7,rfl,ad⟩ cq co;obtain⟨rfl,a5⟩|⟨rfl,a5⟩:=Kg ad;refine zG ?_;exact sK (j+1,f) ⟨ω,Z,k5.go.trans (show Tx G H ab a6 from zx).2 y5,hu.no (λq=>by obtain⟨q,_⟩|⟨_,_,q⟩:=a1.1 q;omega;exact a5 (cs.1 q)),qe⟩;refine zG ?_;exact sK (j+1,(j:Int)) ⟨ω,Z,k5.go.trans (show Tx G H ab a6 from zx).2 y5,hu.take (a1.2 (.inr ⟨au,hz,cs.2 a5⟩)) bb,qe⟩;have aa:j=n:=Z;have be:Z0.num≠0/\(low=φ↔0<Z0.num):=zgx a3;obtain⟨rfl,af⟩|⟨c,rfl,hc,a1,bl⟩:=hu;refine zG ?_;refine sC (fD _ i5 j5) ?_;rintro _ aj ay⟨ag,rfl,Z3⟩ ah ac;have c3:Ste l n m bs a L A B d aj ay I u:=⟨R.sm.ext ac ah,y.sp,y.iv,y.ap,y.eq⟩;have bj:ag=KD low:=by
  cases low;have:¬0<Z0.num:=λq=>by cases be.2.2 q
  show ag= -1;omega;have:=be.2.1 rfl;show ag=1;omega
 subst bj;have hV:Vio m (Kd d.lo) (Kd d.hi) u r low Z0:=⟨Z4,a3,bf⟩;have af:∀c,c<n->¬suit (Kd d.lo) (Kd d.hi) (rdOf m u r 0 low) c:=λc hc=>af c Z;refine zG ?_;refine⟨ω,[_,_,_],ω,⟨I,u,Z,c3,T5.trans ⟨ah,λc hc=>.inl (ac c hc)⟩,λb hb=>(ac b Z).trans ((k5.go b Z).trans (K4 b hb)),ar,.inr ⟨r,low,Z0,ω,hV,af⟩⟩,λhw=>?_⟩;have hw:w1=[]:=hw;obtain e|a8:=an;cases e;exact⟨_,_,CG,S,Eo _ _,A0,λc hc=>BO hc CT,.inr ⟨r,low,Z0,ω,hV,af⟩⟩;rw[hw]at a8;cases a8;have a4:c<n:=Z;have hR:RepS n m (Kd d.lo) (Kd d.hi) u r c low Z0:=⟨⟨Z4,a3,bf⟩,a4,a1,λc' df=>bl c' Z⟩;have al:=hR.ne;obtain⟨bq,bd,rfl⟩:∃q,(Kd d.lo (u.bs r)=ξ q\/Kd d.hi (u.bs r)=ξ q)/\Z0=q-u.x (u.bs r):=(by unfold Viol at a3;split at a3;have⟨l,h1,_,h2⟩:=a3;exact⟨l,.inl h1,h2⟩;have⟨l,h1,_,h2⟩:=a3;exact⟨l,.inr h1,h2⟩);have b5:=x.stp y.iv a4 Z4 al bd;have cd:=x.l.l1;have dg:=x.l.l2;have cf:Sz BB bq:=(by obtain h|h:=bd;exact Uy x.lo h;exact Uy x.hi h);have cc:Sz D (bq-u.x (u.bs r)):=(Sz.subT cf (J.va _ (y.iv.bv r Z4))).mono Z;have cb:=y.iv.toPB.tab.dp;have am:=y.sp.de;refine kh ?_;refine dC (Nl _ (g.t T5) R.sm (y.ap.at y.sp (D9 Z4)) (vu a4) (yU (J.tT r Z4 c a4) Z) (by rw[am];exact yU J.dd Z) (by rw[am];omega)) ?_;rintro _ aj ay⟨cw,ct,l11,cz,d3,d5,d7,d9,rfl,av,aw⟩ ah ac;have sc:Sz T (DK (u.T r c) u.d):=xz cb (J.tT r Z4 c a4) J.dd;rw[am]at av aw;rw[EE]at av aw sc;refine dC (divQ _ ((g.t T5).x zx) i5.x j5.x av aw cc sc Z) ?_;rintro _ C F⟨cx,cu,di,d0,d4,d6,d8,da,rfl,ci,cj⟩ cp cn;have ax:Exo G H C:=⟨(show Tx G H F C from zx).2⟩;have az:G<=F:=(show Tx G H F C from zx).1;have b6:Ste l n m bs a L A B d C F I u:=⟨R.sm.ext ax.go az,y.sp,y.iv,y.ap,y.eq⟩;have b7:Tr n0 h F C:=T5.trans ⟨az,λc hc=>.inl (ax.go c hc)⟩;refine wa _ R7 (Up _ (g.t b7) b6.sm y.sp y.iv.toPB J x.l a4 ci cj b5) ?_;rintro _ ak b1 dq⟨ai,va,bx,bt,ae,c5,bz,bn,_⟩;refine⟨rF ω ω,ai,?_⟩;have IN:=hR.inv (by rw[<-el,<-eh];exact x1.le) y.iv;have bu:∀v,v<n+m->va[v]?=ξ (Kq u c ((bq-u.x (u.bs r))/((u.T r c:Rat)/u.d)) (m+1) v):=λv hv=>(bt v hv).trans (congrArg ξ (vi (by rw[y.iv.bm];omega)).symm);have b3:=y.sp.mv bx bu;have cl:=x.szp (s:=repN m u r c (bq-u.x (u.bs r))) IN;have br:SzP n m V T Z1 BB {I with va:=va} ⟨u.toPT,Kq u c ((bq-u.x (u.bs r))/((u.T r c:Rat)/u.d)) (m+1)⟩:=⟨cl.va,J.lo,J.hi,J.tT,J.tO,J.dd⟩;refine zJ ?_;refine zF _ R5 (Uv _ ae b3 y.iv.toPB br x.l y.ap.mv Z4 a4 al) ?_;rintro _ bc ck dr⟨ds,bp,c6,c1,bo,b4⟩;have c4:Ste l n m bs a L A B d bc ck ({I with va:=va}.piv m n B u.toPT r c) (repN m u r c (bq-u.x (u.bs r))):=⟨bp,b3.piv,IN,y.ap.mv.piv,⟨y.eq.n,y.eq.sc,y.eq.lo,y.eq.hi⟩⟩;have ca:=b8.next (λp τ hp hs hk=>zmx p τ hp hs x.le hk) ⟨y.iv,r,c,low,_,hR,ω⟩;have hT:=(b7.trans c5).trans c6;have ao:∀{v:ψ},(∀b,BkOf v b->3*l<=b)->∀b,b<3*l->¬BkOf v b:=λhv b hb c8=>by have:=hv b c8;omega
 have KF:∀b,b<3*l->bc b=h b:=λb hb=>(c1 b Z (λe=>by have:=y.ap.bs;omega) (λa ha e=>by have:=y.ap.lo a ha;omega) (ao (λb hb=>(ae.ba.bk b hb).1) b hb) (ao (λb hb=>(ae.nb.bk b hb).1) b hb)).trans ((bz b Z (ao (λb hb=>(b6.sm.va.bk b hb).1) b hb)).trans ((ax.go b Z).trans ((k5.go b Z).trans (K4 b hb))));refine zG ?_;exact sK (q+1,_,_) ⟨Z,c4,hT,KF,yL bo (yL bn ar),.inr (wQ ow.1 (b4 bw ⟨0,O I.nb,O I.nb,by rw[ew]⟩)),ca⟩;have hF:Feas m (Kd d.lo) (Kd d.hi) u:=(by obtain⟨_,h⟩|⟨i,low,h,_⟩:=hv;exact h;omega);refine zG ?_;refine⟨ω,[_,_,_],ω,⟨I,u,Z,S4,T4,K4,ar,.inl ⟨ω,hF⟩⟩,λhw=>?_⟩;have hw:w1=[]:=hw;obtain e|a8:=an;cases e;exact⟨_,_,CG,S,Eo _ _,A0,λc hc=>BO hc CT,.inl ⟨ω,hF⟩⟩;rw[hw]at a8;cases a8
end
section
variable {a:Nat}
theorem ko(V:Nat):V<10^O (decT V):=by
 have h:∀V,V<10^O (decD V):=by
  intro V;induction V using Nat.strongRecOn with
  |_ V ih=>
   by_cases h0:V=0;grind;rw[wy h0,CP];grind
 unfold decT;split;rename_i h0;rw[h0];decide;rw[CU,kY];exact h V
def Ko.of{m:Nat}(h:O s<=m)(hm:m<500)(j:10^m<=2^a)(g:1<=a):Ko a s:=by refine⟨Z,?_⟩;by_cases hn:vF s;have u:=qr hn;generalize zj s=q at u;have f:=congrArg O u;unfold ratT at f;simp only[CP]at f;constructor;exact B5;by_cases h2:q.den=1;rw[h2];exact CZ (by decide:(1:Nat)<2^1) (CW zd g);rw[Cs h2,DN]at f;exact B5;rw[xX hn];exact Jt a g
def txt8(h:(O s:Int)<=8):Ko 27 s:=.of (m:=8) Z zd zd zd
def zo8{h:HF}{n:Nat}{t:List UInt8}(f:h b=ξ (.row [CN ⟨⟨s⟩⟩,CN ⟨⟨t⟩⟩] e))(hb:b<3*n):Sl h n 1 (Y (ξ ⟨b,0,θ⟩) 2 2) (strs [s,t]):=.at_ hb f ω CG CG rfl
def wz(k:Nat){h:HF}{n:Nat}(g:GG h n):VF (Ka (k+1)) 5 [] h n λv=>v=U φ:=⟨_,_,_,_,Xn k g.1 n,ω,ω,ω,ω⟩
section
variable {r:List Oper}{d:Tmp}
def Uz(cs:List ψ)(f:nJ X ops t o d (Kh o.op=2/\Kr X.E o.op (J8 t)=ξ ⟨cs,e,χ,ξ (l,c)⟩))
  (k:∀h',h' (3*n+2)=ξ (.row cs e)->J9 n h h'->ED X ops r ms (i+1) ⟨⟨upd t d (Y (ξ ⟨3*n+2,0,θ⟩) l c),h',n+1,w⟩,(i,3*n+2)::al,ld,ef⟩ Q):ED X ops (o::r) (m::ms) i ⟨⟨t,h,n,w⟩,al,ld,ef⟩ Q:=by have⟨f,j,v,g,u⟩:=f;exact Rn f j v g u (k _ (zg _ _ _) (Fe Z))
end
def mI(k:Nat){h:HF}{n:Nat}(m:Int)(C:Sl h n 1 (Y ax lx cx) (strs S))(hb:O S<100000000):VF (Ka (k+1)) 11 [CJ .i64 m,Y ax lx cx] h n λv=>∃b:Bool,v=U b/\(b=φ↔∀s∈S,(O s:Int)<=m):=by
 have Z1:=z8 C;refine zO R4<|zG ?_;refine sF (α:=Nat) (λz=>[(0,CJ .i64 m),(1,Y ax lx cx),(5,CJ .i64 (z:Int))]) (λz H K L=>L=[]/\n<=K/\ExtB n [] h H/\z<=O S/\∀s∈S.take z,(O s:Int)<=m) (λz=>O S-z) 0 ⟨ω,CG,El _ _ _,CH,(λs J=>BO J eF)⟩ ?_;rintro j t M P _⟨rfl,T,u,hj,f⟩;(try dsimp only at hj f);refine zG ?_;by_cases q12:(j:Int)<(lx:Int);refine zG ?_;obtain⟨A,g⟩:∃d,(S)[j]?=ξ d:=⟨_,CK Z⟩;have⟨N,R,B,D,F,G⟩:=vM C g;refine sI B F ?_;refine sL G D 0 ?_;refine st_I R5<|zG ?_;by_cases q14:(O A:Int)>m;refine zf ?_;exact Kf λI=>by have:=I _ (CL g);omega
 refine zG ?_;exact sK (j+1) ⟨ω,Z,u,Z,(ot f g Z)⟩;refine zf ?_;exact Kp aD
section
variable {x:Rat}{q:Nat}
theorem yb(x:Rat):zj (ratT x)=x:=pA rfl
end
end
def Mw:List Rat->Nat
 |[]=>1
 |q::l=>q.den*Mw l
def NR:∀{l:List Rat},(∀q∈l,NE E P q)->1<=Mw l/\Mw l<=E^O l
 |[],_=>⟨CG,CG⟩
 |q::l,h=>by
  have⟨h1,h2⟩:=NR (l:=l) λx c=>h x (E7 _ c);have a:=(h q Eb).den;have b:=q.den_pos;refine⟨EJ b h1,?_⟩;show q.den*Mw l<=E^(O l+1);rw[Db,C3];exact Df h2 a
def iW:∀{l:List Rat} {q:Rat},(∀q∈l,NE E P q)->q∈l->∃r,Mw l=q.den*r/\r<=E^(O l-1)
 |[],q,_,h=>BO h CT
 |p::l,q,h,hq=>by
  have hl:∀q∈l,NE E P q:=λx e=>h x (E7 _ e);obtain rfl|a:=Dk.1 hq
  .exact⟨Mw l,ω,(NR hl).2⟩
  have⟨r,b,c⟩:=iW hl a;have f:=List.length_pos_of_mem a;have d:=(h p Eb).den;refine⟨p.den*r,?_,?_⟩
  .show p.den*Mw l=_;rw[b,<-Dm,<-Dm,C3 p.den]
  refine C5 (Df d c) ?_;show E*E^(O l-1)<=E^O l;rw[C3,<-Db,show(O l-1).succ=O l by omega];exact Ed _
def ed:∀{l:List Rat} {q:Rat},q∈l->q.den∣Mw l
 |[],_,h=>BO h CT
 |p::l,q,h=>by
  obtain rfl|hm:=Dk.1 h
  .exact ac5 _ _
  exact Nat.dvd_trans (ed hm) (ad3 _ _)
def OS{l:List Rat}(h:∀q∈l,NE E P q):0<lcmD l 1/\lcmD l 1<=E^O l:=
 ⟨kt zd,C5 (I3 (NR h).1 (kv (λq a=>ed a) (af1 _))) (NR h).2⟩
theorem UA{l:List Rat}(h:∀q∈l,NE E P q)(a:q∈l):∃w:Int,((lcmD l 1:Nat):Rat)*q=w/\w.natAbs<=P*E^(O l-1):=by
 obtain⟨k,c⟩:=ku a;obtain⟨t,f⟩:=kv (λq a=>ed a) (af1 _);obtain⟨r,i,o⟩:=iW h a;have d:k<=r:=by
  have e:q.den*(k*t)=q.den*r:=by rw[<-Dm,<-c,<-f,i]
  have e:=Nat.eq_of_mul_eq_mul_left q.den_pos e;have g:0<t:=by
   rcases Nat.eq_zero_or_pos t with b|b
   .rw[b,Ey]at f;have:=(NR h).1;omega
   exact b
  rw[<-e];exact EK _ g
 refine⟨q.num*k,?_,?_⟩
 .rw[c,Rat.natCast_mul,DA,Ds,<-Mt q]
  grind
 rw[Dz,C4];exact Df (h q a).num (C5 d o)
def LZ(zs:List Int)(j:Nat):Int:=(zs[j]?).getD 0
def atR(qs:List Rat)(j:Nat):Rat:=(qs[j]?).getD 0
def aW{zs:List Int}{z:Int}(h:zs[j]?=ξ z):LZ zs j=z:=by unfold LZ;rw[h];rfl
theorem wg(h:qs[j]?=ξ q):atR qs j=q:=by unfold atR;rw[h];rfl
theorem ScR.scF{y:Nat}{zs:List Int}{s:Rat}(h:ScR qs y zs s)(l:∀q∈qs,NE E P q)(C:1<=E)(F:1<=P)(H:O qs=n):ScF n (E^n) (P*E^(n-1)) (atR qs) (LZ zs) s:=by
 subst H;have d:∀k,1<=E^k:=λk=>Dw C;have D:1<=P*E^(O qs-1):=EJ F (d _);have e:∀j,j<O qs->(LZ zs j:Rat)=s*atR qs j:=λj a=>(by have b:=CK a;have c:=CK (by rw[h.len];exact a);rw[aW c,wg b];exact h.eq j _ _ b c);refine⟨h.pos,e,?_⟩;obtain⟨rfl,b⟩|⟨g,G,b,z,J,v⟩:=h.fr;refine⟨1,1,IY,IY,Fz _,d _,D,λj a=>?_⟩;have c:=CK (by rw[h.len];exact a);rw[aW c,b _ (CL c)];exact Ig _;have i:∀j,j<O qs->g*(LZ zs j).natAbs<=P*E^(O qs-1):=λj a=>(by have o:=CK a;have⟨w,I,f⟩:=UA l (CL o);have A:((g*LZ zs j:Int):Rat)=(w:Rat):=(by rw[<-I,<-b,DA,e j a,wg o,Ds];grind);have B:=Rat.intCast_inj.1 A;rw[<-B,Dz,C4]at f;exact f);have⟨j,a⟩:=EI.1 J;have u:j<O qs:=by have:=(CQ.1 a).1;rw[h.len]at this;exact this
 have p:=i j u;rw[aW a]at p;exact⟨lcmD qs 1,g,(OS l).1,G,b,(OS l).2,C5 (EK _ (Int.natAbs_pos.2 v)) p,i⟩
def neM(hm:2<=m)(h:O s<=m):NE (10^(m-2)) (10^m) (zj s):=by by_cases hn:vF s;have b:=qr hn;generalize zj s=q at b;have a:=congrArg O b;unfold ratT at a;simp only[CP]at a;have c:∀V,1<=O (decT V):=λV=>List.length_pos_iff.2 (wx V).2.2;have d:=c q.num.natAbs;constructor;by_cases h2:q.den=1;rw[h2];exact Dw zd;rw[Cs h2,DN]at a;exact D9 (CZ (ko _) (CW zd (show _<=m-2 from Z)));exact D9 (CZ (ko _) (CW zd (show _<=m from Z)));rw[xX hn];exact⟨Dw zd,CH⟩
def MM(h:(O s:Int)<=8):NE (10^6) (10^8) (zj s):=neM (m:=8) zd Z
def cap8{n:Nat}(a:1<=n)(b:n<=5):Cap n (10^32) (10^54) (10^38) 750 540 620 880 127:=by have h:n=1\/n=2\/n=3\/n=4\/n=5:=Z;obtain rfl|rfl|rfl|rfl|rfl:=h<;>exact⟨eH,eH,eH,eH,eH,eH,eH,eH⟩
def lim8:Lim 750 540 620 880 127:=⟨by decide,by decide,by decide,by decide,by decide⟩
def jW{n:Nat}(a:1<=n)(b:n<=5):10^8*(10^6)^(n-1)<=10^32/\(10^6)^n<=10^30:=by have h:n=1\/n=2\/n=3\/n=4\/n=5:=Z;obtain rfl|rfl|rfl|rfl|rfl:=h<;>exact⟨eH,eH⟩
def zwg{n:Nat}(a:1<=n)(b:n<=5):10^14*(10^10)^(n-1)<=10^54/\(10^10)^n<=10^50:=by have h:n=1\/n=2\/n=3\/n=4\/n=5:=Z;obtain rfl|rfl|rfl|rfl|rfl:=h<;>exact⟨eH,eH⟩
def NE.up(h:NE (10^6) (10^8) q):NE (10^10) (10^14) q:=
 ⟨C5 h.den zd,C5 h.num zd⟩
def ScF.mono{n DB M a b:Nat}{f:Nat->Rat}{z:Nat->Int}{σ:Rat}(h:ScF n DB M f z σ)(v:DB<=a)(l:M<=b):ScF n a b f z σ:=by have⟨D,g,c,d,e,p,u,i⟩:=h.ex;exact⟨h.pos,h.eq,D,g,c,d,e,Z,Z,λj o=>C5 (i j o) l⟩
section
variable {lo hi:List (Bool×Rat)}
def zof(k:Nat)(g:GG h n)(st:h bs=ξ (.row [CJ .i64 (N:Int),Y asc m m,Y alo m m,Y ahi m m,Y a4 l4 c4,Y a5 l5 c5,Y a6 l6 c6,Y a7 l7 c7,U b8,Y a9 l9 c9] ty))(aq:bs<3*n)(f:gro bs=χ)(hl:l<=n)(Z4:GR 4 ratP l h n 66 (Y asc m m) sc)(gl:GR 5 bndZ l h n 97 (Y alo m m) lo)(gh:GR 5 bndZ l h n 97 (Y ahi m m) hi)(dj:∀b,BkOf (Y ahi m m) b->¬BkOf (Y alo m m) b)
  (ms:O sc=m)(ml:O lo=m)(mh:O hi=m)(hm:m<999999){aA:Option Addr}{lA kA:Nat}{x1 b1 d1 x2 b2 d2 H Z1:Bool}{a1 e1 a2 e2 F R:Option Addr}{l1 c1 f1 u1 l2 c2 f2 u2 l3 J T u3:Nat}{q1 q2 r:Rat}(i1:IW h n b1 a1 l1 c1 q1.num)(j1:IW h n d1 e1 f1 u1 (denZ q1))(i2:IW h n b2 a2 l2 c2 q2.num)(j2:IW h n d2 e2 f2 u2 (denZ q2))(i3:IW h n H F l3 J r.num)(j3:IW h n Z1 R T u3 (denZ r)){a b:Nat}(z1:Sz a q1)(z2:Sz a q2)(z3:Sz b r)(ap:a+b<=2496):
  CF (Ka (k+11)) 42 [ι bs,.agg #[Y aA lA kA,U x1,U b1,Y a1 l1 c1,U d1,Y e1 f1 u1,U x2,U b2,Y a2 l2 c2,U d2,Y e2 f2 u2],.agg #[U H,Y F l3 J,U Z1,Y R T u3]] h n λ_ y n' w=>n<=n'/\∃o al v,y bs=ξ (.row [CJ .i64 (N:Int),Y o (m+1) (m+1),Y al (m+1) (m+1),Y v (m+1) (m+1),Y a4 l4 c4,Y a5 l5 c5,Y a6 l6 c6,Y a7 l7 c7,U b8,Y a9 l9 c9] ty)/\GR 4 ratP l y n' 66 (Y o (m+1) (m+1)) (sc++[r])/\GR 5 bndZ l y n' 97 (Y al (m+1) (m+1)) (lo++[(x1,q1*r)])/\GR 5 bndZ l y n' 97 (Y v (m+1) (m+1)) (hi++[(x2,q2*r)])/\(∀b,BkOf (Y v (m+1) (m+1)) b->¬BkOf (Y al (m+1) (m+1)) b)/\(∀b,BkOf (Y o (m+1) (m+1)) b->3*n<=b)/\Tr n h n' y/\(∀b,b<3*n->b≠bs->¬BkOf (Y asc m m) b->¬BkOf (Y alo m m) b->¬BkOf (Y ahi m m) b->y b=h b)/\(∀c∈w,c=bs\/3*l<=c):=by refine Lu R4<|zG ?_;refine sB [Y aA lA kA,U x1,U b1,Y a1 l1 c1,U d1,Y e1 f1 u1,U x2,U b2,Y a2 l2 c2,U d2,Y e2 f2 u2] λh1 p1 y1=>?_;refine sB [U H,Y F l3 J,U Z1,Y R T u3] λh2 p2 y2=>?_;refine kh ?_;refine MJ [U H,Y F l3 J,U Z1,Y R T u3] λA p3 y3=>?_;have D:Exo n h A:=⟨(show Tx n h (n+1+1+1) A from zx).2⟩;refine MI (n0:=n) (q:=r) [U H,Y F l3 J,U Z1,Y R T u3] (Z4.ext Ei D.go Z) Ei ⟨_,_,_,_,_,_,_,_,ω,i3.ext D.go Z,j3.ext D.go Z⟩ (yp p3 R2) Z Z (λW hW=>by(repeat (first|rfl|(refine rF ω ?_)))) ?_;intro v4 h4 W4 b0 g4 T4 E4 K4 F4;obtain⟨o,rfl⟩:=g4.shape (L:=m+1) aD;have nS:∀k,¬BkOf (Y asc m m) (3*k+2):=λk=>Z4.nbk (zB _);have s4:=(K4 bs Z (Z4.nbk f)).trans ((D.go bs aq).trans st);refine zH ?_;refine MG (n0:=n) [CJ .i64 (N:Int),Y o (m+1) (m+1),Y alo m m,Y ahi m m,Y a4 l4 c4,Y a5 l5 c5,Y a6 l6 c6,Y a7 l7 c7,U b8,Y a9 l9 c9] s4 λd p5 o5=>?_;have j:Tr n h (n+1+1+1+1) d:=FT o5 ((show Tr n h (n+1+1+1) A from zt).trans T4);have k5:∀c,c<3*(n+1+1+1)->c≠bs->¬BkOf (Y asc m m) c->d c=A c:=λc hc h1 h2=>(o5.1 c h1).trans (K4 c hc h2);have au:d (3*n+2)=_:=(k5 (3*n+2) Z Z (nS _)).trans zp;have av:d (3*(n+1)+2)=_:=(k5 (3*(n+1)+2) Z Z (nS _)).trans zp;have am:=g4.go Ei (FT o5 (Eo _ _)) λb hb=>o5.1 b (by have:=F4 b hb;omega);have K5:∀b,b<3*n->b≠bs->¬BkOf (Y asc m m) b->d b=h b:=λb hb h1 h2=>(k5 b Z h1 h2).trans (D.go b hb);have aj:=gl.kb Gd j f K5 (gl.ne Z4 zd);have az:=gh.kb Gd j f K5 (gh.ne Z4 zd);refine kh ?_;refine dC (mulQ _ (g.t j) (i1.t j) (j1.t j) (i3.t j) (j3.t j) z1 z3 ap) ?_;rintro _ h6 B⟨b6,v6,a8,K,d6,e6,f6,u6,rfl,i6,j6⟩ y6 x6;refine dT #[U x1,U b6,Y v6 a8 K,U d6,Y e6 f6 u6] ?_;refine MJ [U x1,U b6,Y v6 a8 K,U d6,Y e6 f6 u6] λh7 p7 x7=>?_;have X7:Exo (n+1+1+1+1) d h7:=⟨(show Tx (n+1+1+1+1) d (B+1) h7 from zx).2⟩;refine MI (n0:=n) (q:=(x1,q1*r)) [U x1,U b6,Y v6 a8 K,U d6,Y e6 f6 u6] (aj.ext Gd X7.go Z) Gd ⟨_,_,_,_,_,_,_,_,ω,i6.ext x7 Zq,j6.ext x7 Zq⟩ (yp p7 R2) Z Z (λW hW=>by(repeat (first|rfl|(refine rF ω ?_)))) ?_;intro v8 h8 W8 b4 g8 T8 E8 K8 F8;obtain⟨al,rfl⟩:=g8.shape (L:=m+1) aD;have nL:∀k,¬BkOf (Y alo m m) (3*k+2):=λk=>gl.nbk (zB _);have s8:=(K8 bs Z (gl.nbk f)).trans ((X7.go bs Z).trans p5);refine zH ?_;refine MG (n0:=n) [CJ .i64 (N:Int),Y o (m+1) (m+1),Y al (m+1) (m+1),Y ahi m m,Y a4 l4 c4,Y a5 l5 c5,Y a6 l6 c6,Y a7 l7 c7,U b8,Y a9 l9 c9] s8 λi p9 o9=>?_;have T9:Tr (n+1+1+1+1) d (B+1+1) i:=FT o9 ((show Tr (n+1+1+1+1) d (B+1) h7 from⟨Z,λc hc=>.inl (X7.go c hc)⟩).trans T8);have k9:∀c,c<3*(n+1+1+1+1)->c≠bs->¬BkOf (Y alo m m) c->i c=d c:=λc hc h1 h2=>(o9.1 c h1).trans ((K8 c Z h2).trans (X7.go c hc));have bg:i (3*n+2)=_:=(k9 (3*n+2) Z Z (nL _)).trans au;have bh:i (3*(n+1)+2)=_:=(k9 (3*(n+1)+2) Z Z (nL _)).trans av;have an:=am.kb Ei T9 f k9 (am.ne aj zd);have ak:=g8.go Gd (FT o9 (Eo _ _)) λb hb=>o9.1 b (by have:=F8 b hb;omega);have ai:=az.kb Gd T9 f k9 dj;have e:=j.trans T9;have n9:n+1+1+1+1<=B+1+1:=Z;have bf:n+1+1+1+1<=B:=y6;generalize B+1+1=m9 at*;refine kh ?_;refine dC (mulQ _ (g.t e) (i2.t e) (j2.t e) (i3.t e) (j3.t e) z2 z3 ap) ?_;rintro _ bd aa⟨G,ac,a0,I,M,P,S,ab,rfl,b5,b7⟩ bl bj;refine dT #[U x2,U G,Y ac a0 I,U M,Y P S ab] ?_;refine MJ [U x2,U G,Y ac a0 I,U M,Y P S ab] λV b9 aw=>?_;have p:Exo m9 i V:=⟨(show Tx m9 i (aa+1) V from zx).2⟩;refine MI (n0:=n) (q:=(x2,q2*r)) [U x2,U G,Y ac a0 I,U M,Y P S ab] (ai.ext Gd p.go Z) Gd ⟨_,_,_,_,_,_,_,_,ω,b5.ext aw Zq,b7.ext aw Zq⟩ (yp b9 R2) Z Z (λW hW=>by(repeat (first|rfl|(refine rF ω ?_)))) ?_;intro bi be af ax ag ay bc ae ad;obtain⟨v,rfl⟩:=ag.shape (L:=m+1) aD;have bb:=(ae bs Z (gh.nbk f)).trans ((p.go bs Z).trans p9);refine zH ?_;refine MG (n0:=n) [CJ .i64 (N:Int),Y o (m+1) (m+1),Y al (m+1) (m+1),Y v (m+1) (m+1),Y a4 l4 c4,Y a5 l5 c5,Y a6 l6 c6,Y a7 l7 c7,U b8,Y a9 l9 c9] bb λao ba u=>?_;have C:Tr m9 i (aa+1+1) ao:=FT u ((show Tr m9 i (aa+1) V from⟨Z,λc hc=>.inl (p.go c hc)⟩).trans ay);have Z0:∀c,c<3*m9->c≠bs->¬BkOf (Y ahi m m) c->ao c=i c:=λc hc h1 h2=>(u.1 c h1).trans ((ae c Z h2).trans (p.go c hc));refine zG ?_;have ar:bs∈addW n [bs] (addW n af (addW n [bs] (addW n W8 (addW n [bs] (addW n W4 []))))):=wQ aq eF;refine⟨ω,[],ω,⟨Z,o,al,v,ba,an.kb Ei C f Z0 (an.ne ai zd),ak.kb Gd C f Z0 (λb hb Z3=>?_),ag.go Gd (FT u (Eo _ _)) (λb hb=>u.1 b (by have:=ad b hb;omega)),λb hb Z3=>?_,λb hb=>by have:=F4 b hb;omega,e.trans C,λb hb h1 h2 A h4=>(Z0 b Z h1 h4).trans ((k9 b Z h1 A).trans (K5 b hb h1 h2)),yL (λc hc=>.inl (C0.1 hc)) (yL (λc hc=>.inr (ax c hc)) (yL (λc hc=>.inl (C0.1 hc)) (yL (λc hc=>.inr (b4 c hc)) (yL (λc hc=>.inl (C0.1 hc)) (yL (λc hc=>.inr (b0 c hc)) (λc hc=>BO hc CT))))))⟩,λhw=>?_⟩;have h1:=F8 b hb;have h2:=(gh.bk b Z3).2.1;omega;have h1:=ad b hb;have h2:=(ak.bk b Z3).2.1;omega;(try dsimp only at hw);rw[hw]at ar;cases ar
end
section
variable {D:Type}{sz:Nat}
structure SN (l:Nat)(h:HF)(n bt:Nat)(d:Sol)(A:Adr):Prop extends SM l h n bt d A where
 dh:∀b,BkOf (Y A.hi (O d.hi) (O d.hi)) b->¬BkOf (Y A.lo (O d.lo) (O d.lo)) b
 db:∀b,BkOf (Y A.nb (O d.nb) (O d.nb)) b->¬BkOf (Y A.ba (O d.ba) (O d.ba)) b
 rl:∀r∈d.ta,3*l<=r.1/\r.1≠bt
 rj:(d.ta.map (·.1)).Nodup
 lb:3*l<=bt
theorem len1(l:List α)(x:α):O (l++[x])=O l+1:=by rw[CP];rfl
section
variable {b:Bool}{a:Option Addr}{u:Nat}
def SN.ext(s:SN l h n bs d A)(x:J9 n h h')(f:n<=n'):SN l h' n' bs d A:=⟨s.toSM.ext x f,s.dh,s.db,s.rl,s.rj,s.lb⟩
def SM.rwk(s:SM l h n bs d A){P:List ψ->D->HF->Nat->Prop}{i:List D}(g:GR sz P l h n e v i)(T:Tr n h n' h')(K:∀c,c<3*n->c≠bs->¬BkOf v c->h' c=h c)(j:∀r∈d.ta,r.1≠bs):∀r∈d.ta,OZ h' n' r.1 r.2/\gro r.1=χ:=
 λr f=>⟨(s.rw r f).1.go FL T (K _ (s.rw r f).1.1 (j r f) (g.nbk (s.rw r f).2)),(s.rw r f).2⟩
def SN.aNb(s:SN l h n bs d A){x:Nat}(T:Tr n h n' h')(K:∀c,c<3*n->c≠bs->¬BkOf (Y A.nb (O d.nb) (O d.nb)) c->h' c=h c)(g:GR 1 natP l h' n' 3 (Y aX (O d.nb+1) (O d.nb+1)) (d.nb++[x]))(F:∀b,BkOf (Y aX (O d.nb+1) (O d.nb+1)) b->3*n<=b)
  (q:h' bs=ξ (.row [CJ .i64 (d.n:Int),Y A.sc (O d.sc) (O d.sc),Y A.lo (O d.lo) (O d.lo),Y A.hi (O d.hi) (O d.hi),Y A.va (O d.va) (O d.va),Y A.ba (O d.ba) (O d.ba),Y aX (O d.nb+1) (O d.nb+1),Y A.ta (O d.ta) (O d.ta),U b,Y a u c] ty))(i:IW h' n' b a u c d.den):SN l h' n' bs {d with nb:=d.nb++[x]} {A with nb:=aX}:=by have e:=len1 d.nb x;have f:=s.bs.2;refine⟨⟨⟨b,a,u,c,ty,?_,i⟩,⟨Ax,f⟩,s.sc.kb Ei T f K (s.sc.ne s.nb zd),s.lo.kb Gd T f K (s.lo.ne s.nb zd),s.hi.kb Gd T f K (s.hi.ne s.nb zd),s.va.kb Ei T f K (s.va.ne s.nb zd),s.ba.kb FW T f K (λb o j=>s.db b j o),?_,s.ta.kb J0 T f K (s.ta.ne s.nb zd),s.rwk s.nb T K λr p=>(s.rl r p).2,s.dj⟩,s.dh,?_,s.rl,s.rj,s.lb⟩;show h' bs=ξ (.row [_,_,_,_,_,_,Y aX (O (d.nb++[x])) (O (d.nb++[x])),_,_,_] ty);rw[e];exact q;show GR _ _ _ _ _ _ (Y aX (O (d.nb++[x])) (O (d.nb++[x]))) _;rw[e];exact g;show ∀b,BkOf (Y aX (O (d.nb++[x])) (O (d.nb++[x]))) b->¬BkOf (Y A.ba (O d.ba) (O d.ba)) b;rw[e];intro b o j;have:=F b o;have:=(s.ba.bk b j).2.1;omega
def SN.aBa(s:SN l h n bs d A){x:Nat}(T:Tr n h n' h')(K:∀c,c<3*n->c≠bs->¬BkOf (Y A.ba (O d.ba) (O d.ba)) c->h' c=h c)(g:GR 1 natP l h' n' 3 (Y aX (O d.ba+1) (O d.ba+1)) (d.ba++[x]))(F:∀b,BkOf (Y aX (O d.ba+1) (O d.ba+1)) b->3*n<=b)
  (q:h' bs=ξ (.row [CJ .i64 (d.n:Int),Y A.sc (O d.sc) (O d.sc),Y A.lo (O d.lo) (O d.lo),Y A.hi (O d.hi) (O d.hi),Y A.va (O d.va) (O d.va),Y aX (O d.ba+1) (O d.ba+1),Y A.nb (O d.nb) (O d.nb),Y A.ta (O d.ta) (O d.ta),U b,Y a u c] ty))(i:IW h' n' b a u c d.den):SN l h' n' bs {d with ba:=d.ba++[x]} {A with ba:=aX}:=by have e:=len1 d.ba x;have f:=s.bs.2;refine⟨⟨⟨b,a,u,c,ty,?_,i⟩,⟨Ax,f⟩,s.sc.kb Ei T f K (s.sc.ne s.ba zd),s.lo.kb Gd T f K (s.lo.ne s.ba zd),s.hi.kb Gd T f K (s.hi.ne s.ba zd),s.va.kb Ei T f K (s.va.ne s.ba zd),?_,s.nb.kb FW T f K s.db,s.ta.kb J0 T f K (s.ta.ne s.ba zd),s.rwk s.ba T K λr p=>(s.rl r p).2,s.dj⟩,s.dh,?_,s.rl,s.rj,s.lb⟩;show h' bs=ξ (.row [_,_,_,_,_,Y aX (O (d.ba++[x])) (O (d.ba++[x])),_,_,_,_] ty);rw[e];exact q;show GR _ _ _ _ _ _ (Y aX (O (d.ba++[x])) (O (d.ba++[x]))) _;rw[e];exact g;show ∀b,BkOf (Y A.nb (O d.nb) (O d.nb)) b->¬BkOf (Y aX (O (d.ba++[x])) (O (d.ba++[x]))) b;rw[e];intro b j o;have:=F b o;have:=(s.nb.bk b j).2.1;omega
def SN.aVa(s:SN l h n bs d A){x:Rat}(T:Tr n h n' h')(K:∀c,c<3*n->c≠bs->¬BkOf (Y A.va (O d.va) (O d.va)) c->h' c=h c)(g:GR 4 ratP l h' n' 66 (Y aX (O d.va+1) (O d.va+1)) (d.va++[x]))(F:∀b,BkOf (Y aX (O d.va+1) (O d.va+1)) b->3*n<=b)
  (q:h' bs=ξ (.row [CJ .i64 (d.n:Int),Y A.sc (O d.sc) (O d.sc),Y A.lo (O d.lo) (O d.lo),Y A.hi (O d.hi) (O d.hi),Y aX (O d.va+1) (O d.va+1),Y A.ba (O d.ba) (O d.ba),Y A.nb (O d.nb) (O d.nb),Y A.ta (O d.ta) (O d.ta),U b,Y a u c] ty))(i:IW h' n' b a u c d.den):SN l h' n' bs {d with va:=d.va++[x]} {A with va:=aX}:=by have e:=len1 d.va x;have f:=s.bs.2;refine⟨⟨⟨b,a,u,c,ty,?_,i⟩,⟨Ax,f⟩,s.sc.kb Ei T f K (λb o j=>s.dj b j o),s.lo.kb Gd T f K (s.lo.ne s.va zd),s.hi.kb Gd T f K (s.hi.ne s.va zd),?_,s.ba.kb FW T f K (s.ba.ne s.va zd),s.nb.kb FW T f K (s.nb.ne s.va zd),s.ta.kb J0 T f K (s.ta.ne s.va zd),s.rwk s.va T K λr p=>(s.rl r p).2,?_⟩,s.dh,s.db,s.rl,s.rj,s.lb⟩;show h' bs=ξ (.row [_,_,_,_,Y aX (O (d.va++[x])) (O (d.va++[x])),_,_,_,_,_] ty);rw[e];exact q;show GR _ _ _ _ _ _ (Y aX (O (d.va++[x])) (O (d.va++[x]))) _;rw[e];exact g;show ∀b,BkOf (Y aX (O (d.va++[x])) (O (d.va++[x]))) b->¬BkOf (Y A.sc (O d.sc) (O d.sc)) b;rw[e];intro b o j;have:=F b o;have:=(s.sc.bk b j).2.1;omega
def SN.aTa(s:SN l h n bs d A){x:Nat×List Int}(T:Tr n h n' h')(K:∀c,c<3*n->c≠bs->¬BkOf (Y A.ta (O d.ta) (O d.ta)) c->h' c=h c)(g:GR 1 KN l h' n' 64 (Y aX (O d.ta+1) (O d.ta+1)) (d.ta++[x]))(o:OZ h' n' x.1 x.2)(w:gro x.1=χ)(hx:x.1≠bs/\3*l<=x.1/\∀r∈d.ta,r.1<x.1)
  (F:h' bs=ξ (.row [CJ .i64 (d.n:Int),Y A.sc (O d.sc) (O d.sc),Y A.lo (O d.lo) (O d.lo),Y A.hi (O d.hi) (O d.hi),Y A.va (O d.va) (O d.va),Y A.ba (O d.ba) (O d.ba),Y A.nb (O d.nb) (O d.nb),Y aX (O d.ta+1) (O d.ta+1),U b,Y a u c] ty))(i:IW h' n' b a u c d.den):SN l h' n' bs {d with ta:=d.ta++[x]} {A with ta:=aX}:=by have e:=len1 d.ta x;have j:=s.bs.2;have C:=s.rwk s.ta T K λr f=>(s.rl r f).2;refine⟨⟨⟨b,a,u,c,ty,?_,i⟩,⟨Ax,j⟩,s.sc.kb Ei T j K (s.sc.ne s.ta zd),s.lo.kb Gd T j K (s.lo.ne s.ta zd),s.hi.kb Gd T j K (s.hi.ne s.ta zd),s.va.kb Ei T j K (s.va.ne s.ta zd),s.ba.kb FW T j K (s.ba.ne s.ta zd),s.nb.kb FW T j K (s.nb.ne s.ta zd),?_,λr f=>?_,s.dj⟩,s.dh,s.db,λr f=>?_,?_,s.lb⟩;show h' bs=ξ (.row [_,_,_,_,_,_,_,Y aX (O (d.ta++[x])) (O (d.ta++[x])),_,_] ty);rw[e];exact F;show GR _ _ _ _ _ _ (Y aX (O (d.ta++[x])) (O (d.ta++[x]))) _;rw[e];exact g;obtain f|f:=DW.1 f;exact C r f;rw[C0.1 f];exact⟨o,w⟩;obtain f|f:=DW.1 f;exact s.rl r f;rw[C0.1 f];exact⟨hx.2.1,hx.1⟩;show((d.ta++[x]).map (·.1)).Nodup;rw[Ev,List.nodup_append];refine⟨s.rj,List.nodup_cons.2 ⟨CT,ID⟩,λp y q B=>?_⟩;obtain⟨r,f,rfl⟩:=DU.1 y;have:=hx.2.2 r f;have G:q=x.1:=C0.1 B;omega
def UB(k:Nat)(g:GG h n)(s:SN l h n bs d A)(hl:l<=n)(G:O d.sc=m)(Z1:O d.lo=m)(N:O d.hi=m)(hm:m<999999){x1 d1 x2 d2 b3 d3:Bool}{e2 Z0 e3:Option Addr}{l3 c3 f3 u3:Nat}{f i r:Rat}(i1:IW h n b1 a1 l1 c1 f.num)(j1:IW h n d1 e1 f1 u1 (denZ f))(i2:IW h n b2 a2 l2 c2 i.num)(j2:IW h n d2 e2 f2 u2 (denZ i))(i3:IW h n b3 Z0 l3 c3 r.num)(j3:IW h n d3 e3 f3 u3 (denZ r)){a b:Nat}(z1:Sz a f)(z2:Sz a i)(z3:Sz b r)(a8:a+b<=2496):
  CF (Ka (k+11)) 42 [ι bs,.agg #[Y aA lA kA,U x1,U b1,Y a1 l1 c1,U d1,Y e1 f1 u1,U x2,U b2,Y a2 l2 c2,U d2,Y e2 f2 u2],.agg #[U b3,Y Z0 l3 c3,U d3,Y e3 f3 u3]] h n λ_ h' n' w=>n<=n'/\(∃A',SN l h' n' bs {d with sc:=d.sc++[r],lo:=d.lo++[(x1,f*r)],hi:=d.hi++[(x2,i*r)]} A')/\Tr n h n' h'/\(∀b,b<3*n->b≠bs->gro b=χ->h' b=h b)/\(∀b,b<3*l->h' b=h b)/\(∀c∈w,3*l<=c):=by have⟨b0,a0,u0,c0,ty,st,iD⟩:=s.st;have V:=s.bs.2;have q:=s.sc;have p:=s.lo;have o:=s.hi;have Z4:=s.dh;rw[G,Z1,N]at st;rw[G]at q;rw[Z1]at p Z4;rw[N]at o Z4;refine wc (zof k g st s.bs.1 V hl q p o Z4 G Z1 N hm i1 j1 i2 j2 i3 j3 z1 z2 z3 a8) ?_;rintro _ h' n' w⟨y,H,J,I,p8,a7,a6,a5,a4,F8,T,Z3,aa⟩;have R:∀{D:Type} {sz:Nat} {P:List ψ->D->HF->Nat->Prop} {v:ψ} {e:TypeId} {l':List D},KP sz P->GR sz P l h n e v l'->(∀b,BkOf v b->¬BkOf (Y A.sc m m) b)->(∀b,BkOf v b->¬BkOf (Y A.lo m m) b)->(∀b,BkOf v b->¬BkOf (Y A.hi m m) b)->GR sz P l h' n' e v l':=λkp g W B h3=>g.go kp T λb j=>Z3 b (g.bk b j).2.1 (λe=>by have:=(g.bk b j).2.2.1;rw[e,V]at this;cases this) (W b j) (B b j) (h3 b j);have S:=s.dj;rw[G]at S;have M:=len1 d.sc r;have L:=len1 d.lo (x1,f*r);have K:=len1 d.hi (x2,i*r);rw[G]at M;rw[Z1]at L;rw[N]at K;have kf:∀b,b<3*n->b≠bs->gro b=χ->h' b=h b:=λb j W B=>Z3 b j W (q.nbk B) (p.nbk B) (o.nbk B);refine⟨y,⟨⟨H,J,I,A.va,A.ba,A.nb,A.ta⟩,⟨⟨b0,a0,u0,c0,ty,?_,iD.t T⟩,⟨by have:=s.bs.1;omega,V⟩,?_,?_,?_,R Ei s.va S (s.va.ne p zd) (s.va.ne o zd),R FW s.ba (s.ba.ne q zd) (s.ba.ne p zd) (s.ba.ne o zd),R FW s.nb (s.nb.ne q zd) (s.nb.ne p zd) (s.nb.ne o zd),R J0 s.ta (s.ta.ne q zd) (s.ta.ne p zd) (s.ta.ne o zd),λr C=>⟨(s.rw r C).1.go FL T (kf _ (s.rw r C).1.1 (s.rl r C).2 (s.rw r C).2),(s.rw r C).2⟩,?_⟩,?_,s.db,s.rl,s.rj,s.lb⟩,T,kf,λb j=>Z3 b Z (λe=>by have:=s.lb;omega) (λF=>by have:=(q.bk b F).1;omega) (λF=>by have:=(p.bk b F).1;omega) (λF=>by have:=(o.bk b F).1;omega),λc hc=>by obtain rfl|h:=aa c hc;exact s.lb;exact h⟩;show h' bs=ξ (.row [_,Y H (O (d.sc++[r])) (O (d.sc++[r])),Y J (O (d.lo++[(x1,f*r)])) (O (d.lo++[(x1,f*r)])),Y I (O (d.hi++[(x2,i*r)])) (O (d.hi++[(x2,i*r)])),_,_,_,_,_,_] ty);rw[M,L,K];exact p8;show GR _ _ _ _ _ _ (Y H (O (d.sc++[r])) (O (d.sc++[r]))) _;rw[M];exact a7;show GR _ _ _ _ _ _ (Y J (O (d.lo++[(x1,f*r)])) (O (d.lo++[(x1,f*r)]))) _;rw[L];exact a6;show GR _ _ _ _ _ _ (Y I (O (d.hi++[(x2,i*r)])) (O (d.hi++[(x2,i*r)]))) _;rw[K];exact a5;show ∀b,BkOf (Y A.va (O d.va) (O d.va)) b->¬BkOf (Y H (O (d.sc++[r])) (O (d.sc++[r]))) b;rw[M];intro b j a9;have:=F8 b a9;have:=(s.va.bk b j).2.1;omega;show ∀b,BkOf (Y I (O (d.hi++[(x2,i*r)])) (O (d.hi++[(x2,i*r)]))) b->¬BkOf (Y J (O (d.lo++[(x1,f*r)])) (O (d.lo++[(x1,f*r)]))) b;rw[K,L];exact a4
end
end
def bL(d:SideD)(s:Rat):Bool×Rat:=(decide (d.lo≠[]),zj d.lo*s)
def bH(d:SideD)(s:Rat):Bool×Rat:=(decide (d.hi≠[]),zj d.hi*s)
def KG(d:SideD):Rat:=if d.lo≠[]then zj d.lo else if d.hi≠[]then zj d.hi else 0
def solC(N:Nat)(cs:List SideD):Sol:=⟨N,CO (O cs) 1,cs.map λd=>bL d 1,cs.map λd=>bH d 1,cs.map KG,[],DV (O cs),[],1⟩
def solR(cs rs:List SideD)(ss:List Rat)(bz:List (Nat×List Int)):Sol:=⟨O cs,CO (O cs) 1++ss,(cs.map λd=>bL d 1)++Ea bL rs ss,(cs.map λd=>bH d 1)++Ea bH rs ss,cs.map KG++Ea (λr s=>dotR r.A (cs.map KG)*s) rs ss,(DV (O ss)).map (O cs+ ·),DV (O cs),bz,1⟩
def zdc{N:Nat}{cs:List SideD}{d:SideD}:solC N (cs++[d])=⟨N,CO (O cs) 1++[1],(cs.map λd=>bL d 1)++[bL d 1],(cs.map λd=>bH d 1)++[bH d 1],cs.map KG++[KG d],[],DV (O cs)++[O cs],[],1⟩:=by unfold solC;rw[len1,List.replicate_succ',ag5,Ev,Ev,Ev];rfl
theorem zda{cs rs:List SideD}:solR cs rs [] []=solC (O cs) cs:=by grind [solR,solC,Ju]
theorem s0{α β γ:Type}{f:α->β->γ}:∀{rs:List α} {ss:List β} {r:α} {s:β},rs[O ss]?=ξ r->Ea f rs (ss++[s])=Ea f rs ss++[f r s]
 |[],ss,r,s,h=>by cases h
 |x::rs,[],r,s,h=>by
  injection h with h
  subst h;show f x s::Ea f rs []=_;rw[Ju];rfl
 |x::rs,y::ss,r,s,h=>by
  show f x y::Ea f rs (ss++[s])=f x y::(Ea f rs ss++[f r s]);rw[s0 (rs:=rs) (ss:=ss) h]
theorem zdb{cs rs:List SideD}{ss:List Rat}{a:List (Nat×List Int)}{r:SideD}{s:Rat}{z:Nat×List Int}(h:rs[O ss]?=ξ r):solR cs rs (ss++[s]) (a++[z])=⟨O cs,(CO (O cs) 1++ss)++[s],((cs.map λd=>bL d 1)++Ea bL rs ss)++[bL r s],((cs.map λd=>bH d 1)++Ea bH rs ss)++[bH r s],(cs.map KG++Ea (λr s=>dotR r.A (cs.map KG)*s) rs ss)++[dotR r.A (cs.map KG)*s],(DV (O ss)).map (O cs+ ·)++[O cs+O ss],DV (O cs),a++[z],1⟩:=by grind [solR,len1,s0,ag5,List.append_assoc]
theorem OU{x:Bool}{p:Prop}[Decidable p](v:x=φ↔p):x=decide p:=by grind
def lD{α β γ:Type}{f:α->β->γ}{rs:List α}{ss:List β}(h:O ss<=O rs):O (Ea f rs ss)=O ss:=by rw[Hx];omega
def za7(k:Nat){h:HF}{n:Nat}(g:GG h n){ao aR ac:Option Addr}{lo co lR cR lc cc:Nat}{ob:List Rat}{rs cs:List SideD}(io:QS h n (Y ao lo co) ob)(ir:KC h n (Y aR lR cR) rs)(ic:KC h n (Y ac lc cc) cs){a P:Nat}(hc:∀d∈cs,Sz a (zj d.lo)/\Sz a (zj d.hi))(hr:∀d∈rs,Sz a (zj d.lo)/\Sz a (zj d.hi)/\O d.A=O cs/\∀q∈d.A,Sz a q)(hz:∀q∈ob,Sz a q)(gp:O ob=O cs)(h0:0<O cs)(hP:a*O cs+a+1<=P)(jf:O cs*(a+a+2)+a+a+3+P<=2490)(hL:O cs<=900)(hR:O rs<=900):
  CX (Ka (k+13)) 16 [.agg #[Y ao lo co,Y aR lR cR,Y ac lc cc]] h n λw h' n'=>∃u A p M B zs s,w=ι u/\SN n h' n' u {solR cs rs p M with ta:=M++[(B,zs)]} A/\O p=O rs/\O M=O rs/\(∀(i:Nat) r z q,rs[i]?=ξ r->M[i]?=ξ z->p[i]?=ξ q->ScR r.A P z.2 q)/\ScR ob P zs s:=by
 have i1:=io.len;have gz:=ir.len;have i0:=ic.len;subst i1 gz i0;have ha:a<=P:=Z;refine zw R4<|zG ?_;refine sB [Y ao (O ob) co,Y aR (O rs) cR,Y ac (O cs) cc] λh1 p1 x1=>?_;refine kh ?_;refine dC (NK _ _ _) ?_;rintro _ h2 n2⟨b2,a2,l2,c2,rfl,i2⟩ y2 x2;refine dT #[CJ .i64 (O cs:Int),η,η,η,η,η,η,η,U b2,Y a2 l2 c2] ?_;refine dB [CJ .i64 (O cs:Int),η,η,η,η,η,η,η,U b2,Y a2 l2 c2] λh3 p3 x3=>?_;obtain⟨u,hB⟩:∃B,B=3*n2+2:=⟨_,ω⟩;have gb:gro u=χ:=by rw[hB];exact zB _
 rw[<-hB]at p3⊢;have nn:∀{P:Prop} b,BkOf (η) b->P:=λb hb=>(by have⟨o,l,c,e⟩:=hb;cases e);have s3:SN n h3 (n2+1) u (solC (O cs) (cs.take 0)) ⟨θ,θ,θ,θ,θ,θ,θ⟩:=⟨⟨⟨b2,a2,l2,c2,_,p3,i2.ext x3 Zq⟩,⟨Z,gb⟩,ad4,ad4,ad4,ad4,ad4,ad4,ad4,λr hr=>BO hr CT,λb hb=>nn b hb⟩,λb hb=>nn b hb,λb hb=>nn b hb,λr hr=>BO hr CT,ID,Z⟩;have X3:Exo n h h3:=⟨(show Tx n h (n2+1) h3 from zx).2⟩;have i4:h3 (3*n+2)=_:=(zp:h3 (3*n+2)=_);have y3:n+1<=n2:=y2;refine zJ ?_;refine sF (α:=Nat×Adr) (λz=>[(1,ι (3*n+2)),(3,ι u),(19,Y ac (O cs) cc),(20,CJ .i64 (O cs:Int)),(21,CJ .i64 (z.1:Int))]) (λz h' n' w'=>w'=[]/\n2+1<=n'/\J9 n h h'/\h' (3*n+2)=ξ (.row [Y ao (O ob) co,Y aR (O rs) cR,Y ac (O cs) cc] 45)/\SN n h' n' u (solC (O cs) (cs.take z.1)) z.2/\z.1<=O cs) (λz=>O cs-z.1) (0,⟨θ,θ,θ,θ,θ,θ,θ⟩) ⟨ω,CG,X3.go,i4,s3,CH⟩ ?_;rintro⟨j,A⟩ t h4 n4 _ ⟨rfl,y4,X4,p4,s4,hj⟩;have y4:n2+1<=n4:=y4;replace X4:Exo n h h4:=⟨X4⟩;(try dsimp only at p4 s4 hj);have g4:GG h4 n4:=g.ext X4.go Z;have b4:O (cs.take j)=j:=by rw[List.length_take];omega
 generalize hcj:cs.take j=cj at*;refine zG ?_;by_cases q4:(j:Int)<(O cs:Int);refine zG ?_;have dm:j<O cs:=Z;obtain⟨d,gd⟩:∃d,cs[j]?=ξ d:=⟨_,CK dm⟩;have⟨zlo,zhi⟩:=hc d (CL gd);have⟨bb,off,aA,lA,kA,bo,b6,a6,l6,c6,d6,e6,f6,u6,bp,b7,a7,l7,c7,d7,e7,f7,u7,e8,m8,r8,t8,_,v6,i6,j6,v7,i7,j7⟩:=KC.at (ic.ext (n':=n4) X4.go Z) gd;refine sI e8 r8 ?_;refine sL t8 m8 0 ?_;refine sA λh5 p5 x5=>?_;refine zG ?_;refine sS [Y aA lA kA,U bo,U b6,Y a6 l6 c6,U d6,Y e6 f6 u6,U bp,U b7,Y a7 l7 c7,U d7,Y e7 f7 u7] λh6 p6 o6=>?_;refine kh ?_;refine dC (Tv _ _ _) ?_;rintro _ h7 n7⟨b9,a9,l9,c9,d9,e9,f9,u9,rfl,i9,j9⟩ y7 x7;have T7:Tr n4 h4 n7 h7:=zt;have k7:∀c,c<3*n4->h7 c=h4 c:=λc hc=>(by have e0:h4 c=h4 c:=rfl;exact zp);have X7:Exo n4 h4 h7:=⟨k7⟩;have jj:n4+1<=n7:=y7;have fi:h7 (3*n4+2)=_:=(x7 _ Z).trans p6;have l1:(solC (O cs) cj).sc.length=j:=by show(CO (O cj) (1:Rat)).length=j;rw[Du];exact b4
 have l2:(solC (O cs) cj).lo.length=j:=by show(cj.map _).length=j;rw[CU];exact b4
 have l3:(solC (O cs) cj).hi.length=j:=by show(cj.map _).length=j;rw[CU];exact b4
 have az:=UB (k+1) (g4.t T7) (s4.ext X7.go Z) (show n<=n7 from Z) l1 l2 l3 Z (aA:=aA) (lA:=lA) (kA:=kA) (x1:=bo) (x2:=bp) (i6.t T7) (j6.t T7) (i7.t T7) (j7.t T7) i9 j9 zlo zhi (b:=1) (show Sz 1 (1:Rat)from⟨by decide,by decide⟩) Z;refine wa _ R7 az ?_;rintro _ h8 J w8⟨y8,⟨A8,s8⟩,T8,k8,L8,f5⟩;refine⟨rF ω ω,y8,?_⟩;rw[mY,zV f5];have bn:=T7.trans T8;have fj:h8 (3*n4+2)=_:=(k8 _ Z Z (zB _)).trans fi;have fh:h8 (3*n+2)=_:=(k8 _ Z Z (zB _)).trans ((k7 _ Z).trans p4);have X8:Exo n h h8:=⟨λc hc=>(L8 c hc).trans ((k7 c Z).trans (X4.go c hc))⟩;have jn:n4+1<=J:=Z;have fa:=i6.t bn;have fc:=j6.t bn;have fb:=i7.t bn;have fd:=j7.t bn;have ji:n<J:=Z;rw[OU v6,OU v7]at s8;obtain⟨K,bq⟩:∃K:Sol,K={solC (O cs) cj with sc:=(solC (O cs) cj).sc++[1],lo:=(solC (O cs) cj).lo++[bL d 1],hi:=(solC (O cs) cj).hi++[bH d 1]}:=⟨_,ω⟩;have s8:SN n h8 J u K A8:=bq▸s8;have l8:O K.nb=j:=by rw[bq];show(DV (O cj)).length=j;rw[Fo];exact b4
 have⟨b5,a5,l5,c5,ty,st,iD⟩:=s8.st;have jg:=s8.bs.1;refine zJ ?_;refine wE [CJ .i64 (j:Int)] (l:=1) (c:=1) R5 λh9 p9 x9=>?_;refine OJ (n0:=n) [CJ .i64 (j:Int)] [j] (s8.nb.ext FW x9 Zq) FW (.cons (c:=[CJ .i64 (j:Int)]) ω ω .nil) ⟨ω,ω⟩ (yp p9 R2) CG (by rw[l8];show j+1<_;omega) Z ?_;intro jq f0 c4 em g7 cz cx;obtain⟨aN,rfl⟩:=c4.shape (L:=O K.nb+1) (len1 _ _);have fk:=(cz u Z (s8.nb.nbk gb)).trans ((x9 u Z).trans st);refine zG ?_;refine NL (n0:=n) [CJ .i64 (K.n:Int),Y A8.sc (O K.sc) (O K.sc),Y A8.lo (O K.lo) (O K.lo),Y A8.hi (O K.hi) (O K.hi),Y A8.va (O K.va) (O K.va),Y A8.ba (O K.ba) (O K.ba),Y aN (O K.nb+1) (O K.nb+1),Y A8.ta (O K.ta) (O K.ta),U b5,Y a5 l5 c5] ?_ (hb:=fk);intro G b8 ab;have bd:Tr J h8 (J+1+1) G:=FT ab (HY ⟨Dc _,λc hc=>.inl (x9 c hc)⟩ em);have Z1:∀c,c<3*J->c≠u->¬BkOf (Y A8.nb (O K.nb) (O K.nb)) c->G c=h8 c:=λc hc h1 h2=>(ab.1 c h1).trans ((cz c Z h2).trans (x9 c hc));have C:=s8.aNb bd Z1 (c4.go FW (FT ab (Eo _ _)) λb hb=>ab.1 b (by have:=cx b hb;omega)) (λb hb=>by have:=cx b hb;omega) b8 (iD.t bd);have iv:G (3*n4+2)=_:=(Z1 _ Z Z (s8.nb.nbk (zB _))).trans fj;have ce:G (3*n+2)=_:=(Z1 _ Z Z (s8.nb.nbk (zB _))).trans fh;have T:Exo n h G:=⟨λc hc=>(Z1 c Z Z (λhv=>by have:=(s8.nb.bk c hv).1;omega)).trans (X8.go c hc)⟩;have fu:=fa.t bd;have fy:=fc.t bd;have fv:=fb.t bd;have fz:=fd.t bd;obtain⟨f,bh⟩:∃f:Sol,f={K with nb:=K.nb++[j]}:=⟨_,ω⟩;obtain⟨D,dg⟩:∃D:Adr,D={A8 with nb:=aN}:=⟨_,ω⟩;rw[<-bh,<-dg]at C;have l11:O f.va=j:=by rw[bh,bq];show(cj.map _).length=j;rw[CU];exact b4
 have b1:{f with va:=f.va++[KG d]}=solC (O cs) (cs.take (j+1)):=(by rw[xa gd,hcj,zdc,bh,bq,b4];unfold solC;rw[b4]);have⟨d4,d2,dw,db,iy,cf,cb⟩:=C.st;have jl:J+1<=J+1+1:=Dc _;generalize hm:J+1+1=m at*;have ip:=C.bs.1;refine zG ?_;obtain⟨rfl,cm⟩|⟨rfl,cm⟩:=Kg v6;refine zG ?_;obtain⟨rfl,dd⟩|⟨rfl,dd⟩:=Kg v7;have ev:KG d=0:=(Cs cm).trans (Cs dd);refine zG ?_;refine sT #[U χ,η,U χ,η] ?_;refine wE [U χ,η,U χ,η] (l:=1) (c:=1) R5 λae bu I=>?_;refine OJ (n0:=n) [U χ,η,U χ,η] [(0:Rat)] (C.va.ext Ei I Zq) Ei (.cons (c:=[U χ,η,U χ,η]) ω ⟨_,_,_,_,_,_,_,_,ω,EB _ _,EB _ _⟩ .nil) ⟨ω,ω⟩ (yp bu R2) CG (by rw[l11];show j+1<_;omega) Z ?_;intro fo f1 a3 bl eh aq ap;obtain⟨aV,rfl⟩:=a3.shape (L:=O f.va+1) (len1 _ _);have bw:=(aq u Z (C.va.nbk gb)).trans ((I u Z).trans cf);refine zG ?_;refine NL (n0:=n) [CJ .i64 (f.n:Int),Y D.sc (O f.sc) (O f.sc),Y D.lo (O f.lo) (O f.lo),Y D.hi (O f.hi) (O f.hi),Y aV (O f.va+1) (O f.va+1),Y D.ba (O f.ba) (O f.ba),Y D.nb (O f.nb) (O f.nb),Y D.ta (O f.ta) (O f.ta),U d4,Y d2 dw db] ?_ (hb:=bw);intro ak ax R;have ar:Tr m G (m+1+1) ak:=FT R (HY ⟨Dc _,λc hc=>.inl (I c hc)⟩ bl);have a8:∀c,c<3*m->c≠u->¬BkOf (Y D.va (O f.va) (O f.va)) c->ak c=G c:=λc hc h1 h2=>(R.1 c h1).trans ((aq c Z h2).trans (I c hc));refine zG ?_;have ay:=C.aVa ar a8 (a3.go Ei (FT R (Eo _ _)) λb hb=>R.1 b (by have:=ap b hb;omega)) (λb hb=>by have:=ap b hb;omega) ax (cb.t ar);rw[<-ev,b1]at ay;exact sK (j+1,{D with va:=aV}) ⟨ω,Z,λc hc=>(a8 c Z Z (λhv=>by have:=(C.va.bk c hv).1;omega)).trans (T.go c hc),(a8 _ Z Z (C.va.nbk (zB _))).trans ce,ay,mp⟩;have ev:KG d=zj d.hi:=(Cs cm).trans (Cx dd);refine kh ?_;refine MJ [U b7,Y a7 l7 c7,U d7,Y e7 f7 u7] λae bu I=>?_;refine MI (n0:=n) (q:=zj d.hi) [U b7,Y a7 l7 c7,U d7,Y e7 f7 u7] (C.va.ext Ei I Zq) Ei ⟨_,_,_,_,_,_,_,_,ω,fv.ext I Zq,fz.ext I Zq⟩ (yp bu R2) (by rw[l11];omega) Z (λW hW=>by(repeat (first|rfl|(refine rF ω ?_)))) ?_;intro fo f1 d1 c8 a3 bl eh aq ap;obtain⟨aV,rfl⟩:=a3.shape (L:=O f.va+1) (len1 _ _);have bw:=(aq u Z (C.va.nbk gb)).trans ((I u Z).trans cf);refine zH ?_;refine MG (n0:=n) [CJ .i64 (f.n:Int),Y D.sc (O f.sc) (O f.sc),Y D.lo (O f.lo) (O f.lo),Y D.hi (O f.hi) (O f.hi),Y aV (O f.va+1) (O f.va+1),Y D.ba (O f.ba) (O f.ba),Y D.nb (O f.nb) (O f.nb),Y D.ta (O f.ta) (O f.ta),U d4,Y d2 dw db] bw λak ax R=>?_;have ar:Tr m G (m+1+1) ak:=FT R (HY ⟨Dc _,λc hc=>.inl (I c hc)⟩ bl);have a8:∀c,c<3*m->c≠u->¬BkOf (Y D.va (O f.va) (O f.va)) c->ak c=G c:=λc hc h1 h2=>(R.1 c h1).trans ((aq c Z h2).trans (I c hc));refine zG ?_;have au:addW n [u] (addW n d1 [])=[]:=by rw[wD Z,zV (λc hc=>by have:=c8 c hc;omega)]
 exact BE;have ev:KG d=zj d.lo:=Cx cm;refine kh ?_;refine MJ [U b6,Y a6 l6 c6,U d6,Y e6 f6 u6] λae bu I=>?_;refine MI (n0:=n) (q:=zj d.lo) [U b6,Y a6 l6 c6,U d6,Y e6 f6 u6] (C.va.ext Ei I Zq) Ei ⟨_,_,_,_,_,_,_,_,ω,fu.ext I Zq,fy.ext I Zq⟩ (yp bu R2) (by rw[l11];omega) Z (λW hW=>by(repeat (first|rfl|(refine rF ω ?_)))) ?_;intro fo f1 d1 c8 a3 bl eh aq ap;obtain⟨aV,rfl⟩:=a3.shape (L:=O f.va+1) (len1 _ _);have bw:=(aq u Z (C.va.nbk gb)).trans ((I u Z).trans cf);refine zH ?_;refine MG (n0:=n) [CJ .i64 (f.n:Int),Y D.sc (O f.sc) (O f.sc),Y D.lo (O f.lo) (O f.lo),Y D.hi (O f.hi) (O f.hi),Y aV (O f.va+1) (O f.va+1),Y D.ba (O f.ba) (O f.ba),Y D.nb (O f.nb) (O f.nb),Y D.ta (O f.ta) (O f.ta),U d4,Y d2 dw db] bw λak ax R=>?_;have ar:Tr m G (m+1+1) ak:=FT R (HY ⟨Dc _,λc hc=>.inl (I c hc)⟩ bl);have a8:∀c,c<3*m->c≠u->¬BkOf (Y D.va (O f.va) (O f.va)) c->ak c=G c:=λc hc h1 h2=>(R.1 c h1).trans ((aq c Z h2).trans (I c hc));refine zG ?_;have au:addW n [u] (addW n d1 [])=[]:=by rw[wD Z,zV (λc hc=>by have:=c8 c hc;omega)]
 exact BE;have dm:j=O cs:=Z;have s4:SN n h4 n4 u (solR cs rs [] []) A:=(by rw[zda];rw[<-hcj,dm,Da]at s4;exact s4);refine zG ?_;refine sF (α:=Nat×List Rat×List (Nat×List Int)×Adr) (λz=>[(1,ι (3*n+2)),(3,ι u),(84,Y aR (O rs) cR),(85,CJ .i64 (O rs:Int)),(86,CJ .i64 (z.1:Int))]) (λz h' n' w'=>w'=[]/\n2+1<=n'/\J9 n h h'/\h' (3*n+2)=ξ (.row [Y ao (O ob) co,Y aR (O rs) cR,Y ac (O cs) cc] 45)/\SN n h' n' u (solR cs rs z.2.1 z.2.2.1) z.2.2.2/\O z.2.1=z.1/\z.1<=O rs/\O z.2.2.1=z.1/\∀(i:Nat) r y q,rs[i]?=ξ r->z.2.2.1[i]?=ξ y->z.2.1[i]?=ξ q->ScR r.A P y.2 q) (λz=>O rs-z.1) (0,[],[],A) ⟨ω,y4,X4.go,p4,s4,ω,CH,ω,λi r y q _ h=>by simp at h⟩ ?_;rintro⟨ii,p,M,A5⟩ t h5 V _ ⟨rfl,y5,X5,p5,s5,gn,hi,b0,cq⟩;obtain rfl:O p=ii:=gn;have y5:n2+1<=V:=y5;replace X5:Exo n h h5:=⟨X5⟩;(try dsimp only at p5 s5 hi b0 cq);have g5:GG h5 V:=g.ext X5.go Z;have iq:=s5.bs.1;refine zG ?_;by_cases q5:(O p:Int)<(O rs:Int);refine zG ?_;have cp:O p<O rs:=Z;obtain⟨r,gr⟩:∃r,rs[O p]?=ξ r:=⟨_,CK cp⟩;have⟨zlo,zhi,f3,hA⟩:=hr r (CL gr);have⟨bb,off,aA,lA,kA,bo,b6,a6,l6,c6,d6,e6,f6,u6,bp,b7,a7,l7,c7,d7,e7,f7,u7,e8,m8,r8,t8,qA,v6,i6,j6,v7,i7,j7⟩:=KC.at ir gr;have gy:=qA.len;subst gy;refine sI e8 r8 ?_;refine sL (t8.ext X5.go m8) (show bb<3*V from Z) 0 ?_;refine sA λh6 p6 y6=>?_;refine zG ?_;refine sS [Y aA (O r.A) kA,U bo,U b6,Y a6 l6 c6,U d6,Y e6 f6 u6,U bp,U b7,Y a7 l7 c7,U d7,Y e7 f7 u7] λh7 p7 o7=>?_;have k7:Exo V h5 h7:=⟨(show Tx V h5 (V+1) h7 from zx).2⟩;have X7:Exo n h h7:=⟨λc hc=>(k7.go c Z).trans (X5.go c hc)⟩;refine zG ?_;refine sC (qa _ (g.ext (n':=V+1) X7.go Z) (qA.ext X7.go Z) hA (P:=P) (by rw[f3];exact hP) Z Z) ?_;rintro _ h8 J⟨B,zs,s,b9,a9,l9,c9,d9,e9,f9,u9,rfl,hB,gB,oz,tz,hs,i9,j9⟩ y8 x8;refine Za λf0 e1 bx=>?_;refine zG ?_;refine sS [U b9,Y a9 l9 c9,U d9,Y e9 f9 u9] λG b8 ab=>?_;have y8:V+1<=J:=y8;have Z1:Exo V h5 G:=⟨(show Tx V h5 (J+1) G from zx).2⟩;have T:Exo n h G:=⟨λc hc=>(Z1.go c Z).trans (X5.go c hc)⟩;have e5:G (3*V+2)=_:=(zp:G (3*V+2)=_);have ah:Tr J h8 (J+1) G:=zt;have bj:=oz.go FL ah ((ab.1 B (by have:=oz.1;omega)).trans (bx B oz.1));have ca:=i9.t ah;have cd:=j9.t ah;have dp:=hs.len;have l1:(solR cs rs p M).sc.length=O cs+O p:=by show(CO (O cs) (1:Rat)++p).length=_;rw[CP,Du]
 have l2:(solR cs rs p M).lo.length=O cs+O p:=by show((cs.map _)++Ea bL rs p).length=_;rw[CP,CU,lD hi]
 have l3:(solR cs rs p M).hi.length=O cs+O p:=by show((cs.map _)++Ea bH rs p).length=_;rw[CP,CU,lD hi]
 have fq:=oz.1;refine zG ?_;have bg:n<=J+1:=Z;have az:=UB (k+1) (g.ext T.go bg) (s5.ext (n':=J+1) Z1.go Z) bg l1 l2 l3 Z (aA:=aA) (lA:=O r.A) (kA:=kA) (x1:=bo) (x2:=bp) (i6.ext T.go bg) (j6.ext T.go bg) (i7.ext T.go bg) (j7.ext T.go bg) ca cd zlo zhi hs.sz Z;refine zF _ R5 az ?_;rintro _ ae aw jt⟨fp,⟨ai,S⟩,ci,br,el,dn⟩;rw[mY,zV dn];have ea:ae (3*V+2)=_:=(br _ Z Z (zB _)).trans e5;have e3:ae (3*n+2)=_:=(br _ Z Z (zB _)).trans ((Z1.go _ Z).trans p5);have ec:ae (3*J+2)=_:=(br _ Z Z (zB _)).trans b8;have ep:Exo n h ae:=⟨λc hc=>(el c hc).trans (T.go c hc)⟩;have dy:=bj.go FL ci (br B Z Z gB);have dq:=ca.t ci;have dt:=cd.t ci;rw[OU v6,OU v7]at S;obtain⟨F,Z0⟩:∃F:Sol,F={solR cs rs p M with sc:=(solR cs rs p M).sc++[s],lo:=(solR cs rs p M).lo++[bL r s],hi:=(solR cs rs p M).hi++[bH r s]}:=⟨_,ω⟩;have S:SN n ae aw u F ai:=Z0▸S;have g1:O F.ba=O p:=by rw[Z0];show((DV (O p)).map _).length=_;rw[CU,Fo]
 have c1:F.n=O cs:=by rw[Z0];rfl
 have⟨gg,ge,gw,gi,iz,cg,ds⟩:=S.st;rw[c1]at cg;have ig:=S.bs.1;have iu:J+1<=aw:=fp;have am:∀r∈F.ta,r.1<B:=λr hr=>(by rw[Z0]at hr;have:=(s5.rw r hr).1.1;omega);refine kh ?_;refine MJ [CJ .i64 ((O cs+O p:Nat):Int)] λak ax c0=>?_;refine MI (n0:=n) (q:=O cs+O p) [CJ .i64 ((O cs+O p:Nat):Int)] (S.ba.ext FW c0 Zq) FW ω (yp ax R2) (by rw[g1];omega) Z (λW hW=>by(repeat (first|rfl|(refine rF ω ?_)))) ?_;intro jr jb ga dj df en g8 d0 cy;obtain⟨aB,rfl⟩:=df.shape (L:=O F.ba+1) (len1 _ _);have fl:=(d0 u Z (S.ba.nbk gb)).trans ((c0 u Z).trans cg);refine zH ?_;refine MG (n0:=n) [CJ .i64 (O cs:Int),Y ai.sc (O F.sc) (O F.sc),Y ai.lo (O F.lo) (O F.lo),Y ai.hi (O F.hi) (O F.hi),Y ai.va (O F.va) (O F.va),Y aB (O F.ba+1) (O F.ba+1),Y ai.nb (O F.nb) (O F.nb),Y ai.ta (O F.ta) (O F.ta),U gg,Y ge gw gi] fl λav fg bt=>?_;have bm:Tr aw ae (aw+1+1) av:=FT bt (HY ⟨Dc _,λc hc=>.inl (c0 c hc)⟩ en);have b3:∀c,c<3*aw->c≠u->¬BkOf (Y ai.ba (O F.ba) (O F.ba)) c->av c=ae c:=λc hc h1 h2=>(bt.1 c h1).trans ((d0 c Z h2).trans (c0 c hc));have au:addW n [u] (addW n ga [])=[]:=by rw[wD Z,zV (λc hc=>by have:=dj c hc;omega)]
 rw[au];have a0:=S.aBa bm b3 (df.go FW (FT bt (Eo _ _)) λb hb=>bt.1 b (by have:=cy b hb;omega)) (λb hb=>by have:=cy b hb;omega) (by rw[c1];exact fg) (ds.t bm);have eb:av (3*V+2)=_:=(b3 _ Z Z (S.ba.nbk (zB _))).trans ea;have e4:av (3*n+2)=_:=(b3 _ Z Z (S.ba.nbk (zB _))).trans e3;have ed:av (3*J+2)=_:=(b3 _ Z Z (S.ba.nbk (zB _))).trans ec;have eq:Exo n h av:=⟨λc hc=>(b3 c Z Z (λhv=>by have:=(S.ba.bk c hv).1;omega)).trans (ep.go c hc)⟩;have dz:=dy.go FL bm (b3 B Z Z (S.ba.nbk gB));have dr:=dq.t bm;have du:=dt.t bm;obtain⟨H,a4⟩:∃H:Sol,H={F with ba:=F.ba++[O cs+O p]}:=⟨_,ω⟩;obtain⟨ad,dh⟩:∃ad:Adr,ad={ai with ba:=aB}:=⟨_,ω⟩;rw[<-a4,<-dh]at a0;have c3:H.n=O cs:=by rw[a4];exact c1
 have g2:O H.ta=O p:=by rw[a4,Z0];exact b0
 have am:∀r∈H.ta,r.1<B:=by rw[a4];exact am
 have⟨da,d3,dx,dc,g6,an,bi⟩:=a0.st;rw[c3]at an;have ij:=a0.bs.1;have il:aw<=aw+1+1:=Z;generalize hm16:aw+1+1=m16 at*;refine zJ ?_;refine wE [Y (ξ ⟨B,0,θ⟩) (O r.A) (O r.A)] (l:=1) (c:=1) R5 λgk ct ag=>?_;refine OJ (n0:=n) [Y (ξ ⟨B,0,θ⟩) (O r.A) (O r.A)] [(B,zs)] (a0.ta.ext J0 ag Zq) J0 (.cons (c:=[Y (ξ ⟨B,0,θ⟩) (O r.A) (O r.A)]) ω (by show _=_;rw[dp]) .nil) ⟨ω,ω⟩ (yp ct R2) CG (by rw[g2];show (O p)+1<_;omega) Z ?_;intro ib gl bf ck ei bc ch;obtain⟨aT,rfl⟩:=bf.shape (L:=O H.ta+1) (len1 _ _);have cv:=(bc u Z (a0.ta.nbk gb)).trans ((ag u Z).trans an);refine zG ?_;refine NL (n0:=n) [CJ .i64 (O cs:Int),Y ad.sc (O H.sc) (O H.sc),Y ad.lo (O H.lo) (O H.lo),Y ad.hi (O H.hi) (O H.hi),Y ad.va (O H.va) (O H.va),Y ad.ba (O H.ba) (O H.ba),Y ad.nb (O H.nb) (O H.nb),Y aT (O H.ta+1) (O H.ta+1),U da,Y d3 dx dc] ?_ (hb:=cv);intro N cu af;have aj:Tr m16 av (m16+1+1) N:=FT af (HY ⟨Dc _,λc hc=>.inl (ag c hc)⟩ ck);have aa:∀c,c<3*m16->c≠u->¬BkOf (Y ad.ta (O H.ta) (O H.ta)) c->N c=av c:=λc hc h1 h2=>(af.1 c h1).trans ((bc c Z h2).trans (ag c hc));have Z3:=a0.aTa aj aa (bf.go J0 (FT af (Eo _ _)) λb hb=>af.1 b (by have:=ch b hb;omega)) (dz.go FL aj (aa B Z Z (a0.ta.nbk gB))) gB ⟨Z,Z,am⟩ (by rw[c3];exact cu) (bi.t aj);have iw:N (3*V+2)=_:=(aa _ Z Z (a0.ta.nbk (zB _))).trans eb;have g3:N (3*n+2)=_:=(aa _ Z Z (a0.ta.nbk (zB _))).trans e4;have ix:N (3*J+2)=_:=(aa _ Z Z (a0.ta.nbk (zB _))).trans ed;have be:Exo n h N:=⟨λc hc=>(aa c Z Z (λhv=>by have:=(a0.ta.bk c hv).1;omega)).trans (eq.go c hc)⟩;have fw:=dr.t aj;have g0:=du.t aj;obtain⟨v,al⟩:∃v:Sol,v={H with ta:=H.ta++[(B,zs)]}:=⟨_,ω⟩;obtain⟨a1,di⟩:∃a1:Adr,a1={ad with ta:=aT}:=⟨_,ω⟩;rw[<-al,<-di]at Z3;have de:v.n=O cs:=by rw[al];exact c3
 have it:O v.va=O cs+O p:=by rw[al,a4,Z0];show((cs.map KG)++Ea _ rs p).length=_;rw[CP,CU,lD hi]
 have ft:(v.va.drop 0).take (O cs)=cs.map KG:=(by rw[List.drop_zero,al,a4,Z0];show((cs.map KG)++Ea _ rs p).take (O cs)=_;rw[List.take_append_of_le_length Ad,CR Ad]);have b1:{v with va:=v.va++[dotR r.A (cs.map KG)*s]}=solR cs rs (p++[s]) (M++[(B,zs)]):=(by rw[zdb gr,al,a4,Z0];rfl);have⟨gh,gf,gx,gj,j0,ee,fx⟩:=Z3.st;rw[de]at ee;have ik:=Z3.bs.1;have im:m16<=m16+1+1:=Z;generalize hm20:m16+1+1=m20 at*;have f8:∀q∈cs.map KG,Sz (a+1) q:=λq hq=>(by obtain⟨d,hd,rfl⟩:=DU.1 hq;unfold KG;split;exact(hc d hd).1.mono Zq;split;exact(hc d hd).2.mono Zq;exact Jt _ Z);have jh:O cs*(a+(a+1)+1)=O cs*(a+a+2):=by rw[show a+(a+1)+1=a+a+2 by omega]
 have f4:=nf hA f8 (O cs) Z Ad;rw[CR Z,CR Ad]at f4;have⟨bv,cn,gv,lv,ov,jo⟩:=Z3.va.or ω Z;injection cn with cn;have qv:=Z3.va.rs;rw[cn]at qv;have qv:=RS.sub zd qv (m:=0) (c:=O cs) (cap':=O v.va) Z Z;rw[ft]at qv;(try dsimp only at qv);refine kh ?_;refine OI (b:=bv) (off:=0) (O cs) R6 (by show Y a1.va (O v.va) (O v.va)=_;rw[cn]) ω ω Z ?_;have dl:=dotQ (k+1) (g.ext (n':=m20) be.go Z) (qA.ext be.go Z) qv hA f8 eP (by rw[f3];omega);rw[CR (show(cs.map KG).length<=O r.A by rw[CU];omega)]at dl;refine dC dl ?_;rintro _ jc jm⟨j3,j2,jk,j4,j5,j8,ja,jp,rfl,gq,gt⟩ eg cw;refine zH ?_;refine dC (mulQ _ ((g.ext (n':=m20) be.go Z).ext cw eg) gq gt (fw.ext cw eg) (g0.ext cw eg) f4 hs.sz Z) ?_;rintro _ jd i3⟨es,er,fe,et,eu,ex,ey,fn,rfl,gs,gu⟩ ju id;refine zH ?_;refine MJ [U es,Y er fe et,U eu,Y ex ey fn] λgm i5 ef=>?_;have cl:Exo m20 N gm:=⟨λc hc=>(ef c Z).trans ((id c Z).trans (cw c hc))⟩;refine MI (n0:=n) (q:=dotR r.A (cs.map KG)*s) [U es,Y er fe et,U eu,Y ex ey fn] (Z3.va.ext Ei cl.go Z) Ei ⟨_,_,_,_,_,_,_,_,ω,gs.ext ef Zq,gu.ext ef Zq⟩ (yp i5 R2) Z Z (λW hW=>by(repeat (first|rfl|(refine rF ω ?_)))) ?_;intro js je gc fr ez g9 j1 ek ej;obtain⟨aV,rfl⟩:=ez.shape (L:=O v.va+1) (len1 _ _);have ia:=(ek u Z (Z3.va.nbk gb)).trans ((cl.go u Z).trans ee);refine zH ?_;refine MG (n0:=n) [CJ .i64 (O cs:Int),Y a1.sc (O v.sc) (O v.sc),Y a1.lo (O v.lo) (O v.lo),Y a1.hi (O v.hi) (O v.hi),Y aV (O v.va+1) (O v.va+1),Y a1.ba (O v.ba) (O v.ba),Y a1.nb (O v.nb) (O v.nb),Y a1.ta (O v.ta) (O v.ta),U gh,Y gf gx gj] ia λf2 i8 cr=>?_;have eo:Tr m20 N (i3+1+1) f2:=FT cr (HY ⟨Z,λc hc=>.inl (cl.go c hc)⟩ g9);have dv:∀c,c<3*m20->c≠u->¬BkOf (Y a1.va (O v.va) (O v.va)) c->f2 c=N c:=λc hc h1 h2=>(cr.1 c h1).trans ((ek c Z h2).trans (cl.go c hc));have au:addW n [u] (addW n gc [])=[]:=by rw[wD Z,zV (λc hc=>by have:=fr c hc;omega)]
 have fm:=Z3.aVa eo dv (ez.go Ei (FT cr (Eo _ _)) λb hb=>cr.1 b (by have:=ej b hb;omega)) (λb hb=>by have:=ej b hb;omega) (by rw[de];exact i8) (fx.t eo);rw[b1]at fm;refine zJ ?_;refine sK (O p+1,p++[s],M++[(B,zs)],{a1 with va:=aV}) ⟨au,Z,λc hc=>(dv c Z Z (λhv=>by have:=(Z3.va.bk c hv).1;omega)).trans (be.go c hc),(dv _ Z Z (Z3.va.nbk (zB _))).trans g3,fm,len1 _ _,(by show O p+1<=_;omega),(len1 _ _).trans (congrArg (· +1) b0),λi r' y q h1 h2 h3=>?_⟩;by_cases e:i=O p;subst e;rw[gr]at h1;cases h1;(try dsimp only at h2 h3);rw[<-b0,Dq CG,D7]at h2;rw[Dq CG,D7]at h3;cases h2;cases h3;exact hs;have fs:i<O p:=(by have:=(CQ.1 h3).1;have e2:O (p++[s])=O p+1:=len1 _ _;have this:i<O (p++[s]):=this;omega);exact cq i r' y q h1 ((D5 Z).symm.trans h2) ((D5 fs).symm.trans h3);have cp:O p=O rs:=Z;have zob:=hz;refine zG ?_;refine sC (qa _ g5 (io.ext (n':=V) X5.go Z) hz (P:=P) (by rw[gp];exact hP) Z Z) ?_;rintro _ h8 J⟨B,zs,s,b9,a9,l9,c9,d9,e9,f9,u9,rfl,hB,gB,oz,tz,hs,i9,j9⟩ y8 x8;refine Za λf0 e1 bx=>?_;refine zG ?_;refine sS [U b9,Y a9 l9 c9,U d9,Y e9 f9 u9] λG b8 ab=>?_;have y8:V<=J:=y8;have Z1:Exo V h5 G:=⟨(show Tx V h5 (J+1) G from zx).2⟩;have ah:Tr J h8 (J+1) G:=zt;have bj:=oz.go FL ah ((ab.1 B (by have:=oz.1;omega)).trans (bx B oz.1));have dp:=hs.len;have fq:=oz.1;have C:=s5.ext (n':=J+1) Z1.go Z;have ff:(solR cs rs p M).ta.length=O p:=b0;have am:∀r∈(solR cs rs p M).ta,r.1<B:=λr hr=>(by have:=(s5.rw r hr).1.1;omega);obtain⟨Z4,dk⟩:∃Z4:Sol,Z4=solR cs rs p M:=⟨_,ω⟩;have ew:Z4.n=O cs:=by rw[dk];rfl
 rw[<-dk]at C ff am;have⟨da,d3,dx,dc,g6,an,bi⟩:=C.st;rw[ew]at an;have ie:=C.bs.1;have T:Exo n h G:=⟨λc hc=>(Z1.go c Z).trans (X5.go c hc)⟩;generalize hm8:J+1=m8 at*;refine zG ?_;refine wE [Y (ξ ⟨B,0,θ⟩) (O ob) (O ob)] (l:=1) (c:=1) R5 λgk ct ag=>?_;refine OJ (n0:=n) [Y (ξ ⟨B,0,θ⟩) (O ob) (O ob)] [(B,zs)] (C.ta.ext J0 ag Zq) J0 (.cons (c:=[Y (ξ ⟨B,0,θ⟩) (O ob) (O ob)]) ω (by show _=_;rw[dp]) .nil) ⟨ω,ω⟩ (yp ct R2) CG (by rw[ff];show (O p)+1<_;omega) Z ?_;intro ib gl bf ck ei bc ch;obtain⟨aT,rfl⟩:=bf.shape (L:=O Z4.ta+1) (len1 _ _);have cv:=(bc u Z (C.ta.nbk gb)).trans ((ag u Z).trans an);refine zG ?_;refine NL (n0:=n) [CJ .i64 (O cs:Int),Y A5.sc (O Z4.sc) (O Z4.sc),Y A5.lo (O Z4.lo) (O Z4.lo),Y A5.hi (O Z4.hi) (O Z4.hi),Y A5.va (O Z4.va) (O Z4.va),Y A5.ba (O Z4.ba) (O Z4.ba),Y A5.nb (O Z4.nb) (O Z4.nb),Y aT (O Z4.ta+1) (O Z4.ta+1),U da,Y d3 dx dc] ?_ (hb:=cv);intro N cu af;have aj:Tr m8 G (m8+1+1) N:=FT af (HY ⟨Dc _,λc hc=>.inl (ag c hc)⟩ ck);have aa:∀c,c<3*m8->c≠u->¬BkOf (Y A5.ta (O Z4.ta) (O Z4.ta)) c->N c=G c:=λc hc h1 h2=>(af.1 c h1).trans ((bc c Z h2).trans (ag c hc));have Z3:=C.aTa aj aa (bf.go J0 (FT af (Eo _ _)) λb hb=>af.1 b (by have:=ch b hb;omega)) (bj.go FL aj (aa B Z Z (C.ta.nbk gB))) gB ⟨Z,Z,am⟩ (by rw[ew];exact cu) (bi.t aj);have be:Exo n h N:=⟨λc hc=>(aa c Z Z (λhv=>by have:=(C.ta.bk c hv).1;omega)).trans (T.go c hc)⟩;refine zG ?_;refine zq ?_ (hx:=⟨Z,be.go⟩);rw[dk]at Z3;exact⟨u,_,p,M,B,zs,s,ω,Z3,cp,b0.trans cp,cq,hs⟩
section
variable {B:Nat}
def K0(ds:List SideD)(v:Nat):Option Rat:=match ds[v]? with|some d=>if d.lo≠[]then ξ (zj d.lo)else θ|none=>θ
def K6(ds:List SideD)(v:Nat):Option Rat:=match ds[v]? with|some d=>if d.hi≠[]then ξ (zj d.hi)else θ|none=>θ
def Lk(ta:List (Nat×List Int))(i:Nat):Nat×List Int:=(ta[i]?).getD (0,[])
def zI(ta:List (Nat×List Int))(i j:Nat):Int:=LZ (Lk ta i).2 j
structure PrO (cs rs:List SideD)(ob:List Rat):Prop where
 n1:1<=O cs
 n5:O cs<=5
 m6:O rs<=6
 lc:∀d∈cs,NE (10^6) (10^8) (zj d.lo)/\NE (10^6) (10^8) (zj d.hi)/\(d.lo≠[]->d.hi≠[]->zj d.lo<=zj d.hi)
 lr:∀d∈rs,NE (10^6) (10^8) (zj d.lo)/\NE (10^6) (10^8) (zj d.hi)/\(d.lo≠[]->d.hi≠[]->zj d.lo<=zj d.hi)/\O d.A=O cs/\∀q∈d.A,NE (10^6) (10^8) q
 lo:O ob=O cs/\∀q∈ob,NE (10^10) (10^14) q
def solI(cs rs:List SideD)(ss:List Rat)(bz:List (Nat×List Int))(y:Nat×List Int):Sol:={solR cs rs ss bz with ta:=bz++[y]}
structure ScI (cs rs:List SideD)(ob:List Rat)(ss:List Rat)(bz:List (Nat×List Int))(y:Nat×List Int)(s:Rat):Prop where
 ls:O ss=O rs
 lb:O bz=O rs
 sc:∃P,P<=290/\(∀(i:Nat) r z q,rs[i]?=ξ r->bz[i]?=ξ z->ss[i]?=ξ q->ScR r.A P z.2 q)/\ScR ob P y.2 s
theorem rM:∀{a b:List Rat},O a=O b->∀n,O a=n->dotR a b=Kc n λj=>atR a j*atR b j:=by
 have e:∀(a b:List Rat),O a=O b->∀j,j<=O a->dotR (a.take j) (b.take j)=Kc j λj=>atR a j*atR b j:=by
  intro a b h j;induction j with
  |zero=>intro _;rw[EP];rfl
  |succ j ih=>
   intro f;have c:=CK (l:=a) (i:=j) Z;have d:=CK (l:=b) (i:=j) Z;rw[wK c d,ih Z];show _=Kc j _+atR a j*atR b j;rw[wg c,wg d]
 intro a b h n g;have:=e a b h n Z;rw[CR Z,CR Z]at this;exact this
section
variable {y:Nat×List Int}{s:Rat}{v:Nat}
theorem UC(h:i<O bz):Lk (bz++[y]) i=bz[i]:=by grind [Lk]
theorem Qu:Lk (bz++[y]) (O bz)=y:=by grind [Lk]
def zq1:Kd ((cs.map λd=>bL d 1)++Ea bL rs ss)=bF (O cs) (K0 cs) (K0 (rs.take (O ss))) (atR ss):=by
 funext v;unfold Kd bF K0;by_cases h:v<O cs;rw[Cx h,D5 aD,DC,CK h];show(match ξ (decide (cs[v].lo≠[]),zj cs[v].lo*1)with|some (φ,q)=>ξ q|_=>θ)=if cs[v].lo≠[]then ξ (zj cs[v].lo)else θ;by_cases q:cs[v].lo≠[];rw[Cx q,BJ q,Fz];rw[Cs q,Ae q];rw[Cs h,Dq eP,CU,Gm];generalize v-O cs=i;rw[HH];by_cases h1:i<O ss;rw[Cx h1];have a:=CK h1;rw[wg a,a];cases rs[i]? with
 |none=>rfl
 |some r=>
  show(match ξ (decide (r.lo≠[]),zj r.lo*ss[i])with|some (φ,q)=>ξ q|_=>θ)=(if r.lo≠[]then ξ (zj r.lo)else θ).map _;by_cases q:r.lo≠[];rw[Cx q,BJ q];rfl;rw[Cs q,Ae q];rfl
 rw[Cs h1,Dl (l:=ss) Z];cases rs[i]?<;>rfl
def zq2:Kd ((cs.map λd=>bH d 1)++Ea bH rs ss)=bF (O cs) (K6 cs) (K6 (rs.take (O ss))) (atR ss):=by
 funext v;unfold Kd bF K6;by_cases h:v<O cs;rw[Cx h,D5 aD,DC,CK h];show(match ξ (decide (cs[v].hi≠[]),zj cs[v].hi*1)with|some (φ,q)=>ξ q|_=>θ)=if cs[v].hi≠[]then ξ (zj cs[v].hi)else θ;by_cases q:cs[v].hi≠[];rw[Cx q,BJ q,Fz];rw[Cs q,Ae q];rw[Cs h,Dq eP,CU,Gm];generalize v-O cs=i;rw[HH];by_cases h1:i<O ss;rw[Cx h1];have a:=CK h1;rw[wg a,a];cases rs[i]? with
 |none=>rfl
 |some r=>
  show(match ξ (decide (r.hi≠[]),zj r.hi*ss[i])with|some (φ,q)=>ξ q|_=>θ)=(if r.hi≠[]then ξ (zj r.hi)else θ).map _;by_cases q:r.hi≠[];rw[Cx q,BJ q];rfl;rw[Cs q,Ae q];rfl
 rw[Cs h1,Dl (l:=ss) Z];cases rs[i]?<;>rfl
theorem OV{d:SideD}(h:ds[v]?=ξ d):K0 ds v=if d.lo≠[]then ξ (zj d.lo)else θ:=by unfold K0;rw[h]
theorem OW{d:SideD}(h:ds[v]?=ξ d):K6 ds v=if d.hi≠[]then ξ (zj d.hi)else θ:=by unfold K6;rw[h]
theorem kr(h:K0 ds v=ξ q):∃d,ds[v]?=ξ d/\d.lo≠[]/\q=zj d.lo:=by grind [K0]
theorem kH(h:K6 ds v=ξ q):∃d,ds[v]?=ξ d/\d.hi≠[]/\q=zj d.hi:=by grind [K6]
theorem ScI.row(c:ScI cs rs ob ss bz y s)(p:PrO cs rs ob)(hi:i<O rs):ScF (O cs) (10^30) (10^32) (atR (rs[i]).A) (zI (bz++[y]) i) (atR ss i):=by
 have⟨P,_,f,_⟩:=c.sc;have u:=c.ls;have o:=c.lb;have a:=CK (l:=ss) (i:=i) Z;have g:=f i _ _ _ (CK hi) (CK (l:=bz) (i:=i) Z) a;have d:=p.lr _ (EX hi);have m:=g.scF d.2.2.2.2 zd zd d.2.2.2.1;have b:=jW p.n1 p.n5;have e:zI (bz++[y]) i=LZ (bz[i]'Z).2:=by grind [zI,UC]
 rw[e,wg a];exact m.mono b.2 b.1
def ScI.obj(c:ScI cs rs ob ss bz y s)(p:PrO cs rs ob):ScF (O cs) (10^50) (10^54) (atR ob) (zI (bz++[y]) (O rs)) s:=by have⟨P,_,_,b⟩:=c.sc;have d:=b.scF p.lo.2 zd zd p.lo.1;have a:=zwg p.n1 p.n5;have e:zI (bz++[y]) (O rs)=LZ y.2:=(by funext j;unfold zI;rw[<-c.lb,Qu]);rw[e];exact d.mono a.2 a.1
def yI(cs:List SideD):Nat->Rat:=atR (cs.map KG)
def UD(h:v<O cs):yI cs v=KG cs[v]:=by unfold yI;rw[wg (q:=KG cs[v]) aD]
def UE(c:ScI cs rs ob ss bz y s):rs.take (O ss)=rs:=CR (by rw[c.ls];exact Ed _)
def ScI.lo(c:ScI cs rs ob ss bz y s):Kd (solI cs rs ss bz y).lo=bF (O cs) (K0 cs) (K0 rs) (atR ss):=by have h:=zq1 (cs:=cs) (rs:=rs) (ss:=ss);rw[UE c]at h;exact h
def ScI.hi(c:ScI cs rs ob ss bz y s):Kd (solI cs rs ss bz y).hi=bF (O cs) (K6 cs) (K6 rs) (atR ss):=by have h:=zq2 (cs:=cs) (rs:=rs) (ss:=ss);rw[UE c]at h;exact h
theorem zo4(p:PrO cs rs ob)(h:v<O cs):inBd (K0 cs) (K6 cs) v (yI cs v)/\Lv (K0 cs) (K6 cs) v (yI cs v):=by
 have e:=CK h;have a:=(p.lc _ (EX h)).2.2;rw[UD h];unfold inBd Lv;rw[OV e,OW e];unfold KG;generalize cs[v]=d at a;by_cases h1:d.lo≠[]
 .rw[Cx h1,Cx h1];refine⟨⟨λl q=>?_,λu q=>?_⟩,.inl rfl⟩
  .cases q;exact FZ
  split at q
  .next h2=>cases q;exact a h1 h2
  cases q
 rw[Cs h1,Cs h1];by_cases h2:d.hi≠[]
 .rw[Cx h2,Cx h2];exact⟨⟨λl q=>(by cases q),λu q=>(by cases q;exact FZ)⟩,.inr (.inl rfl)⟩
 rw[Cs h2,Cs h2];exact⟨⟨λl q=>(by cases q),λu q=>(by cases q)⟩,.inr (.inr ⟨rfl,rfl,rfl⟩)⟩
def fw(c:ScI cs rs ob ss bz y s)(p:PrO cs rs ob):SolP (O cs) (O rs) (solI cs rs ss bz y) (iniS (O cs) (zI (bz++[y])) (yI cs)):=by
 have g:=c.ls;have C:=c.lb;have H:=p.n5;have G:=p.m6;have b:∀{γ:Type} (f:SideD->Rat->γ),O (Ea f rs ss)=O rs:=λf=>by rw[Hx];omega
 refine⟨Fo,λv o=>GJ o,?_,λi a=>?_,?_,λv o=>?_,?_,λi a=>?_,ω,?_,?_,Z,?_,ω⟩;show((DV (O ss)).map _).length=_;rw[CU,Fo];exact g;show((DV (O ss)).map (O cs+ ·))[i]?=ξ (O cs+i);rw[DC,GJ Z];rfl;show(cs.map KG++Ea (λr s=>dotR r.A (cs.map KG)*s) rs ss).length=_;rw[CP,CU,b];show(cs.map KG++Ea (λr s=>dotR r.A (cs.map KG)*s) rs ss)[v]?=ξ (xF (O cs) (zI (bz++[y])) (yI cs) v);by_cases h:v<O cs;rw[jo h,UD h,D5 aD,DC,CK h];rfl;obtain⟨i,rfl⟩:∃i,v=O cs+i:=⟨v-O cs,Z⟩;have a:i<O rs:=Z;have D:=p.lr _ (EX a);rw[OO,Dq eP,CU,E1,Gm,CK a,CK (l:=ss) (i:=i) Z];show ξ (dotR (rs[i]).A (cs.map KG)*ss[i])=_;rw[Qr (c.row p a).eq,rM aD (O cs) D.2.2.2.1,wg (CK (l:=ss) (i:=i) Z),Fm];rfl;show(bz++[y]).length=_;rw[len1,C];have m:∀i,i<=O rs->(bz++[y])[i]?=ξ (Lk (bz++[y]) i):=λi a=>(by unfold Lk;rw[CK (by rw[len1];omega)];rfl);refine⟨_,m i a,?_⟩;have⟨P,_,u,w⟩:=c.sc;have d:(Lk (bz++[y]) i).2.length=O cs:=(by by_cases q:i<O rs;rw[UC Z];have:=(u i _ _ _ (CK q) (CK (l:=bz) (i:=i) Z) (CK (l:=ss) (i:=i) Z)).len;rw[this];exact(p.lr _ (EX q)).2.2.2.1;obtain rfl:i=O bz:=Z;rw[Qu,w.len];exact p.lo.1);refine⟨d,λj F=>?_⟩;show _=ξ (zI (bz++[y]) i j);unfold zI;have e:=CK (l:=(Lk (bz++[y]) i).2) (i:=j) Z;rw[aW e,e];show((cs.map _)++Ea bL rs ss).length=_;rw[CP,CU,b];show((cs.map _)++Ea bH rs ss).length=_;rw[CP,CU,b];show(CO (O cs) (1:Rat)++ss).length=_;rw[CP,Du,g]
def UF{l:List (Bool×Rat)}{p:Bool×Rat}(u:p∈l)(c:p.1=χ->p.2=0)(a:N<2^B)(o:1<=B)(hb:∀v,v<O l->∀q,Kd l v=ξ q->∃k z:Int,0<k/\(k:Rat)*q=z/\k.natAbs<=N/\z.natAbs<=N):Sz B p.2:=by have⟨v,b⟩:=EI.1 u;have⟨f,q⟩:=p;cases f;rw[c rfl];exact Jt _ o;have⟨k,z,d,e,g,m⟩:=hb v (CQ.1 b).1 q (xI b);exact QB.sz ⟨z,k,d,e,m,g⟩ a a
def fixI(c:ScI cs rs ob ss bz y s)(p:PrO cs rs ob):Fix (O cs) (O rs) (10^32) (10^54) (10^38) 750 540 620 880 127 (aF (O cs) (zI (bz++[y]))) (solI cs rs ss bz y):=by have Z0:=c.ls;have M:Bnd (O cs) (O rs) (aF (O cs) (zI (bz++[y]))) (Kd (solI cs rs ss bz y).lo) (Kd (solI cs rs ss bz y).hi) (10^32) (10^38):=(by rw[c.lo,c.hi];refine zn8 (E:=10^6) (P:=10^8) (DB:=10^30) (f:=λi=>atR ((rs[i]?).getD ⟨[],[],[]⟩).A) (λi H=>?_) zd zd eH eH eH eH (λv Z1 q m=>?_) λi H q m=>?_;rw[CK H];exact c.row p H;obtain m|m:=m;obtain⟨d,o,_,rfl⟩:=kr m;exact(p.lc d (CL o)).1;obtain⟨d,o,_,rfl⟩:=kH m;exact(p.lc d (CL o)).2.1;obtain m|m:=m;obtain⟨d,o,_,rfl⟩:=kr m;exact(p.lr d (CL o)).1;obtain⟨d,o,_,rfl⟩:=kH m;exact(p.lr d (CL o)).2.1);have I:zj []=0:=xX so;have V:(solI cs rs ss bz y).lo.length=O cs+O rs/\(solI cs rs ss bz y).hi.length=O cs+O rs:=⟨(fw c p).ll,(fw c p).lh⟩;refine⟨M,λj Z4=>?_,cap8 p.n1 p.n5,lim8,λq m=>?_,λq m=>?_,λv l u o w=>?_⟩;have⟨D,g,_,T,_,_,_,S⟩:=(c.obj p).ex;rw[nQ];exact C5 (ER _ T) (S j Z4);refine UF m (λe=>?_) (N:=10^38) eH zd λv Z1 q m=>?_;have m:q∈(cs.map λd=>bL d 1)++Ea bL rs ss:=m;obtain m|m:=DW.1 m;obtain⟨d,_,rfl⟩:=DU.1 m;have e:d.lo=[]:=Hb.1 (of_decide_eq_false e);show zj d.lo*1=0;rw[e,I,ES];obtain⟨i,H,rfl⟩:=Hn.1 m;rw[JO]at e⊢;have e:(rs[i]' aD).lo=[]:=Hb.1 (of_decide_eq_false e);show zj (rs[i]' aD).lo*_=0;rw[e,I,ES];have⟨k,z,o,w,G,L,_⟩:=M.bq v Z q (.inl m);exact⟨k,z,o,w,G,L⟩;refine UF m (λe=>?_) (N:=10^38) eH zd λv Z1 q m=>?_;have m:q∈(cs.map λd=>bH d 1)++Ea bH rs ss:=m;obtain m|m:=DW.1 m;obtain⟨d,_,rfl⟩:=DU.1 m;have e:d.hi=[]:=Hb.1 (of_decide_eq_false e);show zj d.hi*1=0;rw[e,I,ES];obtain⟨i,H,rfl⟩:=Hn.1 m;rw[JO]at e⊢;have e:(rs[i]' aD).hi=[]:=Hb.1 (of_decide_eq_false e);show zj (rs[i]' aD).hi*_=0;rw[e,I,ES];have⟨k,z,o,w,G,L,_⟩:=M.bq v Z q (.inr (.inl m));exact⟨k,z,o,w,G,L⟩;rw[c.lo]at o;rw[c.hi]at w;by_cases h:v<O cs;rw[nD h]at o w;obtain⟨d,C,J,rfl⟩:=kr o;obtain⟨R,F,K,rfl⟩:=kH w;rw[C]at F;cases F;exact(p.lc d (CL C)).2.2 J K;obtain⟨i,rfl⟩:∃i,v=O cs+i:=⟨v-O cs,Z⟩;rw[gn]at o w;obtain⟨a,W,rfl⟩:=Eh.1 o;obtain⟨b,Z3,rfl⟩:=Eh.1 w;obtain⟨d,C,J,rfl⟩:=kr W;obtain⟨R,F,K,rfl⟩:=kH Z3;rw[C]at F;cases F;have G:=(p.lr d (CL C)).2.2.1 J K;exact H8 G (DQ (c.row p (CQ.1 C).1).pos)
def steI{g:Nat}{A:Adr}(c:ScI cs rs ob ss bz y s)(p:PrO cs rs ob)(S:SN l h n g (solI cs rs ss bz y) A):Ste l (O cs) (O rs) g (aF (O cs) (zI (bz++[y]))) (L0 (O cs) (O rs) (aF (O cs) (zI (bz++[y])))) A (λi=>(Lk (bz++[y]) i).1) (solI cs rs ss bz y) h n (solI cs rs ss bz y) (iniS (O cs) (zI (bz++[y])) (yI cs)):=by have H:=c.lb;have b:∀i,i<=O rs->(bz++[y])[i]?=ξ (Lk (bz++[y]) i):=λi a=>(by unfold Lk;rw[CK (by rw[len1];omega)];rfl);refine⟨S.toSM,fw c p,zih λv f=>?_,⟨S.lb,λi a=>(S.rl _ (CL (b i a))).1,λi j a d e=>?_,λi a=>⟨_,b i a⟩,S.db⟩,Same.refl _⟩;have:=zo4 p f;unfold inBd Lv at*;rw[c.lo,c.hi,nD f,nD f];exact this;have o:∀i,i<=O rs->((bz++[y]).map (·.1))[i]?=ξ (Lk (bz++[y]) i).1:=λi a=>(by rw[DC,b i a];rfl);have w:=List.pairwise_iff_getElem.1 S.rj;have m:∀i j,i<j->j<=O rs->(Lk (bz++[y]) i).1=(Lk (bz++[y]) j).1->False:=λi j u d e=>(by have⟨C,D⟩:=CQ.1 (o i Z);have⟨F,G⟩:=CQ.1 (o j d);exact w i j C F u (D.trans (e.trans G.symm)));obtain h|h|h:=Nat.lt_trichotomy i j;exact(m i j h d e).elim;exact h;exact(m j i h a e.symm).elim
def KU(cs:List SideD)(ss:List Rat)(v:Nat):Rat:=if v<O cs then 1 else atR ss (v-O cs)
set_option exponentiation.threshold 9999 in
def ScI.sg(c:ScI cs rs ob ss bz y s)(h:v<O cs+O rs):(solI cs rs ss bz y).sc[v]?=ξ (KU cs ss v)/\Sz 290 (KU cs ss v):=by have d:=c.ls;show(CO (O cs) (1:Rat)++ss)[v]?=_/\_;unfold KU;by_cases q:v<O cs;rw[Cx q,D5 aD,GN,Cx q];exact⟨ω,eH,eH⟩;rw[Cs q,Dq aD,Du];have e:=CK (l:=ss) (i:=v-O cs) Z;rw[wg e];refine⟨e,?_⟩;have⟨P,b,a,_⟩:=c.sc;exact(a _ _ _ _ (CK (l:=rs) (i:=v-O cs) Z) (CK (l:=bz) (i:=v-O cs) (by have:=c.lb;omega)) e).sz.mono b
end
end
end
end Go.Proofs.YtpcpimjejdegcaaGreatDoor
