import Derived.Below
import Derived.Test.YtdeaddceicfanaaGreatDoorRows
import Derived.ChangeSame
import Derived.ChangeVars
import Derived.ChangeSlices
import Derived.JoinedOf
import Derived.RowKit
import Derived.RowKitTokens
import Derived.LaidLaws
import Derived.Carry
import Derived.Handed
import Derived.Deep.Slices
import Derived.Test.YtdeaddceicfanaaGreatDoorTie
import Derived.Test.YtdeaddceicfanaaGreatDoorCards
import Derived.Test.YtdeaddceicfanaaGreatDoorTamE
open Option renaming some→ξ,none→θ
open Bool renaming true→φ,false→χ
open Go renaming Value→ψ
set_option linter.defProp false
open Classical renaming axiomOfChoice→FQ,byContradiction→CW
open Go.Addr renaming add→FF
open Go.DataW renaming slice→ap8,trod→E0
open Go.GL.Ren renaming addr→aj4
open Go.Proofs.Tryz renaming prog→Db
open Go.Proofs.YtdeaddceicfanaaGreatDoor.ExtB renaming refl→Ed
open Go.Proofs.YtdeaddceicfanaaGreatDoor.IW renaming zero→EN
open Go.Proofs.YtdeaddceicfanaaGreatDoor.RS renaming sub→an7
open Go.Proofs.YtdeaddceicfanaaGreatDoor.Sz renaming zero→H8
open Go.Proofs.YtdeaddceicfanaaGreatDoor.Tr renaming refl→Eg,s→FG,trans→HR
open Go.Proofs.YtdeaddceicfanaaGreatDoor.UI renaming zero→Jq
open Go.Proofs.YtdeaddceicfanaaGreatDoor.ratP renaming kp→Ea
open Go.Proofs.YtdeaddceicfanaaGreatDoor.strP renaming kp→ad0
open Go.Value renaming bool→U,int→CC,pointer→CH,slice→Y,string→CG
open Go.World renaming cell?→IL,holding→al4
open Int renaming natAbs_add_le→IU,natAbs_mul→Dl,natAbs_natCast→CR,natAbs_neg→E2,natAbs_tdiv→Gh,toNat_of_nonneg→JT
open List renaming all_append→Hv,all_eq_true→E3,append_assoc→Dh,drop_drop→Ey,drop_eq_getElem_cons→EG,drop_eq_nil_of_le→EX,drop_zero→Dy,ext_getElem?→Eh,flatMap_cons→HS,getElem?_drop→DX,getElem?_eq_getElem→CD,getElem?_eq_none→Dc,getElem?_eq_some_iff→CK,getElem?_map→Dx,getElem?_mapIdx→Fj,getElem?_set→G3,getElem?_take→Hz,getElem?_take_of_lt→Es,getElem_mem→Ft,length→O,length_cons→DJ,length_drop→Ek,length_eq_zero_iff→CT,length_map→CN,length_range→Ff,length_replicate→Dk,length_set→DH,length_take→DA,length_take_of_le→Jr,map_append→Eu,map_congr_left→D5,map_id→HB,map_map→Ip,map_take→F2,mem_append→DQ,mem_cons→De,mem_cons_of_mem→EV,mem_cons_self→D4,mem_iff_getElem?→EE,mem_map→DL,mem_map_of_mem→FT,mem_of_getElem?→CE,mem_of_mem_drop→ET,mem_of_mem_take→Dp,mem_range→GI,mem_replicate→aa9,mem_singleton→CV,nil_append→Dt,not_mem_nil→CO,range→DO,replicate→CI,take_append_drop→DP,take_length→C3,take_of_length_le→CL,take_zero→EK
open Nat renaming add_assoc→Gs,add_comm→D6,add_sub_cancel_left→ER,div_le_self→Ei,le_mul_of_pos_left→Ep,le_mul_of_pos_right→EF,le_of_ble_eq_true→Da,le_of_eq→GU,le_of_lt→DZ,le_refl→Ej,le_trans→CU,lt_of_le_of_lt→C7,lt_of_lt_of_le→CS,mul_le_mul→C6,mul_le_mul_left→C4,mul_le_mul_right→CM,mul_one→DD,mul_pos→Et,not_lt_zero→DM,one_pos→IT,pow_le_pow_right→CQ,pow_pos→Ds,pow_succ→C5,pow_zero→EA,succ_mul→EI,zero_add→C9,zero_mul→DU
open Option renaming isSome_iff_exists→Do,map_eq_some_iff→En,map_some→ah5
open Option.some renaming inj→Eb,injEq→HJ
open Rat renaming add_assoc→Ht,add_comm→ac2,add_zero→FY,divInt→Dw,divInt_eq_div→Ev,div_mul_cancel→Fi,intCast_add→Jv,intCast_eq_zero_iff→El,intCast_mul→Du,intCast_natCast→Dj,intCast_neg→Il,le_of_lt→D9,le_refl→FN,mul_comm→FZ,mul_one→FB,mul_pos→Gp,mul_zero→FJ,natCast_mul→Gi,not_le→EZ,not_lt→Hc,num_eq_zero→Fk,zero_mul→Fe
set_option maxHeartbeats 8000000
set_option linter.unusedVariables false
set_option linter.unusedSimpArgs false
noncomputable section
namespace Go.Proofs.YtdeaddceicfanaaGreatDoor
section
open Go Go.GL
variable{n b m a j cx lx c cap co cr cy lr ly len k N l V n' sz n0 bs fq gq lq cu cw lu lw M P lo' bt Bl Mo Z1 BB c1 c2 f1 f2 g1 kA l1 l2 lA cc lc N' T D:Nat}{h h':HF}{ops r:List Oper}{ax ao ar ay aq eq au aw a1 a2 aA e1 ac:Option Addr}{hi:List UInt8}{α β:Type}{X:CtxF}{ms w:List Nat}{t:TF}{al ld:List (Nat×Nat)}{ef:List (Nat×HF×List Nat)}{Q:SV->Prop}{o:Oper}{d:Tmp}{ys ob xs:List Rat}{S C:List (List UInt8)}{ty e ty':TypeId}{dq b1 b2:Bool}{A:Adr}{L:(Nat->Rat)->Prop}{ik:IntKind}{d0:Sol}{σ:Nat->Rat}{bz:List (Nat×List Int)}{y:Operand}{z:ψ}{B:Nat->Nat}
variable{s:List UInt8}
section
variable{ss:List (List UInt8)}{q:Rat}{up:Bool}
def Ke{α:Type}(N:Nat)(f:Nat->α):List α:=(DO N).map f
section
variable{f g:Nat->α}{x:α}
def yo:O (Ke N f)=N:=by unfold Ke;rw[CN,Ff]
def wo(h:j<N):(Ke N f)[j]?=ξ (f j):=by unfold Ke;rw[Dx,List.getElem?_range h];rfl
def mU{l}(p:O l=N)(h:∀j,j<N->l[j]?=ξ (f j)):l=Ke N f:=by refine Eh λj=>?_;by_cases hj:j<N;rw[h j hj,wo hj];rw[Dc Z,Dc xd]
def oV:(Ke N f).set j x=Ke N (Ka f j x):=by refine mU (by rw[DH,yo]) λi p=>?_;rw[G3,yo];unfold Ka;by_cases e:j=i;subst e;rw[Cw ω,Cw p,Cw rfl];rw[Cv e,Cv λq=>e q.symm,wo p]
def oW(h:∀j,j<N->f j=g j):Ke N f=Ke N g:=mU yo λj p=>by rw[wo p,h j p]
def eE:CI N x=Ke N λ_=>x:=mU Dk λj p=>by rw[List.getElem?_replicate,Cw p]
def kJ(h:x∈Ke N f):∃j,j<N/\f j=x:=by have⟨j,p,e⟩:=DL.1 h;exact⟨j,GI.1 p,e⟩
def Ul{m}(h:m<=N):(Ke N f).take m=Ke m f:=mU (by rw[DA,yo];omega) λj p=>by rw[Hz,Cw p,wo Z]
def zio{m}:(Ke N f).drop m=Ke (N-m) λj=>f (m+j):=mU (by rw[Ek,yo]) λj p=>by rw[DX,wo Z]
end
structure OTN (n0:Nat)(h:HF)(n b:Nat)(ss:List (List UInt8)):Prop where
 o:OT h n b ss
 lo:3*n0<=b
 g:gro b=χ
def OTN.go{n0 n}{h}(o:OTN n0 h n b ss)(T:Tr n h n' h')(e:h' b=h b):OTN n0 h' n' b ss:=⟨o.o.go ad0 T e,o.lo,o.g⟩
def OTN.ext{n0 n}{h}(o:OTN n0 h n b ss)(x:J3 n h h')(p:n<=n'):OTN n0 h' n' b ss:=⟨o.o.ext ad0 x p,o.lo,o.g⟩
def OTN.low{n0 p n}{h}(o:OTN n0 h n b ss)(u:p<=n0):OTN p h n b ss:=⟨o.o,by have:=o.lo;omega,o.g⟩
def OL(k){h}{n}(g:GG h n){a}{L}{f}(iq:QS h n (Y a L cap) (Ke L f))(hL:L<=1000){m}(hz:∀j,j<L->Sz m (f j))(hm:m<=1920):
  CX (J4 (k+11)) 23 [Y a L cap] h n λv h' n'=>∃b,v=Y (ξ ⟨b,0,θ⟩) L L/\OTN n h' n' b (Ke L λj=>ratT (f j)):=by
 apply zw R4;apply(zG);refine NK (L:=L) [CG ⟨⟨[]⟩⟩] ?_ (a:=hL);intro h1 K x1;apply(zG);have y:OT h1 (n+1) (3*n+2) (CI L []):=OR.fill Z K ad0 rfl;rw[iA (f:=λj=>ratT (f j))]at y;obtain⟨B,H⟩:∃B,B=3*n+2:=⟨_,ω⟩;have gB:gro B=χ:=by rw[H];exact zB _
 rw[<-H]at y⊢;apply sF (α:=Nat) (λz=>[(2,η),(3,Y (ξ ⟨B,0,θ⟩) L L),(9,Y a L cap),(10,υ (L:Int)),(11,υ (z:Int))]) (λz h' n' w'=>w'=[]/\n+1<=n'/\J3 n h h'/\OT h' n' B (mixF (λj=>ratT (f j)) (λ_=>[]) z L)/\z<=L) (λz=>L-z) 0 ⟨ω,Cy,x1,y,Cz⟩
 rintro j t h2 I _⟨rfl,P,R,u,hj⟩;(try dsimp only at P u hj);apply(zG);by_cases q2:(j:Int)<(L:Int);apply(zG);have p:j<L:=Z;have⟨k3,u3,Z4,S,l3,W,C,Z3,Z0,w3,F,m3,r3,t3,i3,j3⟩:=QS.at iq (wo p);apply sI F r3;apply sL t3 m3 0;apply(sA);intro h4 p4 x4;apply(zG);apply sS [U Z4,Y S l3 W,U C,Y Z3 Z0 w3];intro h5 p5 o5;apply(zG);apply sC (SJ _ g.x i3.x j3.x (hz j p) hm);rintro _ G n6 rfl y6 x6;apply sI (j:=j) ω p;have o6:OT G n6 B (mixF (λj=>ratT (f j)) (λ_=>[]) j L):=u.xx ad0 zx;apply sZn (n0:=n) (j:=j) (q:=ratT (f j)) [CG ⟨⟨ratT (f j)⟩⟩] o6 ad0 (by rw[xE];exact p) (show(0:Nat)+j*1=j*1 from Z) ω Z;intro h7 J s7;rw[pE (f:=λj=>ratT (f j)) p]at J;apply(zG);exact sK (j+1) ⟨ω,Z,λc hc=>(s7.1 c Z).trans ((show G c=h2 c by
  have e0:h2 c=h2 c:=rfl;exact zp).trans (R c hc)),J,by show j+1<=L;omega⟩
 obtain rfl:j=L:=Z;apply(zG);apply(zq);refine⟨_,ω,u.as ?_,Z,gB⟩;exact oW λi hi=>Cw hi
section
variable{i:Nat}
theorem zbn{x lo}{N}{j}(mm:Nat)(p:qt X ops t o d (o.op=.slice ty x (ξ lo) θ θ/\X.E.und ty=ξ (.slice e)/\X.E.inf e=ξ (sz,bt,z)/\J2 t x=Y (ξ ⟨b,0,θ⟩) N N/\J2 t lo=CC ik j/\j=(mm:Int)))(R:mm<=N)(G:gro b=χ)(k:ED X ops r ms (i+1) ⟨⟨upd t d (Y (ξ ⟨b,if N=mm then 0 else 0+mm*sz,θ⟩) (N-mm) (N-mm)),h,n,w⟩,al,ld,ef⟩ Q):ED X ops (o::r) (m::ms) i ⟨⟨t,h,n,w⟩,al,ld,ef⟩ Q:=by
 have⟨p,F,J,v,K,u,P,H,I⟩:=p;refine yQ ⟨p,F,J,(by rw[v];rfl),?_⟩ k;rw[v];subst I;show xc X.E ty (J2 t x) (ξ (J2 t lo)) θ=_;rw[P,H];have y:(0:Int)<=(mm:Int)/\(mm:Int)<=N:=Z;have C:offA N mm sz ⟨b,0,θ⟩=⟨b,if N=mm then 0 else 0+mm*sz,θ⟩:=by grind [offA,wO,Nat.beq_refl,Nat.beq,Nat.eq_of_beq_eq_true]
 simp only[xc,K,u,bnd,Cw y,Int.toNat_natCast,G,Bool.false_and,C]
end
def OR.lo{h}{n N m}{p}(o:OR 4 ratP h n b p)(u:O p=N)(hm:m<=N):QS h n (Y (ξ ⟨b,if N=m then 0 else 0+m*4,θ⟩) (N-m) (N-m)) (p.drop m):=by by_cases e:N=m;rw[Cw e,show N-m=0 by omega,EX Z];exact⟨[],.nil (.inr ⟨b,0,θ,ω,o.1⟩),.nil⟩;rw[Cv e];have:=an7 zd (o.sl (len:=N) (cap:=N) u.symm Cy) (m:=m) (c:=N-m) (cap':=N-m) Z Cy;rw[CL aD]at this;exact this
section
variable{d:Sol}
def MulV(n m n0:Nat)(f:Nat->Rat)(w:ψ)(h':HF)(n':Nat):Prop:=∃b1 b2,w=.tuple #[Y (ξ ⟨b1,0,θ⟩) m m,Y (ξ ⟨b2,0,θ⟩) n n]/\OTN n0 h' n' b1 (Ke m λi=>ratT (f (n+i)))/\OTN n0 h' n' b2 (Ke n λv=>ratT (f v))
def zba{α}{f g:Nat->α}{N}:Ke N g=mixF f g 0 N:=oW (g:=λi=>if i<0 then f i else g i) λ_ _=>(Cv (DM _)).symm
def zh5{α}{f g:Nat->α}{N}:mixF f g N N=Ke N f:=oW (f:=λi=>if i<N then f i else g i) λ_ h=>Cw h
def qV(k)(g:GG h n0)(s:SM l h n0 bs d A){f σ:Nat->Rat}{N}(aa:N=n+m)(ol:OR 4 ratP h n0 Bl (Ke N f))(gB:gro Bl=χ)(a7:Bl≠bs)(hs:O d.sc=N)(hσ:∀v,v<N->d.sc[v]?=ξ (σ v))(hN:d.n=n)(h0:0<n)(a9:N<=900){a}(R:∀v,v<N->Sz a (f v))(S:∀v,v<N->Sz b (σ v))(ab:a+b<=1900):
  CF (J4 (k+13)) 28 [ε bs,Y (ξ ⟨Bl,0,θ⟩) N N] h n0 λw h' n' W=>MulV n m n0 (λv=>f v*σ v) w h' n'/\n0<=n'/\ExtB n0 [Bl] h h'/\Tr n0 h n' h'/\∀c∈W,c=Bl:=by
 have⟨b0,a0,u0,c0,ty,st,i0⟩:=s.st;have a4:=s.bs.1;have a3:=ol.1;rw[hs,hN]at st;have I:=s.sc;rw[hs]at I;apply Lg R4;apply(zG);apply sF (α:=Nat) (λz=>[(0,ε bs),(1,Y (ξ ⟨Bl,0,θ⟩) N N),(11,Y A.sc N N),(12,υ (N:Int)),(13,υ (z:Int))]) (λz h' n' w'=>n0<=n'/\ExtB n0 [Bl] h h'/\Tr n0 h n' h'/\OR 4 ratP h' n' Bl (mixF (λv=>f v*σ v) f z N)/\(∀c∈w',c=Bl)/\(z=0\/Bl∈w')/\z<=N) (λz=>N-z) 0 ⟨Cy,Ed _ _ _,Eg _ _,ol.as zba,λc hc=>Cu hc CO,.inl ω,Cz⟩;rintro j t h1 F w1⟨y1,Y1,C,u,P,Z0,hj⟩;(try dsimp only at y1 C u hj);have J:∀c,c<3*n0->c≠Bl->h1 c=h c:=λc hc hn=>Y1 c hc (by simpa using hn);have a1:=I.go Ea C λb hb=>J b (I.bk b hb).2.1 λe=>by have:=(I.bk b hb).2.2.1;rw[e,gB]at this;cases this
 have ac:h1 bs=_:=(J bs a4 (Ne.symm a7)).trans st;have Z4:=g.t C;apply(zG);by_cases q1:(j:Int)<(N:Int);apply(zG);have p:j<N:=Z;have⟨k2,o2,b2,a2,l2,c2,d2,e2,f2,u2,ev,mv,rv,tv,iv,jv⟩:=QS.at a1.rs (hσ j p);apply sI ev rv;apply sL tv mv 0;apply(sA);intro h3 p3 G;apply(zG);apply NJ (n0:=n0) [U b2,Y a2 l2 c2,U d2,Y e2 f2 u2];intro Z3 p4 o4;apply(zG);have k4:∀c,c<3*F->Z3 c=h1 c:=λc hc=>(o4.1 c Z).trans (G c hc);have H:Tr F h1 (F+1) Z3:=zt;have ob:=u.go Ea H (k4 Bl u.1);apply(zl);apply(zH);obtain⟨c5,⟨b5,a5,l5,c5,d5,e5,f5,u5,rfl,i5,j5⟩,_,t5⟩:=ob.get (xG p) (off:=0+j*4) (C9 _);rw[Cv (Nat.lt_irrefl _)]at i5 j5;apply dI ω p;apply dL t5 ob.1 0;apply(zH);apply dC (mulQ _ (Z4.t H) i5 j5 (iv.t H) (jv.t H) (R j p) (S j p) Z);rintro _ h6 n6⟨b6,a6,l6,c6,d6,e6,f6,u6,rfl,i6,j6⟩ y6 x6;apply dI ω p;have a8:=ob.ext (n':=n6) Ea x6 y6;refine dZ (n0:=n0) (j:=j) (q:=f j*σ j) [U b6,Y a6 l6 c6,U d6,Y e6 f6 u6] a8 Ea (by rw[xE];exact p) (C9 _) ⟨_,_,_,_,_,_,_,_,ω,i6,j6⟩ ?_ (h3:=by first|exact rfl|exact rF ω rfl|exact rF ω (rF ω ω));intro h7 o7 S7 _;apply(zG);rw[pE (f:=λv=>f v*σ v) p]at o7;exact sK (j+1) ⟨Z,λc hc hn=>(by
  have y:c≠Bl:=λe=>hn (CV.2 e);exact(S7.1 c y).trans ((x6 c Z).trans ((k4 c Z).trans (J c hc y)))),C.trans (H.trans (FG S7 (Tr.e x6 y6 (Eg _ _)))),o7,yL (λc hc=>CV.1 hc) P,.inr (wQ a3 eC),by show j+1<=N;omega⟩
 obtain rfl:j=N:=Z;rw[zh5]at u;apply(Zh);apply zbn n R9 Z gB;have hz:∀v,v<j->Sz (a+b) (f v*σ v):=λv hv=>(R v hv).mul (S v hv);have q2:=u.lo (m:=n) yo Z;rw[zio]at q2;have hm:j-n=m:=Z;rw[hm]at q2⊢;apply dC (OL _ Z4 q2 Z (m:=a+b) (λi hi=>hz _ Z) Z);rintro _ h3 n3⟨b3,rfl,o3⟩ y3 G;apply(zH);apply OE n R6 ω ω ω Z;have K:=an7 zd ((u.ext (n':=n3) Ea G y3).sl (len:=j) (cap:=j) yo.symm Cy) (m:=0) (c:=n) (cap':=j) Z Z;rw[Dy,Ul Z]at K;(try dsimp only at K);apply dC (OL _ (Z4.ext G y3) K Z (m:=a+b) (λi hi=>hz _ Z) Z);rintro _ Z3 n4⟨b4,rfl,o4⟩ y4 x4;apply(zJ);refine⟨ω,[_,_],ω,⟨⟨_,_,ω,(o3.ext x4 y4).low Z,o4.low Z⟩,Z,λc hc hn=>?_,C.trans (HR ⟨y3,λc hc=>.inl (G c hc)⟩ ⟨y4,λc hc=>.inl (x4 c hc)⟩),P⟩,λhw=>?_⟩;have y:c≠Bl:=λe=>hn (CV.2 e);exact(x4 c Z).trans ((G c Z).trans (J c hc y));have hw:w1=[]:=hw;obtain e|e:=Z0;omega;rw[hw]at e;cases e
end
section
variable{d:Sol}{s:PS}{a:Nat->Nat->Int}
def conF(s:PS)(r:Nat)(low:Bool)(k:Nat):Nat->Rat:=match k with
 |0=>Ka (λ_=>0) (s.bs r) (Kj low)
 |k+1=>Ka (conF s r low k) (s.nb k) ((s.T r k:Rat)/s.d*Kj (!low))
def rayF(s:PS)(c:Nat)(up:Bool)(k:Nat):Nat->Rat:=match k with
 |0=>Ka (λ_=>0) (s.nb c) (Kj up)
 |k+1=>Ka (rayF s c up k) (s.bs k) ((s.T k c:Rat)/s.d*Kj up)
def jt{e}{f:Nat->Rat}{w}(p:∀v,Sz e (f v))(u:Sz e q)(v):Sz e (Ka f w q v):=by unfold Ka;split;exact u;exact p v
def Um{i}(v:0<s.d)(p:(s.T i c).natAbs<2^T)(u:s.d.natAbs<2^T):Sz (T+1) ((s.T i c:Rat)/s.d*Kj up):=by have:=xz v p u;rw[Ev]at this;exact(this.sg up).mono Zq
def zdx(p:c<n)(u:0<s.d)(sz:SzP n m V T Z1 BB d s):∀k,k<=m->∀v,Sz (T+1) (rayF s c up k v):=by
 intro k;induction k with
 |zero=>exact λ_ v=>jt (λ_=>H8 _ Z) ((jH up).mono Z) v
 |succ k ih=>exact λy v=>jt (ih Z) (Um u (sz.tT k Z c p) sz.dd) v
def zn2{r}{low}(u:r<m)(p:0<s.d)(sz:SzP n m V T Z1 BB d s):∀k,k<=n->∀v,Sz (T+1) (conF s r low k v):=by
 intro k;induction k with
 |zero=>exact λ_ v=>jt (λ_=>H8 _ Z) ((jH low).mono Z) v
 |succ k ih=>exact λy v=>jt (ih Z) (Um p (sz.tT r u k Z) sz.dd) v
def rayP(k)(g:GG h n0)(S:Ste l n m bs a L A B d0 h n0 d s)(x:Fix n m M Mo N V T Z1 D BB a d0)(hT:T<=1900)(hc:c<n):
  CX (J4 (k+13)) 24 [ε bs,υ (c:Int),υ (Ky up)] h n0 λw h' n'=>∃b,w=Y (ξ ⟨b,0,θ⟩) n n/\OTN n0 h' n' b (Ke n λv=>ratT (rayF s c up m v)):=by
 have⟨b0,a0,u0,c0,ty,Z0,i0⟩:=S.sm.st;have H:=S.sm.bs.1;have ap:=S.sp.nm;have I:PInv n m a (J6 d.lo) (J6 d.hi) L s:=by rw[S.eq.lo,S.eq.hi];exact S.iv
 have sz:=(x.same S.eq).szp I;have an:=x.l.l1;have ao:=x.l.l2;have a2:=S.iv.toPB.tab.dp;have J:=S.sp.de;obtain⟨K,hK⟩:∃K,K=n+m:=⟨_,ω⟩;rw[S.sp.ls,<-hK,S.sp.dn,S.sp.bl]at Z0;have aq:=S.iv.nv c hc;apply zw R4;apply(zG);refine NK (L:=K) [U χ,η,U χ,η] ?_ (a:=Z);intro h1 p1 F;obtain⟨Bl,G⟩:∃B,B=3*n0+2:=⟨_,ω⟩;have gl:gro Bl=χ:=by rw[G];exact zB _
 have o1:OR 4 ratP h1 (n0+1) Bl (Ke K λ_=>0):=(by exact B4);rw[<-G];have F:Exo n0 h h1:=⟨F⟩;have ai:h1 bs=_:=(F.go bs H).trans Z0;have S1:=S.sm.ext (n':=n0+1) F.go Zq;apply(Zh);have⟨k4,o4,e4,m4,r4,t4⟩:=natS.at S1.nb.rs (S.sp.nb c hc);apply dI e4 r4;apply dL t4 m4 0;apply(zH);apply dC (jE _ _ _ up);rintro _ h3 n3⟨b3,a3,l3,c3,d3,e3,f3,u3,rfl,i3,j3⟩ y3 x3;apply dI ω (show s.nb c<K from Z);apply PQ (n0:=n0) (j:=s.nb c) (q:=Kj up) [U b3,Y a3 l3 c3,U d3,Y e3 f3 u3] (o1.ext Ea x3 y3) Ea xd (C9 _) ⟨_,_,_,_,_,_,_,_,ω,i3,j3⟩ Z;rw[oV];intro h5 Z4 S5;have y3:n0+1<=n3:=y3;have x5:Exo n0 h h5:=⟨λb hb=>(S5.1 b Z).trans ((x3 b Z).trans (F.go b hb))⟩;have aj:h5 bs=_:=(x5.go bs H).trans Z0;(try dsimp only at Z4);apply(zG);apply sF (α:=Nat) (λz=>[(0,ε bs),(1,υ (c:Int)),(2,υ (Ky up)),(7,Y (ξ ⟨Bl,0,θ⟩) K K),(30,Y A.ba m m),(31,υ (m:Int)),(32,υ (z:Int))]) (λz h' n' w'=>w'=[]/\n0+1<=n'/\J3 n0 h h'/\OR 4 ratP h' n' Bl (Ke K (rayF s c up z))/\z<=m) (λz=>m-z) 0 ⟨ω,y3,x5.go,Z4,Cz⟩;rintro j t y u _⟨rfl,y6,C,W,hj⟩;have y6:n0+1<=u:=y6;have C:Exo n0 h y:=⟨C⟩;(try dsimp only at W hj);have S6:=S.sm.ext (n':=u) C.go Z;have ar:y bs=_:=(C.go bs H).trans Z0;have g6:GG y u:=g.ext C.go Z;apply(zG);by_cases q6:(j:Int)<(m:Int);apply(zG);have p:j<m:=Z;have hw:=S.iv.bv j p;have⟨k7,o7,e7,m7,r7,t7⟩:=natS.at S6.ba.rs (S.sp.ba j p);rw[S.sp.bl]at r7;apply sI e7 r7;apply sL t7 m7 0;apply(zG);have⟨r0,g0,_,ae⟩:=S.sp.ta j Z;apply sC (Nh _ g6 S6 g0 (ae c hc) (yU (sz.tT j p c hc) Z) (by rw[J];exact yU sz.dd Z) (by rw[J];omega));rintro _ h8 n8⟨b8,a8,l8,c8,d8,e8,f8,u8,rfl,i8,j8⟩ y8 x8;have sc:Sz T (Dw (s.T j c) s.d):=xz a2 (sz.tT j p c hc) sz.dd;rw[J]at i8 j8;rw[Ev]at i8 j8 sc;apply(zG);apply sC (jE _ _ _ up);rintro _ h9 n9⟨b9,a9,l9,c9,d9,e9,f9,u9,rfl,i9,j9⟩ y9 x9;apply sC (mulQ _ g6.x i8.x j8.x i9 j9 sc (jH up) Z);rintro _ a1 P⟨a7,a6,l10,aa,ab,ac,ad,ak,rfl,af,ag⟩ au R;have R:Exo u y a1:=⟨(show Tx u y P a1 from zx).2⟩;have a4:u<=P:=Z;apply sI ω (show s.bs j<K from Z);apply NL (n0:=n0) (j:=s.bs j) (q:=(s.T j c:Rat)/s.d*Kj up) [U a7,Y a6 l10 aa,U ab,Y ac ad ak] (W.ext (n':=P) Ea R.go a4) Ea xd (C9 _) ⟨_,_,_,_,_,_,_,_,ω,af,ag⟩ Z;rw[oV];intro am ah a5 _;apply(zG);exact sK (j+1) ⟨ω,Z,λb hb=>(a5.1 b Z).trans ((R.go b Z).trans (C.go b hb)),ah,p⟩;obtain rfl:j=m:=Z;apply(zG);apply td n R8 ω Z;have Z3:=an7 zd (W.sl (len:=K) (cap:=K) yo.symm Cy) (m:=0) (c:=n) (cap':=K) Z Z;rw[Dy,Ul Z]at Z3;(try dsimp only at Z3);apply sC (OL _ g6 Z3 Z (m:=T+1) (λv _=>zdx hc a2 sz j Cy v) Z);rintro _ h7 n7⟨b7,rfl,o7⟩ y7 x7;apply(zG);apply zq (hx:=⟨Z,λb hb=>(x7 b Z).trans (C.go b hb)⟩);exact⟨_,ω,o7.low Z⟩
def zf2(k)(g:GG h n0)(S:Ste l n m bs a L A B d0 h n0 d s)(x:Fix n m M Mo N V T Z1 D BB a d0)(hσ:∀v,v<n+m->d.sc[v]?=ξ (σ v))(a4:∀v,v<n+m->Sz b (σ v))(hb:T+1+b<=1900)(hn:0<n){r}(hr:r<m){low}:
  CX (J4 (k+14)) 21 [ε bs,υ (r:Int),υ (Ky low)] h n0 λw h' n'=>MulV n m n0 (λv=>conF s r low n v*σ v) w h' n':=by
 have⟨b0,a0,u0,c0,ty,Z0,i0⟩:=S.sm.st;have H:=S.sm.bs.1;have aw:=S.sp.nm;have I:PInv n m a (J6 d.lo) (J6 d.hi) L s:=by rw[S.eq.lo,S.eq.hi];exact S.iv
 have sz:=(x.same S.eq).szp I;have au:=x.l.l1;have av:=x.l.l2;have a2:=S.iv.toPB.tab.dp;have J:=S.sp.de;obtain⟨K,Z4⟩:∃K,K=n+m:=⟨_,ω⟩;rw[S.sp.ls,<-Z4,S.sp.nl]at Z0;rw[<-Z4]at hσ a4;have ax:=S.iv.bv r hr;have⟨r0,g0,_,af⟩:=S.sp.ta r Z;apply zw R4;apply(zG);refine NK (L:=K) [U χ,η,U χ,η] ?_ (a:=Z);intro h1 p1 F;obtain⟨Bl,G⟩:∃B,B=3*n0+2:=⟨_,ω⟩;have gl:gro Bl=χ:=by rw[G];exact zB _
 have o1:OR 4 ratP h1 (n0+1) Bl (Ke K λ_=>0):=(by exact B4);rw[<-G];have F:Exo n0 h h1:=⟨F⟩;have ao:h1 bs=_:=(F.go bs H).trans Z0;have S1:=S.sm.ext (n':=n0+1) F.go Zq;apply(Zh);have⟨k4,o4,e4,m4,r4,t4⟩:=natS.at S1.ba.rs (S.sp.ba r hr);apply dI e4 r4;apply dL t4 m4 0;apply(zH);apply dC (jE _ _ _ low);rintro _ h3 n3⟨b3,a3,l3,c3,d3,e3,f3,u3,rfl,i3,j3⟩ y3 x3;apply dI ω (show s.bs r<K from Z);apply PQ (n0:=n0) (j:=s.bs r) (q:=Kj low) [U b3,Y a3 l3 c3,U d3,Y e3 f3 u3] (o1.ext Ea x3 y3) Ea xd (C9 _) ⟨_,_,_,_,_,_,_,_,ω,i3,j3⟩ Z;rw[oV];intro h5 W S5;have y3:n0+1<=n3:=y3;have x5:Exo n0 h h5:=⟨λb hb=>(S5.1 b Z).trans ((x3 b Z).trans (F.go b hb))⟩;have ap:h5 bs=_:=(x5.go bs H).trans Z0;(try dsimp only at W);apply(zG);apply sF (α:=Nat) (λz=>[(0,ε bs),(1,υ (r:Int)),(2,υ (Ky low)),(8,Y (ξ ⟨Bl,0,θ⟩) K K),(31,Y A.nb n n),(32,υ (n:Int)),(33,υ (z:Int))]) (λz h' n' w'=>w'=[]/\n0+1<=n'/\J3 n0 h h'/\OR 4 ratP h' n' Bl (Ke K (conF s r low z))/\z<=n) (λz=>n-z) 0 ⟨ω,y3,x5.go,W,Cz⟩;rintro j t C u _⟨rfl,y6,y,Z3,hj⟩;have y6:n0+1<=u:=y6;have y:Exo n0 h C:=⟨y⟩;(try dsimp only at Z3 hj);have S6:=S.sm.ext (n':=u) y.go Z;have ay:C bs=_:=(y.go bs H).trans Z0;have g6:GG C u:=g.ext y.go Z;apply(zG);by_cases q6:(j:Int)<(n:Int);apply(zG);have p:j<n:=Z;have hw:=S.iv.nv j p;have⟨k7,o7,e7,m7,r7,t7⟩:=natS.at S6.nb.rs (S.sp.nb j p);rw[S.sp.nl]at r7;apply sI e7 r7;apply sL t7 m7 0;apply(zG);apply sC (Nh _ g6 S6 g0 (af j p) (yU (sz.tT r hr j p) Z) (by rw[J];exact yU sz.dd Z) (by rw[J];omega));rintro _ h8 n8⟨b8,a8,l8,c8,d8,e8,f8,u8,rfl,i8,j8⟩ y8 x8;have sc:Sz T (Dw (s.T r j) s.d):=xz a2 (sz.tT r hr j p) sz.dd;rw[J]at i8 j8;rw[Ev]at i8 j8 sc;apply(zM);apply zZ R4 (v:=υ (Ky (!low))) (by cases low<;>rfl);apply(zG);apply sC (jE _ _ _ (!low));rintro _ h9 n9⟨b9,a9,l9,c9,d9,e9,f9,u9,rfl,i9,j9⟩ y9 x9;apply sC (mulQ _ g6.x i8.x j8.x i9 j9 sc (jH _) Z);rintro _ a1 P⟨aa,a7,l10,ab,ac,ad,ae,aq,rfl,ai,aj⟩ az R;have R:Exo u C a1:=⟨(show Tx u C P a1 from zx).2⟩;have a5:u<=P:=Z;apply sI ω (show s.nb j<K from Z);apply NL (n0:=n0) (j:=s.nb j) (q:=(s.T r j:Rat)/s.d*Kj (!low)) [U aa,Y a7 l10 ab,U ac,Y ad ae aq] (Z3.ext (n':=P) Ea R.go a5) Ea xd (C9 _) ⟨_,_,_,_,_,_,_,_,ω,ai,aj⟩ Z;rw[oV];intro ar ak a6 _;apply(zG);exact sK (j+1) ⟨ω,Z,λb hb=>(a6.1 b Z).trans ((R.go b Z).trans (y.go b hb)),ak,p⟩;obtain rfl:j=n:=Z;apply(zG);have ag:=qV (k+0) (f:=conF s r low j) (σ:=σ) (a:=T+1) (b:=b) g6 S6 Z4 Z3 gl Z (S.sp.ls.trans Z4.symm) hσ S.sp.dn hn Z (λv _=>zn2 hr a2 sz j Cy v) a4 Z;apply zF _ R5 ag;rintro _ h7 n7 w7⟨⟨b1,b2,rfl,am,an⟩,y7,Y7,T7,ah⟩;rw[mY,my (show ∀c∈w7,3*n0<=c from λc hc=>by have:=ah c hc;omega)];apply(zG);apply zq (hx:=⟨Z,λb hb=>(Y7 b Z (λe=>by have:=CV.1 e;omega)).trans (y.go b hb)⟩);exact⟨b1,b2,ω,am.low Z,an.low Z⟩
end
end
section
variable{x:Operand}
def LZ(x:Rat)(lo hi:List UInt8):Prop:=(lo=[]\/zj lo<=x)/\(hi=[]\/x<=zj hi)
def Lm(v:χ=φ↔s≠[]):s=[]:=CW λh=>by cases v.2 h
def neOf(v:φ=φ↔s≠[]):s≠[]:=v.1 rfl
def kX(m:Rat)(lo hi:List UInt8):Rat:=if m.num<0 then m*zj hi else m*zj lo
def MJ(m:Rat)(lo hi:List UInt8):Prop:=(0<m.num->lo≠[])/\(m.num<0->hi≠[])
def L3{m}{lo}(h:0<m.num):kX m lo hi=m*zj lo:=by unfold kX;rw[Cv Z]
def Un{m}{lo}(h:m.num<0):kX m lo hi=m*zj hi:=by unfold kX;rw[Cw h]
def NR{m}{lo}(h:m.num=0):kX m lo hi=0:=by unfold kX;rw[Cv Z,Fk.1 h,Fe]
def OM{m}{lo}(hm:Sz b m)(e:Sz a (zj lo))(f:Sz a (zj hi)):Sz (a+b) (kX m lo hi):=by unfold kX;rw[D6];split;exact hm.mul f;exact hm.mul e
def sumS:List SideD->List Rat->Rat
 |d::ds,m::ms=>kX m d.lo d.hi+sumS ds ms
 |_,_=>0
theorem Nk(ms):sumS [] ms=0:=by cases ms<;>rfl
theorem zws:∀{ds:List SideD} {ms:List Rat} {d:SideD} {m:Rat},O ds=O ms->sumS (ds++[d]) (ms++[m])=sumS ds ms+kX m d.lo d.hi:=by
 intro ds;induction ds with
 |nil=>
  intro ms d m h;cases ms with
  |nil=>show kX m d.lo d.hi+0=0+kX m d.lo d.hi;rw[FY,Rat.zero_add]
  |cons _ _=>cases h
 |cons a ds ih=>
  intro ms d m h;cases ms with
  |nil=>cases h
  |cons b ms=>
   grind [kX,sumS,Ht]
theorem L5{ds:List SideD}{ms:List Rat}{j}{d}{m}(hx:ds[j]?=ξ d)(e:ms[j]?=ξ m):sumS (ds.take (j+1)) (ms.take (j+1))=sumS (ds.take j) (ms.take j)+kX m d.lo d.hi:=by
 rw[xa hx,xa e];have f:=(CK.1 hx).1;have g:=(CK.1 e).1;exact zws aD
def Mt(a:Nat)(ds:List SideD):Prop:=∀d∈ds,Sz a (zj d.lo)/\Sz a (zj d.hi)
def sumZ(c:Nat)(rs cs:List SideD)(R C:List Rat):Prop:=(∀j,j<=O rs->Sz c (sumS (rs.take j) (R.take j)))/\∀j,j<=O cs->Sz c (sumS rs (R.take (O rs))+sumS (cs.take j) (C.take j))
def hS{α β:Type}(R:α->β->Prop)(ds:List α)(xs:List β):Prop:=∀(j:Nat) d q,ds[j]?=ξ d->xs[j]?=ξ q->R d q
def hT{α β:Type}(R:α->β->Prop)(ds:List α)(xs:List β)(j:Nat):Prop:=∀i,i<j->∀d q,ds[i]?=ξ d->xs[i]?=ξ q->R d q
section
variable{R:α->β->Prop}{ds:List α}{ms:List β}{d:α}{m:β}
def hT.zero(ds)(ms):hT R ds ms 0:=λi hi=>Cu hi (DM _)
theorem hT.step(h:hT R ds ms j)(q:ds[j]?=ξ d)(u:ms[j]?=ξ m)(v:R d m):hT R ds ms (j+1):=by intro i hi f p g l;by_cases e:i=j;grind;exact h i Z f p g l
def hT.all(h:hT R ds ms j)(hj:O ds<=j\/O ms<=j):hS R ds ms:=λi d m e f=>h i (by have:=(CK.1 e).1;have:=(CK.1 f).1;omega) d m e f
end
abbrev Mu(ds:List SideD)(ms:List Rat):Prop:=hS (λd m=>MJ m d.lo d.hi) ds ms
abbrev ON(ds:List SideD)(ms:List Rat)(j:Nat):Prop:=hT (λd m=>MJ m d.lo d.hi) ds ms j
abbrev Uo(ds:List SideD)(xs:List Rat):Prop:=hS (λd q=>LZ q d.lo d.hi) ds xs
abbrev inT(ds:List SideD)(xs:List Rat)(j:Nat):Prop:=hT (λd q=>LZ q d.lo d.hi) ds xs j
def rowH(P:Rat->List UInt8->List UInt8->Prop)(xs:List Rat)(d:SideD):Prop:=P (dotR d.A (xs.take (O d.A))) d.lo d.hi
abbrev Qi(xs:List Rat)(d:SideD):Prop:=rowH LZ xs d
def dirB(x:Rat)(lo hi:List UInt8):Prop:=(lo=[]\/0<=x.num)/\(hi=[]\/x.num<=0)
def colQ(rs:List SideD)(ms:List Rat)(c:Rat)(j:Nat):Nat->Rat
 |0=>c
 |i+1=>colQ rs ms c j i+((rs[i]?.bind λd=>d.A[j]?).getD 0)*ms[i]?.getD 0
theorem Up{rs}{ms}{c}{i j}{d}{a m}(e:rs[i]?=ξ d)(f:d.A[j]?=ξ a)(h3:ms[i]?=ξ m):colQ rs ms c j i+a*m=colQ rs ms c j (i+1):=by grind [colQ]
theorem zxl{rs}{ms}{c}{i j}{m}(h3:ms[i]?=ξ m)(e:m=0):colQ rs ms c j (i+1)=colQ rs ms c j i:=by simp_all [colQ,e,FJ,FY]
def Nl(c:Nat)(rs:List SideD)(R C:List Rat):Prop:=∀k q,C[k]?=ξ q->∀i,i<=O rs->Sz c (colQ rs R q k i)
def KB(rs:List SideD)(ms cs:List Rat)(i j:Nat):List Rat:=cs.mapIdx λk c=>colQ rs ms c k (if k<j then i+1 else i)
section
variable{rs:List SideD}{ms cs:List Rat}{i:Nat}
theorem mN:O (KB rs ms cs i j)=O cs:=List.length_mapIdx
def zwj:KB rs ms cs 0 0=cs:=by apply Eh;intro k;unfold KB;rw[Fj];cases cs[k]?<;>rfl
def LU{c}(h:cs[k]?=ξ c):(KB rs ms cs i j)[k]?=ξ (colQ rs ms c k (if k<j then i+1 else i)):=by unfold KB;rw[Fj,h];rfl
def zwl(hj:O cs<=j):KB rs ms cs i j=KB rs ms cs (i+1) 0:=by
 apply Eh;intro k;cases h:cs[k]? with
 |none=>unfold KB;rw[Fj,Fj,h];rfl
 |some c=>
  have:=(CK.1 h).1;rw[LU h,LU h,Cw Z,Cv Z]
def zwk{m}(h3:ms[i]?=ξ m)(e:m=0):KB rs ms cs i 0=KB rs ms cs (i+1) 0:=by
 apply Eh;intro k;cases h:cs[k]? with
 |none=>unfold KB;rw[Fj,Fj,h];rfl
 |some c=>rw[LU h,LU h,Cv Z,Cv Z,zxl h3 e]
theorem zxk{d}{a m s}(f:(KB rs ms cs i j)[j]?=ξ s)(p:rs[i]?=ξ d)(q:d.A[j]?=ξ a)(h3:ms[i]?=ξ m):(KB rs ms cs i j).set j (s+a*m)=KB rs ms cs i (j+1):=by
 have g:=(CK.1 f).1;rw[mN]at g;have l:=CD g;rw[LU l,Cv Z]at f;injection f with f
 apply Eh;intro k;rw[G3];by_cases e:j=k
 .subst e;rw[Cw rfl,Cw (by rw[mN];exact g),LU l,Cw Z,<-f,Up p q h3]
 rw[Cv e];cases h:cs[k]? with
 |none=>unfold KB;rw[Fj,Fj,h];rfl
 |some c=>
  rw[LU h,LU h]
  grind
def Qj(p:Nl c rs ms cs)(hi:i<O rs\/i<=O rs/\j=0):∀q∈KB rs ms cs i j,Sz c q:=by intro q l;have⟨k,e⟩:=EE.1 l;have g:=(CK.1 e).1;rw[mN]at g;have f:=CD g;rw[LU f]at e;injection e with e;rw[<-e];exact p k _ f _ (by split<;>omega)
end
section
variable{i:Nat}
def Ln{a b}(c)(e:qt X ops t o d (o.op=.binOp .eql ty x y ty'/\J2 t x=CG ⟨⟨a⟩⟩/\J2 t y=CG ⟨⟨b⟩⟩))(p:(a==b)=c)
  (k:ED X ops r ms (i+1) ⟨⟨upd t d (U c),h,n,w⟩,al,ld,ef⟩ Q):ED X ops (o::r) (m::ms) i ⟨⟨t,h,n,w⟩,al,ld,ef⟩ Q:=by have⟨e,g,l,f,q,u⟩:=e;refine yQ ⟨e,g,l,o0,?_⟩ k;rw[f];show binE X.E .eql ty (J2 t x) (J2 t y)=_;rw[q,u,<-p];rfl
def Nm{a b}(c)(e:qt X ops t o d (o.op=.binOp .neq ty x y ty'/\J2 t x=CG ⟨⟨a⟩⟩/\J2 t y=CG ⟨⟨b⟩⟩))(p:(!(a==b))=c)
  (k:ED X ops r ms (i+1) ⟨⟨upd t d (U c),h,n,w⟩,al,ld,ef⟩ Q):ED X ops (o::r) (m::ms) i ⟨⟨t,h,n,w⟩,al,ld,ef⟩ Q:=by have⟨e,g,l,f,q,u⟩:=e;refine yQ ⟨e,g,l,o0,?_⟩ k;rw[f];show binE X.E .neq ty (J2 t x) (J2 t y)=_;rw[q,u,<-p];rfl
end
end
section
variable{cq:Nat}{sq:Bool}{q:Rat}
def mZ(k){x1 o x2 p}{s}{u}{lo}(v1:x1=φ↔lo≠[])(B:IW h n b1 a1 l1 c1 (zj lo).num)(C:IW h n o e1 f1 g1 (denZ (zj lo)))(v2:x2=φ↔hi≠[])(w:IW h n b2 a2 l2 c2 (zj hi).num)(y:IW h n p s f2 u (denZ (zj hi)))(l:IW h n sq aq lq cq q.num)(m:IW h n dq eq fq gq (denZ q))(A:Sz a (zj lo))(j:Sz a (zj hi))(i:Sz b q)(K:a+b<=2000):VF (J4 (k+7)) 80 [.agg #[Y aA lA kA,U x1,U b1,Y a1 l1 c1,U o,Y e1 f1 g1,U x2,U b2,Y a2 l2 c2,U p,Y s f2 u],.agg #[U sq,Y aq lq cq,U dq,Y eq fq gq]] h n λv=>∃b:Bool,v=U b/\(b=φ↔LZ q lo hi):=by apply zO R4;apply(zG);apply sB [Y aA lA kA,U x1,U b1,Y a1 l1 c1,U o,Y e1 f1 g1,U x2,U b2,Y a2 l2 c2,U p,Y s f2 u];intro D P W;apply sB [U sq,Y aq lq cq,U dq,Y eq fq gq];intro F R Z3;apply(zG);cases x1;apply(zG);cases x2;apply(zf);exact Ki (⟨.inl (Lm v1),.inl (Lm v2)⟩);apply(zG);apply sC ((xp _ l.x m.x w.x y.x i j Z).cx);rintro _ G L⟨S,rfl,e⟩ a5 Z0;obtain⟨rfl,e⟩|⟨rfl,e⟩|⟨rfl,e⟩:=e;apply(zf);exact Ki (⟨.inl (Lm v1),.inr (D9 e)⟩);apply(zf);exact Ki (⟨.inl (Lm v1),.inr Ag⟩);apply(zf);exact J8 λc=>Cu c.2 (λc=>by obtain c|c:=c;exact neOf v2 c;exact Cu c (EZ.2 e));apply(zG);apply sC ((xp _ l.x m.x B.x C.x i A Z).cx);rintro _ H M⟨T,rfl,d⟩ a6 a0;obtain⟨rfl,d⟩|⟨rfl,d⟩|⟨rfl,d⟩:=d;apply(zf);exact J8 λc=>Cu c.1 (λc=>by obtain c|c:=c;exact neOf v1 c;exact Cu c (EZ.2 d));apply(zG);cases x2;apply(zf);exact Ki (⟨.inr Bj,.inl (Lm v2)⟩);apply(zG);apply sC ((xp _ l.x m.x w.x y.x i j Z).cx);rintro _ I N⟨Z4,rfl,f⟩ a7 a3;obtain⟨rfl,f⟩|⟨rfl,f⟩|⟨rfl,f⟩:=f;apply(zf);exact Ki (⟨.inr Bj,.inr (D9 f)⟩);apply(zf);exact Ki (⟨.inr Bj,.inr (by rw[f];exact FN)⟩);apply(zf);exact J8 λc=>Cu c.2 (λc=>by obtain c|c:=c;exact neOf v2 c;exact Cu c (EZ.2 f));apply(zG);cases x2;apply(zf);exact Ki (⟨.inr (D9 d),.inl (Lm v2)⟩);apply(zG);apply sC ((xp _ l.x m.x w.x y.x i j Z).cx);rintro _ J Z1⟨V,rfl,g⟩ a8 a4;obtain⟨rfl,g⟩|⟨rfl,g⟩|⟨rfl,g⟩:=g;apply(zf);exact Ki (⟨.inr (D9 d),.inr (D9 g)⟩);apply(zf);exact Ki (⟨.inr (D9 d),.inr (by rw[g];exact FN)⟩);apply(zf);exact J8 λc=>Cu c.2 (λc=>by obtain c|c:=c;exact neOf v2 c;exact Cu c (EZ.2 g))
def Uq(k)(g:GG h n){x1 P x2 R}{S}{g2}{lo}(v1:x1=φ↔lo≠[])(i1:IW h n b1 a1 l1 c1 (zj lo).num)(j1:IW h n P e1 f1 g1 (denZ (zj lo)))(v2:x2=φ↔hi≠[])(i2:IW h n b2 a2 l2 c2 (zj hi).num)(j2:IW h n R S f2 g2 (denZ (zj hi)))(T:IW h n sq aq lq cq q.num)(Z4:IW h n dq eq fq gq (denZ q))(Z0:Sz a (zj lo))(Z3:Sz a (zj hi))(Z1:Sz b q)(ad:a+b<=2000):CX (J4 (k+11)) 125 [.agg #[Y aA lA kA,U x1,U b1,Y a1 l1 c1,U P,Y e1 f1 g1,U x2,U b2,Y a2 l2 c2,U R,Y S f2 g2],.agg #[U sq,Y aq lq cq,U dq,Y eq fq gq]] h n λv V W=>∃b a l c d e f g ok,v=.tuple #[.agg #[U b,Y a l c,U d,Y e f g],U ok]/\IW V W b a l c (kX q lo hi).num/\IW V W d e f g (denZ (kX q lo hi))/\(ok=φ↔MJ q lo hi):=by apply zw R4;apply(zG);apply sB [Y aA lA kA,U x1,U b1,Y a1 l1 c1,U P,Y e1 f1 g1,U x2,U b2,Y a2 l2 c2,U R,Y S f2 g2];intro a0 am ay;apply sB [U sq,Y aq lq cq,U dq,Y eq fq gq];intro a3 an az;apply(sA);intro a4 ao b0;apply(zG);apply sC (fD _ T.x Z4.x);rintro _ a5 ae⟨ax,rfl,i⟩ b6 b3;obtain⟨rfl,i⟩|⟨rfl,i⟩|⟨rfl,i⟩:=i;apply(Zh);apply dC (mulQ _ g.x T.x Z4.x i2.x j2.x Z1 Z3 Z);rintro _ a6 af⟨p,m,M,u,y,B,D,G,rfl,I,K⟩ b7 b4;apply(zH);cases x2;apply dS [U p,Y m M u,U y,Y B D G];intro a7 ap ah;apply(zq);exact⟨_,_,_,_,_,_,_,_,_,ω,I.t.as Ay,K.t.as Ay,⟨λj=>(by cases j),λj=>Cu (Lm v2) (j.2 i)⟩⟩;apply dS [U p,Y m M u,U y,Y B D G];intro a8 ar ai;apply(zq);exact⟨_,_,_,_,_,_,_,_,_,ω,I.t.as Ay,K.t.as Ay,⟨λ_=>⟨λj=>Z,λ_=>neOf v2⟩,λ_=>rfl⟩⟩;apply(zG);apply sT #[U χ,η,U χ,η];apply sS [U χ,η,U χ,η];intro a9 au aj;apply(zq);exact⟨_,_,_,_,_,_,_,_,_,ω,(EN _ _).as (by rw[NR i];rfl),(EN _ _).as (by rw[NR i];rfl),⟨λ_=>⟨λj=>Z,λj=>Z⟩,λ_=>rfl⟩⟩;apply(Zh);apply dC (mulQ _ g.x T.x Z4.x i1.x j1.x Z1 Z0 Z);rintro _ aa ag⟨s,o,N,w,A,C,F,H,rfl,J,L⟩ b8 b5;apply(zH);cases x1;apply dS [U s,Y o N w,U A,Y C F H];intro ab av ak;apply(zq);exact⟨_,_,_,_,_,_,_,_,_,ω,J.t.as (by rw[L3 i]),L.t.as (by rw[L3 i]),⟨λj=>(by cases j),λj=>Cu (Lm v1) (j.1 i)⟩⟩;apply dS [U s,Y o N w,U A,Y C F H];intro ac aw al;apply(zq);exact⟨_,_,_,_,_,_,_,_,_,ω,J.t.as (by rw[L3 i]),L.t.as (by rw[L3 i]),⟨λ_=>⟨λ_=>neOf v1,λj=>Z⟩,λ_=>rfl⟩⟩
end
section
variable{L lo:Nat}{rs:List SideD}
def Qk(a L:Nat)(rs:List SideD):Prop:=∀d∈rs,(∀q∈d.A,Sz a q)/\O d.A<=L
def zr3(k)(g:GG h n){cs}(io:QS h n (Y ao lo co) ob)(ir:Kx h n (Y ar lr cr) rs)(ic:Kx h n (Y ac lc cc) cs)(ix:QS h n (Y ax lx cx) xs)(a6:Mt a rs)(a5:Mt a cs)(C:Qk a L rs)(a7:∀q∈xs,Sz b q)(ct:O cs<=O xs)(hL:L<=O xs)(cq:O cs<1000000/\O rs<1000000)(b4:L<1000000)(hc:∀d∈rs,∀j,j<=O d.A->Sz c (dotR (d.A.take j) (xs.take j)))(cp:c+b+a<=1900)(ha:a<=90):VF (J4 (k+13)) 79 [.agg #[Y ao lo co,Y ar lr cr,Y ac lc cc],Y ax lx cx,.func (.func 80) #[] #[]] h n λv=>∃b:Bool,v=U b/\(b=φ↔hS (λd q=>LZ q d.lo d.hi) cs xs/\∀d∈rs,rowH LZ xs d):=by have d2:=ir.len;have d1:=ic.len;have d3:=ix.len;apply zO R4;apply(zG);apply sB [Y ao lo co,Y ar lr cr,Y ac lc cc];intro b2 dd dl;apply(zG);apply sF (α:=Nat) (λz=>[(1,Y ax lx cx),(2,.func (.func 80) #[] #[]),(3,ε (3*n+2)),(12,Y ac lc cc),(13,υ (lc:Int)),(14,υ (z:Int))]) (λz h' n' w'=>w'=[]/\n+1<=n'/\ExtB (n+1) [] b2 h'/\z<=O cs/\hT (λd q=>LZ q d.lo d.hi) cs xs z) (λz=>O cs-z) 0 ⟨ω,Cy,Ed _ _ _,Cz,(hT.zero _ _)⟩;rintro j t b3 a4 _⟨rfl,dt,bx,hj,m⟩;(try dsimp only at hj m);apply(zG);by_cases q13:(j:Int)<(lc:Int);apply(zG);obtain⟨c8,f⟩:∃d,(cs)[j]?=ξ d:=⟨_,CD Z⟩;have⟨cu,d8,a8,aj,ah,ad,aq,an,bd,av,bo,bq,bs,bu,s,I,G,S,K,Z4,W,Z0,a1,az,bf,bi,bl,bw,al,b5,b9,D,N,P⟩:=Kx.at ic f;apply sI az bi;apply sL bl bf 0;apply(sA);intro cg de dm;apply(zG);apply sS [Y a8 aj ah,U ad,U aq,Y an bd av,U bo,Y bq bs bu,U s,U I,Y G S K,U Z4,Y W Z0 a1];intro ch df d9;apply(Zd);apply yQ (v:=.func (.func 80) #[] #[]) R5;apply(zH);obtain⟨c9,l⟩:∃d,(xs)[j]?=ξ d:=⟨_,CD Z⟩;have⟨cv,da,c2,c0,cz,c6,di,dj,dk,dn,b0,bg,bj,bm,b6,ba⟩:=QS.at ix l;apply dI b0 bj;apply dL bm bg 0;apply dC ((mZ _ al b5.x b9.x D N.x P.x b6.x ba.x (a5 _ (CE f)).1 (a5 _ (CE f)).2 (a7 _ (CE l)) Z).cx);rintro _ ci d4⟨c3,rfl,aa⟩ du dp;obtain⟨rfl,y⟩|⟨rfl,y⟩:=J7 aa;apply(zf);exact J8 λp=>Cu (p.1 _ _ _ f l) y;apply(zJ);exact sK (j+1) ⟨ω,Z,zy,Z,(m.step f l y)⟩;apply(zG);have af:=m.all (.inl Z);apply(zG);apply sF (α:=Nat) (λz=>[(1,Y ax lx cx),(2,.func (.func 80) #[] #[]),(29,Y ar lr cr),(30,υ (lr:Int)),(31,υ (z:Int))]) (λz h' n' w'=>w'=[]/\a4<=n'/\ExtB a4 [] b3 h'/\z<=O rs/\∀d∈rs.take z,rowH LZ xs d) (λz=>O rs-z) 0 ⟨ω,Cy,Ed _ _ _,Cz,(λr hr=>Cu hr eC)⟩;rintro i t cj d5 _⟨rfl,dv,bz,a3,o⟩;(try dsimp only at a3 o);apply(zG);by_cases q20:(i:Int)<(lr:Int);apply(zG);obtain⟨ca,e⟩:∃d,(rs)[i]?=ξ d:=⟨_,CD Z⟩;have⟨cw,db,a9,ak,ai,ae,au,ap,be,aw,bp,br,bt,bv,u,J,H,T,M,V,Z3,a0,a2,b1,bh,bk,bn,ag,am,b7,bb,F,Z1,R⟩:=Kx.at ir e;apply sI b1 bk;apply sL bn bh 0;apply(sA);intro ck dg dq;apply sS [Y a9 ak ai,U ae,U au,Y ap be aw,U bp,Y br bt bv,U u,U J,Y H T M,U V,Y Z3 a0 a2];intro cl dh dc;apply(Zd);apply yQ (v:=.func (.func 80) #[] #[]) R5;apply(zH);have w:=hc _ (CE e);apply dC (Ng _ g.x ag.x ix.x (C _ (CE e)).1 a7 (by have:=(C _ (CE e)).2;omega) w Z (by have:=(C _ (CE e)).2;have:=b4;omega));rintro _ cm d6⟨c4,c1,d0,c7,cb,cd,ce,cf,rfl,b8,bc⟩ dw dr;apply dC ((mZ _ am b7.x bb.x F Z1.x R.x b8 bc (a6 _ (CE e)).1 (a6 _ (CE e)).2 (by have:=w _ Cy;rw[C3]at this;exact this) Z).cx);rintro _ cn d7⟨c5,rfl,ab⟩ dx ds;obtain⟨rfl,B⟩|⟨rfl,B⟩:=J7 ab;apply(zf);exact J8 λp=>Cu (p.2 _ (CE e)) B;apply(zJ);exact sK (i+1) ⟨ω,Z,zy,Z,(ot o e B)⟩;apply(zf);exact Ki (⟨af,by have p:=o;rw[CL Z]at p;exact p⟩)
theorem Ur(k)(g:GG h n){cs}(io:QS h n (Y ao lo co) ob)(ir:Kx h n (Y ar lr cr) rs)(ic:Kx h n (Y ac lc cc) cs)(ix:QS h n (Y ax lx cx) xs)(iy:QS h n (Y ay ly cy) ys)(N:Mt a rs)(M:Mt a cs)(bl:∀q∈xs,Sz b q)(bm:∀q∈ys,Sz b q)(eu:O rs<=O xs)(ev:O cs<=O ys)(hz:sumZ c rs cs xs ys)(hb:c+(a+b)+1<=2496)(es:a+b<=2000)(et:O rs<1000000/\O cs<1000000):CX (J4 (k+12)) 81 [.agg #[Y ao lo co,Y ar lr cr,Y ac lc cc],Y ax lx cx,Y ay ly cy] h n λv y D=>∃b a l c d e f g ok,v=.tuple #[.agg #[U b,Y a l c,U d,Y e f g],U ok]/\(ok=φ↔Mu rs xs/\Mu cs ys)/\(ok=φ->IW y D b a l c (sumS rs (xs.take (O rs))+sumS cs (ys.take (O cs))).num/\IW y D d e f g (denZ (sumS rs (xs.take (O rs))+sumS cs (ys.take (O cs))))):=by have f3:=ir.len;have f2:=ic.len;have f4:=ix.len;have f5:=iy.len;apply zw R4;apply(zG);apply sB [Y ao lo co,Y ar lr cr,Y ac lc cc];intro e5 fp gc;apply(sA);intro e6 fq gd;apply(Zk);intro cd d5 ge;apply(zG);apply sF (α:=Nat×Bool×Option Addr×Nat×Nat×Bool×Option Addr×Nat×Nat) (λz=>[(1,Y ax lx cx),(2,Y ay ly cy),(3,ε (3*n+2)),(6,ε (3*(n+1)+2)),(8,ε (3*(n+1+1)+2)),(18,Y ar lr cr),(19,υ (lr:Int)),(20,υ (z.1:Int))]) (λz y D w'=>w'=[]/\n+1+1+1<=D/\ExtB (n+1+1+1) [3*(n+1+1)+2] cd y/\y (3*(n+1+1)+2)=ξ (.row [U z.2.1,Y z.2.2.1 z.2.2.2.1 z.2.2.2.2.1,U z.2.2.2.2.2.1,Y z.2.2.2.2.2.2.1 z.2.2.2.2.2.2.2.1 z.2.2.2.2.2.2.2.2] 68)/\IW y D z.2.1 z.2.2.1 z.2.2.2.1 z.2.2.2.2.1 ((sumS (rs.take z.1) (xs.take z.1)).num)/\IW y D z.2.2.2.2.2.1 z.2.2.2.2.2.2.1 z.2.2.2.2.2.2.2.1 z.2.2.2.2.2.2.2.2 (denZ (sumS (rs.take z.1) (xs.take z.1)))/\z.1<=O rs/\ON rs xs z.1) (λz=>O rs-z.1) (0,χ,θ,0,0,χ,θ,0,0) ⟨ω,Cy,Ed _ _ _,d5,(EN _ _).as As,(EN _ _).as As,Cz,(hT.zero _ _)⟩;rintro⟨j,bS,aS,lS,kS,uS,vS,wS,xS⟩ t H J _ ⟨rfl,gr,dt,G,m,o,hj,I⟩;dsimp only at G m o hj I;apply(zG);by_cases q15:(j:Int)<(lr:Int);apply(zG);obtain⟨e1,u⟩:∃d,(rs)[j]?=ξ d:=⟨_,CD Z⟩;have⟨ew,fa,bn,bx,bv,br,c4,c2,cz,c6,dg,di,dk,dm,Z1,Z0,W,a7,a1,a9,ab,ae,ag,c8,d1,d8,dc,dp,c0,ce,cm,Z4,a3,a5⟩:=Kx.at ir u;apply sI c8 d8;apply sL dc d1 0;apply(sA);intro e7 fr gf;apply(zG);apply sS [Y bn bx bv,U br,U c4,Y c2 cz c6,U dg,Y di dk dm,U Z1,U Z0,Y W a7 a1,U a9,Y ab ae ag];intro e8 fs fb;apply(Zh);obtain⟨e2,A⟩:∃d,(xs)[j]?=ξ d:=⟨_,CD Z⟩;have⟨ex,fc,dx,dv,f0,dz,g6,g8,ga,gg,c9,d2,d9,dd,cf,cn⟩:=QS.at ix A;apply dI c9 d9;apply dL dd d2 0;apply dC (Uq _ g.x c0 ce.x cm.x Z4 a3.x a5.x cf.x cn.x (N _ (CE u)).1 (N _ (CE u)).2 (bl _ (CE A)) Z);rintro _ e9 f6⟨am,ai,bg,au,b0,b4,b8,bc,dr,rfl,cg,cp,bp⟩ gs gh;obtain⟨rfl,S⟩|⟨rfl,S⟩:=J7 bp;apply(zH);apply dB [U χ,η,U χ,η];intro ea ft gi;apply dS [U am,Y ai bg au,U b0,Y b4 b8 bc];intro eb fu fd;apply(zJ);apply sT #[U χ,η,U χ,η];apply sS [U χ,η,U χ,η];intro ec fv fe;apply(zq);exact⟨_,_,_,_,_,_,_,_,_,ω,⟨λC=>(by cases C),λC=>Cu (C.1 _ _ _ u A) S⟩,λC=>(by cases C)⟩;apply(zH);apply dB [U χ,η,U χ,η];intro ed fw gj;apply dS [U am,Y ai bg au,U b0,Y b4 b8 bc];intro ee fx ff;apply(zJ);apply sC (addQ _ g.x m.t o.t cg.t cp.t (hz.1 _ hj) (OM (bl _ (CE A)) (N _ (CE u)).1 (N _ (CE u)).2) Z);rintro _ ef f7⟨an,aj,bh,av,b1,b5,b9,bd,rfl,ch,cq⟩ gt gk;apply sS [U an,Y aj bh av,U b1,Y b5 b9 bd];intro eg d6 fg;apply(zG);exact sK (j+1,an,aj,bh,av,b1,b5,b9,bd) ⟨ω,Z,zy,d6,(ch.t.as (by rw[L5 u A])),(cq.t.as (by rw[L5 u A])),Z,(I.step u A S)⟩;apply(zG);have bt:=I.all (.inl Z);apply(zG);apply sF (α:=Nat×Bool×Option Addr×Nat×Nat×Bool×Option Addr×Nat×Nat) (λz=>[(2,Y ay ly cy),(6,ε (3*(n+1)+2)),(8,ε (3*(n+1+1)+2)),(42,Y ac lc cc),(43,υ (lc:Int)),(44,υ (z.1:Int))]) (λz y D w'=>w'=[]/\J<=D/\ExtB J [3*(n+1+1)+2] H y/\y (3*(n+1+1)+2)=ξ (.row [U z.2.1,Y z.2.2.1 z.2.2.2.1 z.2.2.2.2.1,U z.2.2.2.2.2.1,Y z.2.2.2.2.2.2.1 z.2.2.2.2.2.2.2.1 z.2.2.2.2.2.2.2.2] 68)/\IW y D z.2.1 z.2.2.1 z.2.2.2.1 z.2.2.2.2.1 ((sumS rs (xs.take (O rs))+sumS (cs.take z.1) (ys.take z.1)).num)/\IW y D z.2.2.2.2.2.1 z.2.2.2.2.2.2.1 z.2.2.2.2.2.2.2.1 z.2.2.2.2.2.2.2.2 (denZ (sumS rs (xs.take (O rs))+sumS (cs.take z.1) (ys.take z.1)))/\z.1<=O cs/\ON cs ys z.1) (λz=>O cs-z.1) (0,bS,aS,lS,kS,uS,vS,wS,xS) ⟨ω,Cy,Ed _ _ _,G,m.as (by grind [Nk,FY,C3]),o.as (by grind [Nk,FY,C3]),Cz,(hT.zero _ _)⟩;rintro⟨i,bT,aT,lT,kT,uT,vT,wT,xT⟩ t R bk _ ⟨rfl,gu,du,K,p,s,hi,F⟩;dsimp only at K p s hi F;apply(zG);by_cases q29:(i:Int)<(lc:Int);apply(zG);obtain⟨e3,w⟩:∃d,(cs)[i]?=ξ d:=⟨_,CD Z⟩;have⟨ey,fh,bo,bz,bw,bs,c5,c3,d0,c7,dh,dj,dl,dn,P,a0,Z3,a8,a2,aa,ad,af,ah,ca,d3,da,de,dq,c1,ci,ct,V,a4,a6⟩:=Kx.at ic w;apply sI ca da;apply sL de d3 0;apply(sA);intro eh fy gl;apply(zG);apply sS [Y bo bz bw,U bs,U c5,Y c3 d0 c7,U dh,Y dj dl dn,U P,U a0,Y Z3 a8 a2,U aa,Y ad af ah];intro ei fz fi;apply(Zh);obtain⟨e4,B⟩:∃d,(ys)[i]?=ξ d:=⟨_,CD Z⟩;have⟨ez,fj,dy,dw,f1,e0,g7,g9,gb,gm,cb,d4,db,df,cj,cu⟩:=QS.at iy B;apply dI cb db;apply dL df d4 0;apply dC (Uq _ g.x c1 ci.x ct.x V a4.x a6.x cj.x cu.x (M _ (CE w)).1 (M _ (CE w)).2 (bm _ (CE B)) Z);rintro _ ej f8⟨ap,ak,bi,aw,b2,b6,ba,be,ds,rfl,ck,cv,bq⟩ gv gn;obtain⟨rfl,T⟩|⟨rfl,T⟩:=J7 bq;apply(zH);apply dB [U χ,η,U χ,η];intro ek g0 go;apply dS [U ap,Y ak bi aw,U b2,Y b6 ba be];intro el g1 fk;apply(zJ);apply sT #[U χ,η,U χ,η];apply sS [U χ,η,U χ,η];intro em g2 fl;apply(zq);exact⟨_,_,_,_,_,_,_,_,_,ω,⟨λC=>(by cases C),λC=>Cu (C.2 _ _ _ w B) T⟩,λC=>(by cases C)⟩;apply(zH);apply dB [U χ,η,U χ,η];intro en g3 gp;apply dS [U ap,Y ak bi aw,U b2,Y b6 ba be];intro eo g4 fm;apply(zJ);apply sC (addQ _ g.x p.t s.t ck.t cv.t (hz.2 _ hi) (OM (bm _ (CE B)) (M _ (CE w)).1 (M _ (CE w)).2) Z);rintro _ ep f9⟨aq,al,bj,az,b3,b7,bb,bf,rfl,cl,cw⟩ gw gq;apply sS [U aq,Y al bj az,U b3,Y b7 bb bf];intro eq d7 fn;apply(zG);exact sK (i+1,aq,al,bj,az,b3,b7,bb,bf) ⟨ω,Z,zy,d7,(cl.t.as (by rw[L5 w B,<-Ht])),(cw.t.as (by rw[L5 w B,<-Ht])),Z,(F.step w B T)⟩;apply(zG);have bu:=F.all (.inl Z);apply(zG);apply sS [U bT,Y aT lT kT,U uT,Y vT wT xT];intro er g5 fo;apply(zq);exact⟨_,_,_,_,_,_,_,_,_,ω,⟨λ_=>⟨bt,bu⟩,λ_=>rfl⟩,λ_=>⟨p.t.as aD,s.t.as aD⟩⟩
end
section
variable{cq:Nat}{s:List UInt8}{sq:Bool}{q:Rat}{ss:List (List UInt8)}
def Us(k)(hs:O s<1000000):VF (J4 (k+7)) 67 [CG ⟨⟨s⟩⟩] h n λv=>∃b:Bool,v=U b/\(b=φ↔bdOk s):=by
 apply zO R4;apply(zG);apply sC (PI _ _ _ s hs);rintro _ B J⟨g,f,u,i,l,m,o,p,y,A,rfl,H,I,w,d⟩ Z4 R;cases y;have d:¬vF s:=λe=>by cases d e
 apply(Zk);intro C M S;apply sS [U g,Y f u i,U l,Y m o p];intro D N K;apply(zG);by_cases q14:s=[];apply un φ R6 (by simp[q14]);apply(zf);exact Ki (.inl q14);apply un χ R6 (by simp[q14]);apply(zf);exact J8 λe=>by obtain e|e:=e;exact Cu e q14;exact Cu e d
 have d:vF s:=⟨_,w ω⟩;apply(Zk);intro F Z1 T;apply sS [U g,Y f u i,U l,Y m o p];intro G P L;apply(zf);exact Ki (.inr d)
def Ut(k){lo}(l:O lo<1000000)(i:O hi<1000000)(B:Sz a (zj lo))(A:Sz b (zj hi))(a0:a+b<=2000):VF (J4 (k+9)) 32 [CG ⟨⟨lo⟩⟩,CG ⟨⟨hi⟩⟩] h n λv=>∃b:Bool,v=U b/\(b=φ↔pairOk lo hi):=by apply zO R4;apply(zG);apply sC ((Us _ l).cx);rintro _ Z4 a3⟨F,rfl,m⟩ ae a9;obtain⟨rfl,f⟩|⟨rfl,f⟩:=J7 m;apply(zf);exact J8 λd=>Cu d.1 f;apply(zG);apply sC ((Us _ i).cx);rintro _ V a4⟨G,rfl,o⟩ af aa;obtain⟨rfl,g⟩|⟨rfl,g⟩:=J7 o;apply(zf);exact J8 λd=>Cu d.2.1 g;apply(zG);by_cases q13:lo=[];apply un φ R6 A0;apply(zf);exact Ki (⟨f,g,.inl q13⟩);apply un χ R6 A0;apply(zG);by_cases q14:hi=[];apply un φ R6 (by simp[q14]);apply(zf);exact Ki (⟨f,g,.inr (.inl q14)⟩);apply un χ R6 (by simp[q14]);apply(zG);apply sC (numU _ _ _ lo l);rintro _ W a5⟨H,C,a1,J,L,N,P,S,rfl,p,w⟩ ag ab;apply(zG);apply sC (numU _ _ _ hi i);rintro _ Z3 a6⟨I,D,a2,K,M,Z1,R,T,rfl,u,y⟩ ah ac;apply sC ((Nd _ p.t w.t u y B A Z).cx);rintro _ Z0 a7⟨a8,rfl,e⟩ ai ad;obtain⟨rfl,e⟩|⟨rfl,e⟩|⟨rfl,e⟩:=e;apply(zf);exact Ki (⟨f,g,.inr (.inr (D9 e))⟩);apply(zf);exact Ki (⟨f,g,.inr (.inr Ag)⟩);apply(zf);exact J8 λd=>by obtain d|d|d:=d.2.2;exact Cu d q13;exact Cu d q14;exact Cu d (EZ.2 e)
def Uu(k)(p:UI h n sq aq lq cq q.num)(u:UI h n dq eq fq gq (denZ q)){lo}(w:O lo<1000000)(m:O hi<1000000)(I:Sz a (zj lo))(o:Sz a (zj hi))(l:Sz b q)(am:a+b<=2000):VF (J4 (k+9)) 127 [.agg #[U sq,Y aq lq cq,U dq,Y eq fq gq],CG ⟨⟨lo⟩⟩,CG ⟨⟨hi⟩⟩] h n λv=>∃b:Bool,v=U b/\(b=φ↔LZ q lo hi):=by apply zO R4;apply(zG);apply sB [U sq,Y aq lq cq,U dq,Y eq fq gq];intro ad b4 b9;apply(Zh);by_cases q12:lo=[];apply Ln φ R6 AZ;apply(zH);by_cases q13:hi=[];apply Ln φ R6 A0;apply(zf);exact Ki (⟨.inl q12,.inl q13⟩);apply Ln χ R6 A0;apply(zH);apply dC (numU _ _ _ hi m);rintro _ ae au⟨N,J,an,S,W,a1,a5,a9,rfl,y,D⟩ bi ba;apply dC ((Nd _ p.x u.x y D l o Z).cx);rintro _ af av⟨b5,rfl,f⟩ bj bb;obtain⟨rfl,f⟩|⟨rfl,f⟩|⟨rfl,f⟩:=f;apply(zf);exact Ki (⟨.inl q12,.inr (D9 f)⟩);apply(zf);exact Ki (⟨.inl q12,.inr (by rw[f];exact FN)⟩);apply(zf);exact J8 λd=>Cu d.2 (λd=>by obtain d|d:=d;exact q13 d;exact Cu d (EZ.2 f));apply Ln χ R6 AZ;apply(zH);apply dC (numU _ _ _ lo w);rintro _ ag aw⟨Z1,K,ao,T,Z3,a2,a6,aa,rfl,A,F⟩ bk bc;apply dC ((Nd _ p.x u.x A F l I Z).cx);rintro _ ah az⟨b6,rfl,e⟩ bl bd;obtain⟨rfl,e⟩|⟨rfl,e⟩|⟨rfl,e⟩:=e;apply(zf);exact J8 λd=>Cu d.1 (λd=>by obtain d|d:=d;exact q12 d;exact Cu d (EZ.2 e));apply(zH);by_cases q18:hi=[];apply Ln φ R6 (by simp[q18]);apply(zf);exact Ki (⟨.inr Ag,.inl q18⟩);apply Ln χ R6 (by simp[q18]);apply(zH);apply dC (numU _ _ _ hi m);rintro _ ai b0⟨P,L,ap,Z4,Z0,a3,a7,ab,rfl,B,G⟩ bm be;apply dC ((Nd _ p.x u.x B G l o Z).cx);rintro _ aj b1⟨b7,rfl,g⟩ bn bf;obtain⟨rfl,g⟩|⟨rfl,g⟩|⟨rfl,g⟩:=g;apply(zf);exact Ki (⟨.inr Ag,.inr (D9 g)⟩);apply(zf);exact Ki (⟨.inr Ag,.inr (by rw[g];exact FN)⟩);apply(zf);exact J8 λd=>Cu d.2 (λd=>by obtain d|d:=d;exact q18 d;exact Cu d (EZ.2 g));apply(zH);by_cases q21:hi=[];apply Ln φ R6 (by simp[q21]);apply(zf);exact Ki (⟨.inr (D9 e),.inl q21⟩);apply Ln χ R6 (by simp[q21]);apply(zH);apply dC (numU _ _ _ hi m);rintro _ ak b2⟨R,M,ar,V,a0,a4,a8,ac,rfl,C,H⟩ bo bg;apply dC ((Nd _ p.x u.x C H l o Z).cx);rintro _ al b3⟨b8,rfl,i⟩ bp bh;obtain⟨rfl,i⟩|⟨rfl,i⟩|⟨rfl,i⟩:=i;apply(zf);exact Ki (⟨.inr (D9 e),.inr (D9 i)⟩);apply(zf);exact Ki (⟨.inr (D9 e),.inr (by rw[i];exact FN)⟩);apply(zf);exact J8 λd=>Cu d.2 (λd=>by obtain d|d:=d;exact q21 d;exact Cu d (EZ.2 i))
def Uv(k)(w:UI h n sq aq lq cq q.num)(y:UI h n dq eq fq gq (denZ q)){lo}(a0:O lo<1000000)(Z0:O hi<1000000)(a6:Sz a (zj lo))(a5:Sz a (zj hi))(W:Sz b q)(b5:a+b<=2000):CX (J4 (k+8)) 128 [.agg #[U sq,Y aq lq cq,U dq,Y eq fq gq],CG ⟨⟨lo⟩⟩,CG ⟨⟨hi⟩⟩] h n λv Z3 n'=>∃b a l c d e f g ok,v=.tuple #[.agg #[U b,Y a l c,U d,Y e f g],U ok]/\UI Z3 n' b a l c (kX q lo hi).num/\UI Z3 n' d e f g (denZ (kX q lo hi))/\(ok=φ↔MJ q lo hi):=by apply zw R4;apply(zG);apply sB [U sq,Y aq lq cq,U dq,Y eq fq gq];intro al bl bw;apply(sA);intro am bm bx;apply(zG);apply sC (LC _ w.x y.x);rintro _ an b8⟨bs,rfl,u⟩ c7 bz;obtain⟨rfl,u⟩|⟨rfl,u⟩|⟨rfl,u⟩:=u;apply(zG);apply sC (LC _ w.x y.x);rintro _ ao b9⟨bt,rfl,i⟩ c8 c0;obtain⟨rfl,i⟩|⟨rfl,i⟩|⟨rfl,i⟩:=i;apply(Zh);apply dC (numU _ _ _ hi Z0);rintro _ ap ba⟨a9,a7,b6,ab,ad,af,ah,aj,rfl,a1,a3⟩ c9 c1;apply dC (OB _ w.x y.x a1 a3 W a5 Z);rintro _ ar bb⟨C,A,Z4,F,H,J,L,N,rfl,P,S⟩ ca c2;apply(zH);by_cases q17:hi=[];apply Nm χ R6 (by simp[q17]);apply dS [U C,Y A Z4 F,U H,Y J L N];intro au bn bg;apply(zq);exact⟨_,_,_,_,_,_,_,_,_,ω,P.t.as Ay,S.t.as Ay,⟨λp=>(by cases p),λp=>Cu q17 (p.2 i)⟩⟩;apply Nm φ R6 (by simp[q17]);apply dS [U C,Y A Z4 F,U H,Y J L N];intro av bo bh;apply(zq);exact⟨_,_,_,_,_,_,_,_,_,ω,P.t.as Ay,S.t.as Ay,⟨λ_=>⟨λp=>Z,λ_=>q17⟩,λ_=>rfl⟩⟩;exact Cu i Z;exact Cu i Z;apply(zG);apply sC (LC _ w.x y.x);rintro _ aw bc⟨bu,rfl,o⟩ cb c3;obtain⟨rfl,o⟩|⟨rfl,o⟩|⟨rfl,o⟩:=o;exact Cu o Z;apply(zG);apply sT #[U χ,η,U χ,η];apply sS [U χ,η,U χ,η];intro az bp bi;apply(zq);exact⟨_,_,_,_,_,_,_,_,_,ω,(Jq _ _).as (by rw[NR o];rfl),(Jq _ _).as (by rw[NR o];rfl),⟨λ_=>⟨λp=>Z,λp=>Z⟩,λ_=>rfl⟩⟩;exact Cu o Z;apply(zG);apply sC (LC _ w.x y.x);rintro _ b0 bd⟨bv,rfl,m⟩ cc c4;obtain⟨rfl,m⟩|⟨rfl,m⟩|⟨rfl,m⟩:=m;exact Cu m Z;exact Cu m Z;apply(Zh);apply dC (numU _ _ _ lo a0);rintro _ b1 be⟨aa,a8,b7,ac,ae,ag,ai,ak,rfl,a2,a4⟩ cd c5;apply dC (OB _ w.x y.x a2 a4 W a6 Z);rintro _ b2 bf⟨D,B,V,G,I,K,M,Z1,rfl,R,T⟩ ce c6;apply(zH);by_cases q25:lo=[];apply Nm χ R6 (by simp[q25]);apply dS [U D,Y B V G,U I,Y K M Z1];intro b3 bq bj;apply(zq);exact⟨_,_,_,_,_,_,_,_,_,ω,R.t.as (by rw[L3 m]),T.t.as (by rw[L3 m]),⟨λp=>(by cases p),λp=>Cu q25 (p.1 m)⟩⟩;apply Nm φ R6 (by simp[q25]);apply dS [U D,Y B V G,U I,Y K M Z1];intro b4 br bk;apply(zq);exact⟨_,_,_,_,_,_,_,_,_,ω,R.t.as (by rw[L3 m]),T.t.as (by rw[L3 m]),⟨λ_=>⟨λ_=>q25,λp=>Z⟩,λ_=>rfl⟩⟩
def OO{f:α->β}{l:List α}{d}(h:l[j]?=ξ d):(l.map f)[j]?=ξ (f d):=by rw[Dx,h];rfl
def OP(k)(ix:Sl h n 1 (Y ax lx cx) (strs ss))(iy:NS h n (Y ay ly cy) ys)(V:∀s∈ss,O s<1000000)(C:∀q∈ss.map zj,Sz a q)(D:∀q∈ys,Sz b q)(hl:O ss<=O ys)(hc:∀j,j<=O (ss.map zj)->Sz c (dotR ((ss.map zj).take j) (ys.take j)))(hb:c+a+b+1<=2400)(hn:O ss<1000000):CX (J4 (k+8)) 89 [Y ax lx cx,Y ay ly cy] h n (NQ (dotR (ss.map zj) (ys.take (O (ss.map zj))))):=by have bd:=z8 ix;have be:=iy.len;apply zw R4;apply(Zk);intro b1 bn bt;apply(zG);apply sT #[U χ,η,U χ,η];apply(sA);intro b2 bo bu;apply sS [U χ,η,U χ,η];intro Z4 a7 bi;apply(zG);apply sF (α:=Nat×Bool×Option Addr×Nat×Nat×Bool×Option Addr×Nat×Nat) (λz=>[(0,Y ax lx cx),(1,Y ay ly cy),(4,ε (3*n+2)),(5,ε (3*(n+1)+2)),(6,υ (z.1:Int))]) (λz o L w'=>w'=[]/\n+1+1<=L/\ExtB (n+1+1) [3*(n+1)+2] Z4 o/\o (3*(n+1)+2)=ξ (.row [U z.2.1,Y z.2.2.1 z.2.2.2.1 z.2.2.2.2.1,U z.2.2.2.2.2.1,Y z.2.2.2.2.2.2.1 z.2.2.2.2.2.2.2.1 z.2.2.2.2.2.2.2.2] 119)/\UI o L z.2.1 z.2.2.1 z.2.2.2.1 z.2.2.2.2.1 ((dotR ((ss.map zj).take z.1) (ys.take z.1)).num)/\UI o L z.2.2.2.2.2.1 z.2.2.2.2.2.2.1 z.2.2.2.2.2.2.2.1 z.2.2.2.2.2.2.2.2 (denZ (dotR ((ss.map zj).take z.1) (ys.take z.1)))/\z.1<=O ss) (λz=>O ss-z.1) (0,χ,θ,0,0,χ,θ,0,0) ⟨ω,Cy,Ed _ _ _,a7,(Jq _ _).as Ax,(Jq _ _).as Ax,Cz⟩;rintro⟨j,I,H,K,J,M,N,Z1,P⟩ t m G _ ⟨rfl,c0,ad,l,e,f,hj⟩;dsimp only at l e f hj;apply(zG);by_cases q15:(j:Int)<(lx:Int);apply(Zh);obtain⟨R,g⟩:∃d,(ss)[j]?=ξ d:=⟨_,CD Z⟩;have⟨b8,bj,S,a5,a9,ab⟩:=vM ix g;apply dI S a9;apply dL ab a5 0;apply dC (numU _ _ _ R (V _ (CE g)));rintro _ b3 bf⟨ah,ae,ba,ak,an,ar,av,az,rfl,W,a1⟩ c1 bv;apply(zH);obtain⟨ao,i⟩:∃d,(ys)[j]?=ξ d:=⟨_,CD Z⟩;have⟨b9,bk,ai,af,bb,al,bq,br,bs,bw,T,a6,aa,ac,Z3,a2⟩:=NS.at iy i;apply dI T aa;apply dL ac a6 0;apply dC (OB _ W a1 Z3.x a2.x (C _ (FT (CE g))) (D _ (CE i)) Z);rintro _ b4 bg⟨aj,ag,bc,am,ap,au,aw,b0,rfl,Z0,a3⟩ c2 bx;apply dC (OA _ e.t f.t Z0 a3 (hc _ eH) ((C _ (FT (CE g))).mul (D _ (CE i))) Z);rintro _ b5 bh⟨u,p,F,v,w,y,A,B,rfl,a0,a4⟩ c3 bz;apply dS [U u,Y p F v,U w,Y y A B];intro b6 a8 bl;apply(zG);exact sK (j+1,u,p,F,v,w,y,A,B) ⟨ω,Z,zy,a8,(a0.t.as (congrArg Rat.num (wK (OO g) i).symm)),(a4.t.as (congrArg denZ (wK (OO g) i).symm)),Z⟩;apply(zG);apply sS [U I,Y H K J,U M,Y N Z1 P];intro b7 bp bm;apply(zq);exact⟨_,_,_,_,_,_,_,_,ω,e.t.as aD,f.t.as aD⟩
end
section
variable{lo:Nat}{p:LPD}
def OS(k)(g:Sl h n 1 (Y ax lx cx) (strs S))(u:∀s∈S,O s<500)(hb:O S<1000000):CX (J4 (k+8)) 85 [Y ax lx cx,υ (m:Int)] h n λv q w=>∃a l c e,v=.tuple #[Y a l c,υ e]/\(e=1/\¬(∀s∈S,vF s)\/e=4/\(∀s∈S,vF s)/\O S≠m\/e=0/\(∀s∈S,vF s)/\O S=m/\NS q w (Y a l c) (S.map zj)):=by have D:=z8 g;apply zw R4;apply(zG);apply sC (OC _ g u hb);rintro _ C F⟨A,i,B,y,rfl,f,j⟩ H G;obtain⟨rfl,b⟩|⟨rfl,b⟩:=J7 f;apply(zq);exact⟨_,_,_,_,ω,.inl ⟨ω,b⟩⟩;have d:=j rfl;have o:=d.len;rw[CN]at o;apply(zG);by_cases q12:(i:Int)=(m:Int);apply(zq);exact⟨_,_,_,_,ω,.inr (.inr ⟨ω,b,Z,d⟩)⟩;apply(zq);exact⟨_,_,_,_,ω,.inr (.inl ⟨ω,b,Z⟩)⟩
def Uw(k)(io:Sl h n 1 (Y ao lo co) (strs p.obj))(ir:Kt h n (Y ar lr cr) p.rows)(iw:Sl h n 1 (Y aw lw cw) (strs p.lower))(iu:Sl h n 1 (Y au lu cu) (strs p.upper))(hp:LPB a p)(ha:a+a<=2000):VF (J4 (k+10)) 8 [.agg #[Y ao lo co,Y ar lr cr,Y aw lw cw,Y au lu cu]] h n λv=>∃b:Bool,v=U b/\(b=φ↔VLP p):=by
 have bh:=z8 io;have bi:=ir.len;have bk:=z8 iw;have bj:=z8 iu;have⟨a1,G,H,e,a0,b8,b9,ba⟩:=hp;apply zO R4;apply(zG);apply sB [Y ao lo co,Y ar lr cr,Y aw lw cw,Y au lu cu];intro b2 bs bt;apply(zG);apply sC (OC _ io.x (λs R=>(a1 s R).1) a0);rintro _ Z3 J⟨ak,bf,aq,ag,rfl,L,a7⟩ bz bu;obtain⟨rfl,B⟩|⟨rfl,B⟩:=J7 L;apply(zf);exact J8 λhv=>Cu hv.ob B;have a2:=a7 rfl;have ad:=a2.len;rw[CN]at ad;apply(zG);by_cases q13:(lo:Int)<1;apply(zf);exact J8 λhv=>by have:=hv.n1;exact BE
 apply(zG);by_cases q14:(lo:Int)>64;apply(zf);exact J8 λhv=>by have:=hv.n1;exact BE
 apply(zG);by_cases q15:(lw:Int)=(lo:Int);apply(zG);by_cases q16:(lu:Int)=(lo:Int);apply(zG);by_cases q17:(lr:Int)>64;apply(zf);exact J8 λhv=>by have:=hv.n1;exact BE
 apply(zG);apply sF (α:=Nat) (λz=>[(1,ε (3*n+2)),(3,υ (lo:Int)),(6,υ (z:Int))]) (λz P T Z4=>Z4=[]/\J<=T/\ExtB J [] Z3 P/\z<=O p.obj/\∀i,i<z->∀lo hi,p.lower[i]?=ξ lo->p.upper[i]?=ξ hi->pairOk lo hi) (λz=>O p.obj-z) 0 ⟨ω,Cy,Ed _ _ _,Cz,(λi hi=>Cu hi (DM _))⟩;rintro j t Z0 K _⟨rfl,c0,ai,hj,o⟩;(try dsimp only at hj o);apply(zG);by_cases q19:(j:Int)<(lo:Int);apply(Zh);obtain⟨az,f⟩:∃d,(p.lower)[j]?=ξ d:=⟨_,CD Z⟩;have⟨bb,bp,V,a5,a9,ab⟩:=vM iw f;apply dI V a9;apply dL ab a5 0;apply(zH);obtain⟨b0,g⟩:∃d,(p.upper)[j]?=ξ d:=⟨_,CD Z⟩;have⟨bc,bq,W,a6,aa,ac⟩:=vM iu g;apply dI W aa;apply dL ac a6 0;apply dC ((Ut _ (CS (G _ (CE f)).1 zd) (CS (H _ (CE g)).1 zd) (G _ (CE f)).2 (H _ (CE g)).2 Z).cx);rintro _ b3 bl⟨an,rfl,N⟩ c1 bv;obtain⟨rfl,D⟩|⟨rfl,D⟩:=J7 N;apply(zf);exact J8 λhv=>Cu (hv.bd _ _ _ f g) D;apply(zJ);exact sK (j+1) ⟨ω,Z,zy,Z,(SK o f g D)⟩;apply(zG);have b7:j=O p.obj:=Z;apply(zG);apply sF (α:=Nat) (λz=>[(1,ε (3*n+2)),(3,υ (lo:Int)),(7,υ (z:Int))]) (λz P T Z4=>Z4=[]/\K<=T/\ExtB K [] Z0 P/\z<=O p.rows/\∀r∈p.rows.take z,pairOk r.lo r.hi/\(∀s∈r.A,vF s)/\O r.A=O p.obj) (λz=>O p.rows-z) 0 ⟨ω,Cy,Ed _ _ _,Cz,(λr hr=>Cu hr eC)⟩;rintro i t b4 bm _⟨rfl,c2,aj,hi,q⟩;(try dsimp only at hi q);apply(zG);by_cases q24:(i:Int)<(lr:Int);apply(zG);obtain⟨b1,c⟩:∃d,(p.rows)[i]?=ξ d:=⟨_,CD Z⟩;have⟨be,br,al,a4,av,l,u,w,y,I⟩:=Kt.at ir c;have af:=z8 I;apply sI l w;apply(zG);apply sL y u 0;apply sC (OC _ I.x (λs R=>((e _ (CE c)).2.2.2 s R).1) (e _ (CE c)).2.2.1);rintro _ b5 bn⟨am,bg,ay,ah,rfl,M,a8⟩ c3 bw;obtain⟨rfl,C⟩|⟨rfl,C⟩:=J7 M;apply(Zd);apply(zf);exact J8 λhv=>Cu (hv.rw _ (CE c)).2.1 C;have a3:=a8 rfl;have ae:=a3.len;rw[CN]at ae;apply(Zh);apply dI l w;apply(zH);apply dL y u 0;apply(zH);by_cases q27:(a4:Int)=(lo:Int);apply(zH);apply dI l w;apply(zH);apply dL y u 1;apply(zH);apply dI l w;apply(zH);apply dL y u 2;apply dC ((Ut _ (CS (e _ (CE c)).1.1 zd) (CS (e _ (CE c)).2.1.1 zd) (e _ (CE c)).1.2 (e _ (CE c)).2.1.2 Z).cx);rintro _ b6 bo⟨ap,rfl,Z1⟩ c4 bx;obtain⟨rfl,F⟩|⟨rfl,F⟩:=J7 Z1;apply(zf);exact J8 λhv=>Cu (hv.rw _ (CE c)).1 F;apply(zJ);exact sK (i+1) ⟨ω,Z,zy,Z,(ot q c ⟨F,C,Z⟩)⟩;apply(zf);exact J8 λhv=>Cu (hv.rw _ (CE c)).2.2 Z;apply(zf);exact Ki (⟨Z,Z,Z,Z,Z,B,λj2 lo hi h1 h2=>o j2 aD lo hi h1 h2,by have hq:=q;rw[CL Z]at hq;exact hq⟩);apply(zf);exact J8 λhv=>by have:=hv.n1;exact BE
 apply(zf);exact J8 λhv=>by have:=hv.n1;exact BE
end
section
variable{L lo:Nat}{p:LPD}
def zyq{A:List (List UInt8)}(h:∀s∈A,Kg a s):∀q∈A.map zj,Sz a q:=by intro q d;obtain⟨s,e,rfl⟩:=DL.1 d;exact(h s e).2
def jJ(p):O (zk p)=O p.rows:=by unfold zk;rw[CN]
def Ux(h:O p.lower=O p.upper):O (zC p)=O p.lower:=by unfold zC;rw[List.length_zipWith,h,Nat.min_self]
def LPB.rows(h:LPB a p):Mt a (zk p):=by intro d f;obtain⟨r,e,rfl⟩:=DL.1 f;exact⟨(h.rl r e).1.2,(h.rl r e).2.1.2⟩
def LPB.cols(h:LPB a p):Mt a (zC p):=by intro d f;unfold zC at f;rw[EE]at f;have⟨j,e⟩:=f;rw[List.getElem?_zipWith]at e;split at e;rename_i lo hi h1 h2;injection e with e;subst e;exact⟨(h.lw _ (CE h1)).2,(h.up _ (CE h2)).2⟩;cases e
def Uy(k)(io:Sl h n 1 (Y ao lo co) (strs p.obj))(ir:Kt h n (Y ar lr cr) p.rows)(iw:Sl h n 1 (Y aw lw cw) (strs p.lower))(iu:Sl h n 1 (Y au lu cu) (strs p.upper))(hp:LPB a p)(ha:a+a<=2000)(T:NS h n (Y ax lx cx) xs)(M:∀q∈xs,Sz b q)(bk:O xs=O p.lower/\O xs=O p.upper)(bj:∀r∈p.rows,O r.A<=L)(hL:L<=O xs)(hc:∀d∈zk p,∀j,j<=O d.A->Sz c (dotR (d.A.take j) (xs.take j)))(bc:c+b+a<=1900)(bd:a<=90):VF (J4 (k+10)) 86 [.agg #[Y ao lo co,Y ar lr cr,Y aw lw cw,Y au lu cu],Y ax lx cx] h n λv=>∃b:Bool,v=U b/\(b=φ↔Uo (zC p) xs/\∀d∈zk p,Qi xs d):=by have bs:=z8 io;have bt:=ir.len;have bv:=z8 iw;have bu:=z8 iu;have⟨bi,H,I,f,be,bf,bg,bh⟩:=hp;have bw:=T.len;apply zO R4;apply(zG);apply sB [Y ao lo co,Y ar lr cr,Y aw lw cw,Y au lu cu];intro a0 c6 ca;apply(zG);apply sF (α:=Nat) (λz=>[(1,Y ax lx cx),(2,ε (3*n+2)),(5,υ (z:Int))]) (λz P Z4 V=>V=[]/\n+1<=Z4/\ExtB (n+1) [] a0 P/\z<=O xs/\inT (zC p) xs z) (λz=>O xs-z) 0 ⟨ω,Cy,Ed _ _ _,Cz,(hT.zero _ _)⟩;rintro j t a1 K _⟨rfl,cf,ag,hj,u⟩;(try dsimp only at hj u);apply(zG);by_cases q13:(j:Int)<(lx:Int);apply(Zh);obtain⟨b0,o⟩:∃d,(xs)[j]?=ξ d:=⟨_,CD Z⟩;have⟨bl,c2,al,ai,bp,aq,c7,c8,c9,cb,W,a6,a9,ac,a2,a4⟩:=NS.at T o;apply dI W a9;apply dL ac a6 0;apply(zH);obtain⟨b1,g⟩:∃d,(p.lower)[j]?=ξ d:=⟨_,CD Z⟩;have⟨bm,c3,Z3,a7,aa,ad⟩:=vM iw g;apply dI Z3 aa;apply dL ad a7 0;apply(zH);obtain⟨b2,l⟩:∃d,(p.upper)[j]?=ξ d:=⟨_,CD Z⟩;have⟨bn,c4,Z0,a8,ab,ae⟩:=vM iu l;apply dI Z0 ab;apply dL ae a8 0;apply dC ((Uu _ a2.x a4.x (CS (H _ (CE g)).1 zd) (CS (I _ (CE l)).1 zd) (H _ (CE g)).2 (I _ (CE l)).2 (M _ (CE o)) Z).cx);rintro _ b8 bx⟨am,rfl,N⟩ cg cc;obtain⟨rfl,C⟩|⟨rfl,C⟩:=J7 N;apply(zf);exact J8 λS=>Cu (S.1 _ _ _ (gj g l) o) C;apply(zJ);exact sK (j+1) ⟨ω,Z,zy,Z,(u.step (gj g l) o C)⟩;apply(zG);have R:=u.all (.inr Z);apply(zG);apply sF (α:=Nat) (λz=>[(1,Y ax lx cx),(2,ε (3*n+2)),(6,υ (z:Int))]) (λz P Z4 V=>V=[]/\K<=Z4/\ExtB K [] a1 P/\z<=O p.rows/\∀r∈p.rows.take z,Qi xs (rowS r)) (λz=>O p.rows-z) 0 ⟨ω,Cy,Ed _ _ _,Cz,(λr hr=>Cu hr eC)⟩;rintro i t b9 bz _⟨rfl,ch,ah,hi,m⟩;(try dsimp only at hi m);apply(zG);by_cases q19:(i:Int)<(lr:Int);apply(Zh);obtain⟨b3,e⟩:∃d,(p.rows)[i]?=ξ d:=⟨_,CD Z⟩;have⟨bo,c5,aj,bq,av,w,B,F,G,J⟩:=Kt.at ir e;have af:=z8 J;apply dI w F;apply(zH);apply dL G B 0;apply(zH);have y:=hc _ (CE (LF e));apply dC (OP _ J.x T.x (λs hs=>CS ((f _ (CE e)).2.2.2 s hs).1 zd) (zyq (f _ (CE e)).2.2.2) M aD y Z aD);rintro _ ba c0⟨an,ak,br,az,b4,b5,b6,b7,rfl,a3,a5⟩ ci cd;apply(zH);apply dI w F;apply(zH);apply dL G B 1;apply(zH);apply dI w F;apply(zH);apply dL G B 2;apply dC ((Uu _ a3 a5 (CS (f _ (CE e)).1.1 zd) (CS (f _ (CE e)).2.1.1 zd) (f _ (CE e)).1.2 (f _ (CE e)).2.1.2 (by have:=y _ Cy;rw[C3]at this;exact this) Z).cx);rintro _ bb c1⟨ap,rfl,Z1⟩ cj ce;obtain⟨rfl,D⟩|⟨rfl,D⟩:=J7 Z1;apply(zf);exact J8 λS=>Cu (S.2 _ (CE (LF e))) D;apply(zJ);exact sK (i+1) ⟨ω,Z,zy,Z,(ot m e D)⟩;apply(zf);exact Ki (⟨R,λd hd=>by obtain⟨r,hr,rfl⟩:=DL.1 hd;rw[CL Z]at m;exact m r hr⟩)
def Uz(k)(io:Sl h n 1 (Y ao lo co) (strs p.obj))(ir:Kt h n (Y ar lr cr) p.rows)(iw:Sl h n 1 (Y aw lw cw) (strs p.lower))(iu:Sl h n 1 (Y au lu cu) (strs p.upper))(hp:LPB a p)(ha:a+a<=2000)(ix:NS h n (Y ax lx cx) xs)(iy:NS h n (Y ay ly cy) ys)(b5:∀q∈xs,Sz b q)(b6:∀q∈ys,Sz b q)(dq:O xs=O p.rows)(dr:O ys=O p.lower/\O ys=O p.upper)(hz:sumZ c (zk p) (zC p) xs ys)(hb:c+(a+b)+1<=2496)(dj:a+b<=2000):CX (J4 (k+9)) 87 [.agg #[Y ao lo co,Y ar lr cr,Y aw lw cw,Y au lu cu],Y ax lx cx,Y ay ly cy] h n λv B G=>∃b a l c d e f g ok,v=.tuple #[.agg #[U b,Y a l c,U d,Y e f g],U ok]/\(ok=φ↔Mu (zk p) xs/\Mu (zC p) ys)/\(ok=φ->UI B G b a l c (sumS (zk p) (xs.take (O (zk p)))+sumS (zC p) (ys.take (O (zC p)))).num/\UI B G d e f g (denZ (sumS (zk p) (xs.take (O (zk p)))+sumS (zC p) (ys.take (O (zC p)))))):=by have f4:=hp.rows;have f3:=hp.cols;have e0:=z8 io;have e1:=ir.len;have e3:=z8 iw;have e2:=z8 iu;have⟨dp,R,S,H,dk,dl,dm,dn⟩:=hp;have e4:=ix.len;have e5:=iy.len;have T:=jJ p;have bc:=Ux (p:=p) Z;apply zw R4;apply(zG);apply sB [Y ao lo co,Y ar lr cr,Y aw lw cw,Y au lu cu];intro cz ep fb;apply(sA);intro d0 eq fc;apply(zG);apply sT #[U χ,η,U χ,η];apply(sA);intro d1 er fd;apply sS [U χ,η,U χ,η];intro bh c0 ea;apply(zG);apply sF (α:=Nat×Bool×Option Addr×Nat×Nat×Bool×Option Addr×Nat×Nat) (λz=>[(1,Y ax lx cx),(2,Y ay ly cy),(3,ε (3*n+2)),(6,ε (3*(n+1)+2)),(8,ε (3*(n+1+1)+2)),(9,υ (z.1:Int))]) (λz B G w'=>w'=[]/\n+1+1+1<=G/\ExtB (n+1+1+1) [3*(n+1+1)+2] bh B/\B (3*(n+1+1)+2)=ξ (.row [U z.2.1,Y z.2.2.1 z.2.2.2.1 z.2.2.2.2.1,U z.2.2.2.2.2.1,Y z.2.2.2.2.2.2.1 z.2.2.2.2.2.2.2.1 z.2.2.2.2.2.2.2.2] 119)/\UI B G z.2.1 z.2.2.1 z.2.2.2.1 z.2.2.2.2.1 ((sumS ((zk p).take z.1) (xs.take z.1)).num)/\UI B G z.2.2.2.2.2.1 z.2.2.2.2.2.2.1 z.2.2.2.2.2.2.2.1 z.2.2.2.2.2.2.2.2 (denZ (sumS ((zk p).take z.1) (xs.take z.1)))/\z.1<=O xs/\ON (zk p) xs z.1) (λz=>O xs-z.1) (0,χ,θ,0,0,χ,θ,0,0) ⟨ω,Cy,Ed _ _ _,c0,(Jq _ _).as As,(Jq _ _).as As,Cz,(hT.zero _ _)⟩;rintro⟨j,bS,aS,lS,kS,uS,vS,wS,xS⟩ t K N _ ⟨rfl,fo,ce,J,o,s,hj,M⟩;dsimp only at J o s hj M;apply(zG);by_cases q16:(j:Int)<(lx:Int);apply(Zh);obtain⟨cp,C⟩:∃d,(xs)[j]?=ξ d:=⟨_,CD Z⟩;have⟨ds,eb,cj,cg,dx,cl,f5,f7,f9,fe,bd,bv,c3,c7,bi,bp⟩:=NS.at ix C;apply dI bd c3;apply dL c7 bv 0;apply(zH);obtain⟨cq,m⟩:∃d,(p.rows)[j]?=ξ d:=⟨_,CD Z⟩;have⟨dt,ec,ch,dy,cm,ad,b2,b4,b7,bj⟩:=Kt.at ir m;have cb:=z8 bj;apply dI ad b4;apply(zH);apply dL b7 b2 1;apply(zH);apply dI ad b4;apply(zH);apply dL b7 b2 2;apply dC (Uv _ bi.x bp.x (CS (H _ (CE m)).1.1 zd) (CS (H _ (CE m)).2.1.1 zd) (H _ (CE m)).1.2 (H _ (CE m)).2.1.2 (b5 _ (CE C)) Z);rintro _ d2 e6⟨a1,W,av,a5,a9,ae,ai,am,cc,rfl,bk,bq,b8⟩ fp ff;obtain⟨rfl,Z4⟩|⟨rfl,Z4⟩:=J7 b8;apply(zH);apply dB [U χ,η,U χ,η];intro d3 es fg;apply dS [U a1,Y W av a5,U a9,Y ae ai am];intro d4 et ed;apply(zJ);apply sT #[U χ,η,U χ,η];apply sS [U χ,η,U χ,η];intro d5 eu ee;apply(zq);exact⟨_,_,_,_,_,_,_,_,_,ω,⟨λF=>(by cases F),λF=>Cu (F.1 _ _ _ (LF m) C) Z4⟩,λF=>(by cases F)⟩;apply(zH);apply dB [U χ,η,U χ,η];intro d6 ev fh;apply dS [U a1,Y W av a5,U a9,Y ae ai am];intro d7 ew ef;apply(zJ);apply sC (OA _ o.t s.t bk.t bq.t (hz.1 _ (by rw[T];omega)) (OM (b5 _ (CE C)) (H _ (CE m)).1.2 (H _ (CE m)).2.1.2) Z);rintro _ d8 e7⟨a2,Z3,az,a6,aa,af,aj,an,rfl,bl,br⟩ fq fi;apply sS [U a2,Y Z3 az a6,U aa,Y af aj an];intro d9 c1 eg;apply(zG);exact sK (j+1,a2,Z3,az,a6,aa,af,aj,an) ⟨ω,Z,zy,c1,(bl.t.as (by rw[L5 (LF m) C];rfl)),(br.t.as (by rw[L5 (LF m) C];rfl)),Z,(M.step (LF m) C Z4)⟩;apply(zG);have ba:=M.all (.inr Z);apply(zG);apply sF (α:=Nat×Bool×Option Addr×Nat×Nat×Bool×Option Addr×Nat×Nat) (λz=>[(2,Y ay ly cy),(3,ε (3*n+2)),(6,ε (3*(n+1)+2)),(8,ε (3*(n+1+1)+2)),(12,υ (z.1:Int))]) (λz B G w'=>w'=[]/\N<=G/\ExtB N [3*(n+1+1)+2] K B/\B (3*(n+1+1)+2)=ξ (.row [U z.2.1,Y z.2.2.1 z.2.2.2.1 z.2.2.2.2.1,U z.2.2.2.2.2.1,Y z.2.2.2.2.2.2.1 z.2.2.2.2.2.2.2.1 z.2.2.2.2.2.2.2.2] 119)/\UI B G z.2.1 z.2.2.1 z.2.2.2.1 z.2.2.2.2.1 ((sumS (zk p) (xs.take (O p.rows))+sumS ((zC p).take z.1) (ys.take z.1)).num)/\UI B G z.2.2.2.2.2.1 z.2.2.2.2.2.2.1 z.2.2.2.2.2.2.2.1 z.2.2.2.2.2.2.2.2 (denZ (sumS (zk p) (xs.take (O p.rows))+sumS ((zC p).take z.1) (ys.take z.1)))/\z.1<=O ys/\ON (zC p) ys z.1) (λz=>O ys-z.1) (0,bS,aS,lS,kS,uS,vS,wS,xS) ⟨ω,Cy,Ed _ _ _,J,o.as Bk,s.as Bk,Cz,(hT.zero _ _)⟩;rintro⟨i,bT,aT,lT,kT,uT,vT,wT,xT⟩ t P b3 _ ⟨rfl,fr,cf,Z1,u,w,hi,I⟩;dsimp only at Z1 u w hi I;apply(zG);by_cases q28:(i:Int)<(ly:Int);apply(Zh);obtain⟨cs,D⟩:∃d,(ys)[i]?=ξ d:=⟨_,CD Z⟩;have⟨du,eh,ck,ci,dz,cn,f6,f8,fa,fj,be,bw,c4,c8,bm,bs⟩:=NS.at iy D;apply dI be c4;apply dL c8 bw 0;apply(zH);obtain⟨ct,y⟩:∃d,(p.lower)[i]?=ξ d:=⟨_,CD Z⟩;have⟨dv,ei,bf,bx,c5,c9⟩:=vM iw y;apply dI bf c5;apply dL c9 bx 0;apply(zH);obtain⟨cv,A⟩:∃d,(p.upper)[i]?=ξ d:=⟨_,CD Z⟩;have⟨dw,ej,bg,bz,c6,ca⟩:=vM iu A;apply dI bg c6;apply dL ca bz 0;apply dC (Uv _ bm.x bs.x (CS (R _ (CE y)).1 zd) (CS (S _ (CE A)).1 zd) (R _ (CE y)).2 (S _ (CE A)).2 (b6 _ (CE D)) Z);rintro _ da e8⟨a3,Z0,b0,a7,ab,ag,ak,ap,cd,rfl,bn,bt,b9⟩ fs fk;obtain⟨rfl,V⟩|⟨rfl,V⟩:=J7 b9;apply(zH);apply dB [U χ,η,U χ,η];intro db ex fl;apply dS [U a3,Y Z0 b0 a7,U ab,Y ag ak ap];intro dc ey ek;apply(zJ);apply sT #[U χ,η,U χ,η];apply sS [U χ,η,U χ,η];intro dd ez el;apply(zq);exact⟨_,_,_,_,_,_,_,_,_,ω,⟨λF=>(by cases F),λF=>Cu (F.2 _ _ _ (gj y A) D) V⟩,λF=>(by cases F)⟩;apply(zH);apply dB [U χ,η,U χ,η];intro de f0 fm;apply dS [U a3,Y Z0 b0 a7,U ab,Y ag ak ap];intro df f1 em;apply(zJ);apply sC (OA _ u.t w.t bn.t bt.t (by have:=hz.2 i (by rw[bc];omega);rw[T]at this;exact this) (OM (b6 _ (CE D)) (R _ (CE y)).2 (S _ (CE A)).2) Z);rintro _ dg e9⟨a4,a0,b1,a8,ac,ah,al,aq,rfl,bo,bu⟩ ft fn;apply sS [U a4,Y a0 b1 a8,U ac,Y ah al aq];intro dh c2 en;apply(zG);exact sK (i+1,a4,a0,b1,a8,ac,ah,al,aq) ⟨ω,Z,zy,c2,(bo.t.as (by rw[L5 (gj y A) D,<-Ht])),(bu.t.as (by rw[L5 (gj y A) D,<-Ht])),Z,(I.step (gj y A) D V)⟩;apply(zG);have bb:=I.all (.inr Z);apply(zG);apply sS [U bT,Y aT lT kT,U uT,Y vT wT xT];intro di f2 eo;apply(zq);exact⟨_,_,_,_,_,_,_,_,_,ω,⟨λ_=>⟨ba,bb⟩,λ_=>rfl⟩,λ_=>⟨u.t.as aD,w.t.as aD⟩⟩
end
def allN(S:List (List UInt8)):Prop:=∀s∈S,vF s
def valQ(p:LPD)(S:List (List UInt8)):Rat:=dotR (p.obj.map zj) ((S.map zj).take (O (p.obj.map zj)))
def bndQ(p:LPD)(R C:List (List UInt8)):Rat:=sumS (zk p) ((R.map zj).take (O (zk p)))+sumS (zC p) ((C.map zj).take (O (zC p)))
def feaP(p:LPD)(S:List (List UInt8)):Prop:=Uo (zC p) (S.map zj)/\∀d∈zk p,Qi (S.map zj) d
def bndP(p:LPD)(R C:List (List UInt8)):Prop:=Mu (zk p) (R.map zj)/\Mu (zC p) (C.map zj)
open Classical in
open Classical in
open Classical in
section
variable{p:LPD}{R:List (List UInt8)}
open Classical in
open Classical in
end
def Kg.nums{b}{S:List (List UInt8)}(h:∀s∈S,Kg b s):∀q∈S.map zj,Sz b q:=by intro q a;obtain⟨s,c,rfl⟩:=DL.1 a;exact(h s c).2
def VLP.rwb{a}{p}(h:VLP p)(e:LPB a p):Qk a (O p.obj) (zk p):=by intro d c;obtain⟨r,b,rfl⟩:=DL.1 c;exact⟨Kg.nums (e.rl r b).2.2.2,by show(r.A.map zj).length<=_;rw[CN,(h.rw r b).2.2];exact Ej _⟩
def VLP.cols{p}(h:VLP p):O (zC p)=O p.obj:=by rw[Ux (h.ll.trans h.lu.symm),h.ll]
section
variable{B r:Nat}{q:Rat}
def rA(rs:List SideD)(i:Nat):List Rat:=((rs[i]?).getD ⟨[],[],[]⟩).A
structure Fea (cs rs:List SideD)(x:Nat->Rat):Prop where
 v:∀v,v<O cs->inBd (Lk cs) (Ll cs) v (x v)
 r:∀i,i<O rs->inBd (Lk rs) (Ll rs) i (Kb (O cs) λj=>atR (rA rs i) j*x j)
def Fea.congr{cs rs}{x y:Nat->Rat}(h:Fea cs rs x)(e:∀v,v<O cs->x v=y v):Fea cs rs y:=
 ⟨λv c=>e v c▸h.v v c,λi hi=>by
  have d:(Kb (O cs) λj=>atR (rA rs i) j*y j)=Kb (O cs) λj=>atR (rA rs i) j*x j:=yg λj f=>by rw[e j f]
  rw[d];exact h.r i hi⟩
section
variable{cs rs:List SideD}{ss:List Rat}{y:Nat×List Int}{s:Rat}{st:PS}{x:Nat->Rat}
def ScI.val(c:ScI cs rs ob ss bz y s)(p:PrO cs rs ob)(d:L0 (O cs) (O rs) (aF (O cs) (zI (bz++[y]))) x):x (O cs+O rs)=s*Kb (O cs) λj=>atR ob j*x j:=
 zp0 d (c.obj p).eq
abbrev OU(cs rs:List SideD)(ss:List Rat)(bz:List (Nat×List Int))(y:Nat×List Int)(st:PS):Prop:=PInv (O cs) (O rs) (aF (O cs) (zI (bz++[y]))) (J6 (solI cs rs ss bz y).lo) (J6 (solI cs rs ss bz y).hi) (L0 (O cs) (O rs) (aF (O cs) (zI (bz++[y])))) st
end
theorem QB.nd{A}(h:QB A B q):q.num.natAbs<=A/\q.den<=B:=by
 obtain⟨x,y,g,o,i,l⟩:=h;have e:q=Dw x y:=by grind [Ev,El.1,FZ,Rat.mul_div_cancel]
 obtain⟨d,f⟩:=pt g;rw[<-e]at d f;constructor
 .rw[d,Gh];exact CU (Ei _ _) i
 have c:=congrArg Int.natAbs f;rw[Gh,CR]at c;rw[c];exact CU (Ei _ _) l
def UA(h:V<10^k)(c:1<=k):O (decT V)<=k:=by unfold decT;split;exact c;rw[CN,kY];exact ws k V h
theorem OV{A a}(h:QB A B q)(i:A<10^a)(l:B<10^b)(c:1<=a)(hb:1<=b):O (ratT q)<=a+b+2:=by have⟨d,e⟩:=h.nd;have f:=UA (V:=q.num.natAbs) Z c;have g:=UA (V:=q.den) Z hb;unfold Go.Proofs.YtdeaddceicfanaaGreatDoor.ratT;grind
section
variable{a:Nat->Nat->Int}{lo hi:Nat->Option Rat}{st:PS}{x:Nat->Rat}{D:Int}
theorem Vtx.dot{E}(h:Vtx n m a x N D)(u:∀v,v<n+m->∀j,j<n->(a v j).natAbs<=M){l}(d:∀q∈l,NE E P q)(F:O l<=n)(C:k<=n):QB (k*(P*E^(O l-1)*vN n M N)) (E^O l*vD n N) (Kb k λj=>atR l j*x j):=by have A:=OJ d;have c:∀j,∃w:Int,((lcmD l 1:Int):Rat)*atR l j=w/\w.natAbs<=P*E^(O l-1):=λj=>(by by_cases hj:j<O l;have e:=CD hj;rw[wg e,Dj];exact Uc d (CE e);refine⟨0,?_,Cz⟩;unfold atR;grind);have⟨w,c⟩:=FQ c;have f:=h.sum (by have:=A.1;omega) (λj=>(c j).1) (λj=>(c j).2) u k C;have⟨X,Z3,g,i,o,p⟩:=f;refine⟨X,Z3,g,i,o,CU p (CM _ ?_)⟩;omega
end
theorem Ql{l c}{f:Nat->Rat}{n}(g:O c=n)(d:∀j,j<n->c[j]?=ξ (f j))(e:O l<=n)(hj:j<=O l):dotR (l.take j) (c.take j)=Kb j λj=>atR l j*f j:=by grind [rM,yg,wg]
def nV:Nat:=10^38*1001
def num8{n}(c:1<=n)(d:n<=5):vN n (10^32) nV<2^800/\vD n nV<2^700/\vN n (10^32) nV<10^241/\vD n nV<10^208/\vN n (10^32) (10^38)<=vN n (10^32) nV/\vD n (10^38)<=vD n nV:=by have h:n=1\/n=2\/n=3\/n=4\/n=5:=Z;obtain rfl|rfl|rfl|rfl|rfl:=h<;>exact⟨cA,cA,cA,cA,cA,cA⟩
def zp2{n}(c:1<=n)(d:n<=5)(l:k<=n)(o:r<=n):k*(10^14*(10^10)^(r-1)*vN n (10^32) nV)<2^990/\(10^10)^r*vD n nV<2^990:=by have⟨e,f,_⟩:=num8 c d;have g:10^14*(10^10)^(r-1)<=10^14*(10^10)^4:=C4 _ (CQ zd Z);have i:(10^10)^r<=(10^10)^5:=CQ zd Z;constructor;refine C7 (C6 (show k<=5 from Z) (C6 g (DZ e))) ?_;decide+kernel;refine C7 (C6 i (DZ f)) ?_;decide+kernel
end
section
variable{s:List UInt8}{v:ψ}{cs:List ψ}
def Qm(l):O (strs l)=O l*1:=by simp[strs]
def zd5(l):ones (strs l)=φ:=by
 induction l with
 |nil=>rfl
 |cons e l ih=>exact ih
theorem UB(k){a}(f:Sl h n 1 (Y a len cap) (strs S))(hb:O S<1000000):
  CX (J4 (k+1)) 16 [Y a len cap] h n λv h' n'=>Gr0 h' n n' 9 1 v (O S) (strs S):=by
 apply zw R4;have j:=z8 f;subst j;apply(Za);apply pZ R5;generalize hh:upd h (3*n+2) _=h1;have c:J3 n h h1:=by grind [J3.upd]
 apply(zM);apply RR R8 zd (.emp Cy (Nat.lt_succ_self _)) (uX (f.ext c Zq)) Z (Qm _) (zd5 _) (by show n<=n/\_;omega);intro v q o p d g _ _;rw[C9,Dt]at d;obtain⟨i,rfl,_⟩:=d.shape;apply(Zm);exact retX [Y i (O S) (O S)] R3 (show n<=o from Z) (c.trans g Cy) d
def fitL(l:List (List UInt8))(n:Nat)(s:List UInt8):List (List UInt8):=(l++CI (n-O l) s).take n
theorem pF(l)(n)(s):O (fitL l n s)=n:=by grind [fitL]
theorem ziq{l}{x}(h:x∈fitL l n s):x∈l\/x=s:=by obtain h|h:=DQ.1 (Dp h);exact .inl h;exact .inr (List.eq_of_mem_replicate h)
def Km(lo:Nat)(h:HF)(n:Nat)(v:ψ)(L:List (List UInt8)):Prop:=Sl h n 1 v (strs L)/\∀ad len cap,v=Y (ξ ad) len cap->3*lo<=ad.block/\(len≠0->∃T,h ad.block=ξ (.row (strs T) 9)/\ad=⟨ad.block,0,θ⟩/\T.take len=L/\len<=O T/\len<=cap)
def Km.of_gr0{lo}{c}(g:Gr0 h lo n 9 1 v len c){T}(i:c=strs T)(hm:m<=len){a}(hv:v=Y a l k):Km lo h n (Y a m k) (T.take m):=by
 have j:∀(x:List ψ),x=strs T->x.take m=strs (T.take m):=λx e=>by rw[e];unfold strs;rw[F2]
 cases g with
 |gro g=>
  cases g with
  |nil=>
   cases hv;have d:m=0:=Z;subst d;exact⟨.nil (.inl ω),λf l c e=>by cases e⟩
  |at_ hg hlo hb hr hl ho=>
   cases hv;refine⟨.at_ hb hr ω hm Z aD,λf l c e=>?_⟩;cases e;subst i;exact⟨hlo,λ_=>⟨T,hr,ω,ω,by rw[Qm]at hl;omega,hm⟩⟩
 | @emp m2 hlo hm2=>
  cases hv;have d:m=0:=Z;subst d;refine⟨.nil (.inr ⟨_,_,_,ω,Z⟩),λf l c e=>?_⟩;cases e;exact⟨by show 3*lo<=3*m2+2;omega,λh=>Cu ω h⟩
def Km.go{lo}{L}(s:Km lo h n v L)(p:∀b cs,3*lo<=b->b<3*n->h b=ξ (.row cs 9)->h' b=h b)(q:n<=n'):Km lo h' n' v L:=by
 have⟨s,f⟩:=s;generalize hcl:strs L=cl at s;cases s with
 |nil ha=>exact⟨by rw[hcl];exact .nil (uw ha q),λa len cap e=>by cases e;exact⟨(f _ _ _ ω).1,λh=>Cu ω h⟩⟩
 | @at_ b off len cap x cs cells hb hx hc hcap hl he=>
  by_cases h0:len=0;subst h0;have o:cl=[]:=by rw[<-he];simp
  subst o;exact⟨by rw[hcl];exact .nil (.inr ⟨_,_,_,ω,Z⟩),λa len cap e=>by cases e;exact⟨(f _ _ _ ω).1,λh=>Cu ω h⟩⟩;have⟨c,i⟩:=f _ _ _ rfl;have⟨T,d,j⟩:=i h0;have g:=p _ _ c hb d;exact⟨by rw[hcl];exact .at_ Z (g.trans hx) hc hcap hl he,λa len cap e=>by cases e;exact⟨c,λ_=>⟨T,g.trans d,j⟩⟩⟩
def Km.ext{lo}{L}(s:Km lo h n v L)(x:J3 n h h')(c:n<=n'):Km lo h' n' v L:=s.go (λb _ _ a _=>x b a) c
def Km.x{lo}{L}(g:Km lo h n v L)(t:Tx n h n' h':=by exact zx):Km lo h' n' v L:=g.ext t.2 t.1
def Km.st{lo}{L}(s:Km lo h n v L)(_:h b=ξ (.row cs e))(_:cs.all nu=φ)(a:Only b h h')(hb:b<3*lo):Km lo h' n v L:=s.go (λk _ c _ _=>a k Z) Cy
def Km.sto{lo}{L}(g:Km lo h n v L)(o:Kp b h h')(hb:b<3*lo):Km lo h' n v L:=by have⟨o,_,_,a,c⟩:=o;exact g.st a c o hb
def Km.ss{lo}{L}(s:Km lo h n v L):Sl h n 1 v (strs L):=s.1
def Km.lo{lo}{L}(s:Km lo h n v L)(c:lo'<=lo):Km lo' h n v L:=⟨s.1,λa len cap e=>⟨by have:=(s.2 a len cap e).1;omega,(s.2 a len cap e).2⟩⟩
def Ma(lo:Nat)(c:List ψ)(d:RowD)(h:HF)(n:Nat):Prop:=∃a l k,c=[Y a l k,CG ⟨⟨d.lo⟩⟩,CG ⟨⟨d.hi⟩⟩]/\Km lo h n (Y a l k) d.A
structure GRW (lo:Nat)(h:HF)(n:Nat)(v:ψ)(ds:List RowD):Prop where
 ex:∃C,Gro h lo n 41 3 v (O ds) C/\Rec 3 (λc d=>Ma lo c d h n) C ds
def GRW.nil(lo)(h)(n):GRW lo h n (η) []:=⟨[],.nil,.nil⟩
def GRW.ext{lo}{f}(g:GRW lo h n v f)(x:J3 n h h')(i:n<=n'):GRW lo h' n' v f:=by have⟨C,j,o⟩:=g.ex;exact⟨C,j.ext x i,o.mono λc d⟨a,l,k,e,s⟩=>⟨a,l,k,e,s.ext x i⟩⟩
def GRW.x{lo}{a}(g:GRW lo h n v a)(t:Tx n h n' h':=by exact zx):GRW lo h' n' v a:=g.ext t.2 t.1
def GRW.st{lo}{f}(g:GRW lo h n v f)(p:h b=ξ (.row cs e))(q:cs.all nu=φ)(i:Only b h h')(hb:b<3*lo):GRW lo h' n v f:=by have⟨C,j,o⟩:=g.ex;exact⟨C,j.same λk u _ _=>i k Z,o.mono λc d⟨a,l,k,e,s⟩=>⟨a,l,k,e,s.st p q i hb⟩⟩
def GRW.sto{lo}{a}(g:GRW lo h n v a)(o:Kp b h h')(hb:b<3*lo):GRW lo h' n v a:=by have⟨o,_,_,c,d⟩:=o;exact g.st c d o hb
def GRW.lo{lo}{f}(g:GRW lo h n v f)(o:lo'<=lo):GRW lo' h n v f:=by
 have⟨C,i,j⟩:=g.ex;refine⟨C,?_,j.mono λc d⟨a,l,k,e,s⟩=>⟨a,l,k,e,s.lo o⟩⟩;generalize (O f)=m at i⊢;cases i with
 |nil=>exact .nil
 |at_ hg hlo hb hr hl2 ho=>exact .at_ hg Z hb hr hl2 ho
def GRW.rws{lo}{f}(g:GRW lo h n v f):Kt h n v f:=by have⟨C,i,j⟩:=g.ex;exact⟨C,i.sl,j.mono λc d⟨a,l,k,e,s⟩=>⟨a,l,k,e,s.1⟩⟩
def Km.keep{lo d}{u}{L}{C}(s:Km lo h n v L)(g:Gro h d n 41 3 u len C)(k:Keep u n h h')(f:n<=n'):Km lo h' n' v L:=
 s.go (λb cs j a i=>by
  refine k b a λo l c e=>?_;cases g with
  |nil=>cases e
  |at_ hg hlo hb3 hr2 hl2 ho=>
   cases e;rw[i]at hr2;injection hr2 with hr2
   injection hr2 with _ hr2
   exact Cu hr2 zd) f
def GRW.app{lo}{v'}{f}{d}{C c}(j:Gro h lo n 41 3 v (O f) C)(o:Rec 3 (λc d=>Ma lo c d h n) C f)(s:Ma lo c d h n)(k:Keep v n h h')(g:Gro h' lo (n+1) 41 3 v' (O f+1) (C++c)):GRW lo h' (n+1) v' (f++[d]):=by have i:∀c d,Ma lo c d h n->Ma lo c d h' (n+1):=λc d⟨a,l,m,e,s⟩=>⟨a,l,m,e,s.keep j k Zq⟩;refine⟨C++c,by rw[List.length_append];exact g,(o.mono i).snoc ?_ (i _ _ s)⟩;obtain⟨a,l,m,rfl,_⟩:=s;rfl
def Gr0.slice{lo}{a}{c}(g:Gr0 h lo n e sz (Y a l k) len c):l=len/\k=len/\(a=θ\/∃b,a=ξ ⟨b,0,θ⟩):=by
 cases g with
 |gro g=>
  cases g with
  |nil=>exact⟨ω,ω,.inl ω⟩
  |at_ hg hlo hb hr hl ho=>exact⟨ω,ω,.inr ⟨_,ω⟩⟩
 |emp hlo hm=>exact⟨ω,ω,.inr ⟨_,ω⟩⟩
theorem bI(k){a}(u:Sl h n 1 (Y a len cap) (strs S))(hb:O S<1000000)(hm:m<1000000)(s):
  CX (J4 (k+2)) 17 [Y a len cap,υ (m:Int),CG ⟨⟨s⟩⟩] h n λv h' n'=>∃a c,v=Y a m c/\Km n h' n' (Y a m c) (fitL S m s):=by
 apply zw R4;have B:=z8 u;subst B;apply(Za);apply(zM);refine gJ R5 (UB k u hb) λv L P o q H=>?_;obtain⟨y,rfl,_⟩:=o.shape;apply(Zm);refine ye (α:=Option Addr×Nat) (λz=>[(1,υ (m:Int)),(2,CG ⟨⟨s⟩⟩),(7,Y z.1 (O S+z.2) (O S+z.2))]) (λz h' n' G=>G=[]/\n<=n'/\J3 n h h'/\Gr0 h' n n' 9 1 (Y z.1 (O S+z.2) (O S+z.2)) (O S+z.2) (strs (S++CI z.2 s))/\(z.2=0\/O S+z.2<=m)) (λz=>m-(O S+z.2))
  (y,0) P3 ⟨ω,q,H,by rw[List.replicate_zero,List.append_nil];exact o,.inl ω⟩ (by show m-(O S+0)<LL;unfold LL;omega) ?_
 rintro⟨K,j⟩ t M R _ ⟨rfl,d,i,f,D⟩;simp only at f D;apply(zN);by_cases hc:O S+j<m;apply(Zx);refine wE [CG ⟨⟨s⟩⟩] R5 λN F w=>?_;apply RR R8 zd (f.ext w Zq) (yp F R2) Z ω ω (by show n<=n/\_;omega);intro v Z1 T J p I _ _;obtain⟨A,rfl,_⟩:=p.shape;apply(Zm);refine goOn (A,j+1) Z P3 ⟨ω,aD,(i.trans (w.mono d) Cy).trans I Cy,?_,.inr Z⟩;rw[List.replicate_succ',<-Dh,fg];exact p;apply(ZE);have C:(S++CI j s).take m=fitL S m s:=by grind [fitL]
 have g:=Km.of_gr0 f ω (m:=m) Z rfl;rw[C]at g;obtain e|⟨b,e⟩:=f.slice.2.2;subst e;apply fh m R9 Z;apply(Zm);exact retX [Y θ m (O S+j)] R3 d i ⟨_,_,ω,g⟩;subst e;apply td m R8 ω Z;apply(Zm);exact retX [Y (ξ ⟨b,0,θ⟩) m (O S+j)] R3 d i ⟨_,_,ω,g⟩
end
section
variable{p:LPD}{s:List UInt8}
def Qn(r:RowD):Prop:=O r.A<=7/\(∀s∈r.A,(O s:Int)<=8)/\∀s∈[r.lo,r.hi],(O s:Int)<=8
structure SmlP (p:LPD):Prop where
 n1:O p.obj<=5
 n2:O p.rows<=6
 n3:O p.lower<=7
 n4:O p.upper<=7
 ob:∀s∈p.obj,(O s:Int)<=8
 lw:∀s∈p.lower,(O s:Int)<=8
 up:∀s∈p.upper,(O s:Int)<=8
 rw:∀r∈p.rows,Qn r
def SmlP.lpb(h:SmlP p):LPB 27 p:=
 ⟨λs a=>txt8 (h.ob s a),λs a=>txt8 (h.lw s a),λs a=>txt8 (h.up s a),λr b=>⟨txt8 ((h.rw r b).2.2 _ eC),txt8 ((h.rw r b).2.2 _ eC),by have:=(h.rw r b).1;omega,λs a=>txt8 ((h.rw r b).2.1 s a)⟩,by have:=h.n1;omega,by have:=h.n2;omega,by have:=h.n3;omega,by have:=h.n4;omega⟩
def Qo(n:Nat)(r:RowD):RowD:=⟨fitL r.A n [48],r.lo,r.hi⟩
def vo(p:LPD):List RowD:=p.rows.map (Qo (O p.obj))
def UC(p:LPD):LPD:=⟨p.obj,vo p,fitL p.lower (O p.obj) [],fitL p.upper (O p.obj) []⟩
def zal{i:Nat}{r}(h:p.rows[i]?=ξ r):(vo p)[i]?=ξ (Qo (O p.obj) r):=by unfold vo;rw[Dx,h];rfl
theorem rW(p):O (vo p)=O p.rows:=by unfold vo;rw[CN]
theorem tr{l}{n}{m}(h:∀x∈l,(O x:Int)<=m)(a:(O s:Int)<=m):∀x∈fitL l n s,(O x:Int)<=m:=by grind [ziq]
def SmlP.tidy(h:SmlP p):SmlP (UC p):=
 ⟨h.n1,by show(vo p).length<=6;rw[rW];exact h.n2,Ac,Ac,h.ob,tr h.lw zd,tr h.up zd,λr c=>by
  obtain⟨b,a,rfl⟩:=DL.1 c;exact⟨Ac,tr (h.rw b a).2.1 zd,(h.rw b a).2.2⟩⟩
def UD(k){h}{n}{a}(f:Sl h n 1 (Y a len cap) (strs S))(hb:O S<1000000):
  CX (J4 (k+1)) 16 [Y a len cap] h n λv b e=>∃a l c,v=Y a l c/\Km n b e (Y a l c) S:=
 (UB k f hb).mono λv b e g=>by
  obtain⟨j,rfl,_⟩:=g.shape;have:=Km.of_gr0 g ω Cy rfl;rw[C3]at this;exact⟨_,_,_,ω,this⟩
section
variable{i:Nat}
end
end
section
variable{s:List UInt8}{p:LPD}{st:PS}
structure SmQ (p:LPD):Prop where
 n1:O p.obj<=5
 n2:O p.rows<=6
 ob:∀s∈p.obj,NE (10^10) (10^14) (zj s)
 lw:∀s∈p.lower,(O s:Int)<=8
 up:∀s∈p.upper,(O s:Int)<=8
 rw:∀r∈p.rows,Qn r
 lpb:LPB 48 p
def Kg.wid(h:Kg a s)(hb:a<=b):Kg b s:=⟨h.1,h.2.mono hb⟩
def LPB.wid(h:LPB a p)(hb:a<=b):LPB b p:=
 ⟨λs c=>(h.ob s c).wid hb,λs c=>(h.lw s c).wid hb,λs c=>(h.up s c).wid hb,λr d=>⟨(h.rl r d).1.wid hb,(h.rl r d).2.1.wid hb,(h.rl r d).2.2.1,λs c=>((h.rl r d).2.2.2 s c).wid hb⟩,h.n1,h.n2,h.n3,h.n4⟩
def SmlP.q(h:SmlP p):SmQ p:=
 ⟨h.n1,h.n2,λs c=>(Mr (h.ob s c)).up,h.lw,h.up,h.rw,h.lpb.wid zd⟩
def UE(hv:VLP p)(o:SmQ p):PrO (zC p) (zk p) (p.obj.map zj):=by have v:=hv.cols;have F:∀d∈zC p,∃j f e,p.lower[j]?=ξ f/\p.upper[j]?=ξ e/\d.lo=f/\d.hi=e:=λd u=>(by have⟨j,y⟩:=EE.1 u;have K:=(CK.1 y).1;have c:=CD (l:=p.lower) (i:=j) (by have:=hv.ll;omega);have g:=CD (l:=p.upper) (i:=j) (by have:=hv.lu;omega);rw[gj c g]at y;cases y;exact⟨j,_,_,c,g,ω,ω⟩);have w:∀{f e:List UInt8},(f=[]\/e=[]\/zj f<=zj e)->f≠[]->e≠[]->zj f<=zj e:=λh c g=>(h.resolve_left c).resolve_left g;refine⟨by rw[v];exact hv.n1,by rw[v];exact o.n1,by rw[jJ];exact o.n2,λd u=>?_,λd u=>?_,by rw[CN,v],λq B=>?_⟩;have⟨j,f,e,c,g,G,H⟩:=F d u;rw[G,H];exact⟨Mr (o.lw _ (CE c)),Mr (o.up _ (CE g)),w (hv.bd j f e c g).2.2⟩;obtain⟨r,D,rfl⟩:=DL.1 u;have⟨c,g,J⟩:=hv.rw r D;have⟨L,I,C⟩:=o.rw r D;refine⟨Mr (C r.lo eC),Mr (C r.hi eC),w c.2.2,?_,λq B=>?_⟩;show(r.A.map zj).length=_;rw[CN,v];exact J;obtain⟨s,o,rfl⟩:=DL.1 B;exact Mr (I s o);obtain⟨s,c,rfl⟩:=DL.1 B;exact o.ob s c
def optF(st:PS)(m:Nat)(s:Rat)(k:Nat):Nat->Rat:=match k with
 |0=>λ_=>0
 |k+1=>Ka (optF st m s k) (st.nb k) ((st.T m k:Rat)/st.d/s)
def zmv{T Z1 e}{d}{s}(g:0<st.d)(sz:SzP n m V T Z1 e d st)(f:T<=Z1)(i:Sz P s):∀k,k<=n->∀v,Sz (Z1+P+1) (optF st m s k v):=by
 intro k;induction k with
 |zero=>exact λ_ v=>H8 _ Z
 |succ k ih=>
  intro l v;have c:=xz g (sz.tO k Z) (CS sz.dd (CQ zd f));rw[Ev]at c;exact jt (ih Z) ((c.div i).mono Z) v
structure SolI (p:LPD)(ss:List Rat)(bz:List (Nat×List Int))(y:Nat×List Int)(s:Rat)(st:PS):Prop where
 c:ScI (zC p) (zk p) (p.obj.map zj) ss bz y s
 I:OU (zC p) (zk p) ss bz y st
noncomputable abbrev loI (p:LPD) (ss:List Rat) (bz:List (Nat×List Int)) (y:Nat×List Int):Nat->Option Rat:=J6 (solI (zC p) (zk p) ss bz y).lo
noncomputable abbrev hiI (p:LPD) (ss:List Rat) (bz:List (Nat×List Int)) (y:Nat×List Int):Nat->Option Rat:=J6 (solI (zC p) (zk p) ss bz y).hi
def SolA(p:LPD)(ss:List Rat)(bz:List (Nat×List Int))(y:Nat×List Int)(st:PS)(n0:Nat)(w:ψ)(h:HF)(n:Nat):Prop:=∃r low q b1 b2,w=.tuple #[.agg #[υ 2,CG ⟨⟨[]⟩⟩,η,η,Y (ξ ⟨b1,0,θ⟩) (O (zk p)) (O (zk p)),Y (ξ ⟨b2,0,θ⟩) (O (zC p)) (O (zC p))],υ 0]/\Vio (O (zk p)) (loI p ss bz y) (hiI p ss bz y) st r low q/\(∀c,c<O (zC p)->¬suit (loI p ss bz y) (hiI p ss bz y) (rdOf (O (zk p)) st r 0 low) c)/\OTN n0 h n b1 (Ke (O (zk p)) λi=>ratT (conF st r low (O (zC p)) (O (zC p)+i)*KL (zC p) ss (O (zC p)+i)))/\OTN n0 h n b2 (Ke (O (zC p)) λv=>ratT (conF st r low (O (zC p)) v*KL (zC p) ss v))
def SolB(p:LPD)(ss:List Rat)(bz:List (Nat×List Int))(y:Nat×List Int)(st:PS)(n0:Nat)(w:ψ)(h:HF)(n:Nat):Prop:=∃e up bX bR,w=.tuple #[.agg #[υ 3,CG ⟨⟨[]⟩⟩,Y (ξ ⟨bX,0,θ⟩) (O (zC p)) (O (zC p)),Y (ξ ⟨bR,0,θ⟩) (O (zC p)) (O (zC p)),η,η],υ 0]/\Feas (O (zk p)) (loI p ss bz y) (hiI p ss bz y) st/\Ent (O (zC p)) (O (zk p)) (loI p ss bz y) (hiI p ss bz y) st e up/\(∀r ρ,¬Li (O (zk p)) (loI p ss bz y) (hiI p ss bz y) st e up r ρ)/\OTN n0 h n bX (Ke (O (zC p)) λv=>ratT (st.x v))/\OTN n0 h n bR (Ke (O (zC p)) λv=>ratT (rayF st e up (O (zk p)) v))
def SolC(p:LPD)(ss:List Rat)(bz:List (Nat×List Int))(y:Nat×List Int)(s:Rat)(st:PS)(n0:Nat)(w:ψ)(h:HF)(n:Nat):Prop:=∃bX b1 b2,w=.tuple #[.agg #[υ 1,CG ⟨⟨ratT (Kb (O (zC p)) λj=>atR (p.obj.map zj) j*st.x j)⟩⟩,Y (ξ ⟨bX,0,θ⟩) (O (zC p)) (O (zC p)),η,Y (ξ ⟨b1,0,θ⟩) (O (zk p)) (O (zk p)),Y (ξ ⟨b2,0,θ⟩) (O (zC p)) (O (zC p))],υ 0]/\Feas (O (zk p)) (loI p ss bz y) (hiI p ss bz y) st/\(∀c u,c<O (zC p)->¬ent (O (zk p)) (loI p ss bz y) (hiI p ss bz y) st u c)/\OTN n0 h n bX (Ke (O (zC p)) λv=>ratT (st.x v))/\OTN n0 h n b1 (Ke (O (zk p)) λi=>ratT (optF st (O (zk p)) s (O (zC p)) (O (zC p)+i)*KL (zC p) ss (O (zC p)+i)))/\OTN n0 h n b2 (Ke (O (zC p)) λv=>ratT (optF st (O (zk p)) s (O (zC p)) v*KL (zC p) ss v))
def SolR(p:LPD)(n0:Nat)(w:ψ)(h:HF)(n:Nat):Prop:=
 (¬VLP p/\w=.tuple #[.agg #[υ 0,CG ⟨⟨[]⟩⟩,η,η,η,η],υ 1])\/
 VLP p/\∃ss bz y s st,SolI p ss bz y s st/\(SolA p ss bz y st n0 w h n\/SolB p ss bz y st n0 w h n\/SolC p ss bz y s st n0 w h n)
def SolI.vtx{ss}{f}{y}{s}(h:SolI p ss f y s st)(e:PrO (zC p) (zk p) (p.obj.map zj)):∃D,Vtx (O (zC p)) (O (zk p)) (aF (O (zC p)) (zI (f++[y]))) st.x nV D:=by have⟨D,d⟩:=h.I.vtx (fixI h.c e).b;have q:=num8 e.n1 e.n5;refine⟨D,d.pos,CU d.le (show vD _ _<=vD _ _ from q.2.2.2.2.2),λv u P o=>?_⟩;have⟨z,g,i⟩:=d.val v u P o;refine⟨z,g,CU i ?_⟩;have l:(10^38)^(O (zC p)-1)<=nV^(O (zC p)-1):=Nat.pow_le_pow_left cA _;exact C4 _ (C6 (C4 _ (CM _ l)) cA)
def UF{a}{x}{D}(h:Vtx n m a x nV D)(i:∀v,v<n+m->∀j,j<n->(a v j).natAbs<=10^32)(f:1<=n)(g:n<=5){l d}(u:∀q∈l,NE (10^10) (10^14) q)(c:O l<=n)(w:O d=n)(o:∀j,j<n->d[j]?=ξ (x j))(hj:j<=O l):Sz 990 (dotR (l.take j) (d.take j)):=by rw[Ql w o c hj];have e:=zp2 f g (k:=j) (r:=O l) Z c;exact(h.dot i u c Z).sz e.1 e.2
end
end
section
variable{n m V w r E Q B k N:Nat}{low:Bool}{f0 f y t M:Nat->Rat}{nb:Nat->Nat}{lo hi:Nat->Option Rat}{σ q g p:Rat}{a:Nat->Nat->Int}{L:(Nat->Rat)->Prop}{s:PS}
def Mv(f0:Nat->Rat)(nb:Nat->Nat)(t:Nat->Rat):Nat->Nat->Rat
 |0=>f0
 |k+1=>Ka (Mv f0 nb t k) (nb k) (t k)
structure Wei (n m:Nat)(lo hi:Nat->Option Rat)(L:(Nat->Rat)->Prop)(M b:Nat->Rat)(κ:Rat):Prop where
 sum:∀y,L y->(Kb (n+m) λv=>M v*y v)=κ*y (n+m)
 pos:∀v,v<n+m->0<M v->lo v=ξ (b v)
 neg:∀v,v<n+m->M v<0->hi v=ξ (b v)
section
variable{b:Nat->Rat}
end
def PZ(E Qb B:Nat)(p:Rat):Prop:=∃Q:Nat,0<Q/\Q<=Qb/\∃w:Int,((E*Q:Nat):Rat)*p=w/\w.natAbs<=E*Q*B
section
variable{b:Nat}{t:Rat}
theorem PZ.add(h:PZ E Q B p)(h':PZ E k b t):PZ E (Q*k) (B+b) (p+t):=by have⟨c,u,v,x,i,A⟩:=h;have⟨d,j,l,y,e,o⟩:=h';refine⟨c*d,Et u j,C6 v l,d*x+c*y,?_,?_⟩;simp only[Gi,Jv,Du,Dj]at i e⊢;rw[<-i,<-e];grind;refine CU (IU _ _) ?_;rw[Dl,Dl,CR,CR];have C:=C4 d A;have D:=C4 c o;grind
def PZ.zero:PZ E 1 0 0:=⟨1,IT,Cy,0,by rw[FJ];rfl,Cz⟩
def PZ.sum{f:Nat->Rat}(h:∀i,i<N->PZ E k b (f i)):∀j,j<=N->PZ E (k^j) (j*b) (Kb j f)
 |0,_=>by rw[EA,DU];exact PZ.zero
 |j+1,hj=>by rw[C5,EI];exact(PZ.sum h j Z).add (h j Z)
def PZ.mono{d c}(h:PZ E Q B p)(u:Q<=d)(o:B<=c):PZ E d c p:=by have⟨q,e,i,w,j,l⟩:=h;exact⟨q,e,CU i u,w,j,CU l (C4 _ o)⟩
def PZ.qb(h:PZ E Q B p)(l:0<E):QB (E*Q*B) (E*Q) p:=by have⟨q,d,e,w,i,j⟩:=h;have c:=C4 E e;exact⟨w,(E*q:Nat),by exact_mod_cast Et l d,by rw[Dj];exact i,CU j (CM _ c),by rw[CR];exact c⟩
theorem PZ.mul{W}{M c}(l:0<E)(o:∃w:Int,(E:Rat)*M=w/\w.natAbs<=W)(u:∃(q:Nat) (z:Int),0<q/\q<=k/\(q:Rat)*c=z/\z.natAbs<=q*B):PZ E k (W*B) (M*c):=by have⟨w,D,j⟩:=o;have⟨q,z,d,e,C,i⟩:=u;refine⟨q,d,e,w*z,?_,?_⟩;grind;rw[Dl];have v:=C6 j i;have A:=Ep (W*(q*B)) l;grind
end
end
section
open Go Go.GL
variable{h h':HF}{lo co cr lr b cx cy lx ly cu cw lu lw c m i n0 cz lz cap j a cc lc k N bt c1 c2 f1 g1 l1 sz n' nt kk fq gq lq bytes l L P B off f2 kA l2 lA E:Nat}{ao ar ax ay au aw az ac am a1 e1 aq eq a2 aA:Option Addr}{st:PS}{ops r:List Oper}{rs cs ds:List SideD}{bz:List (Nat×List Int)}{ob xs ys qs:List Rat}{low b1 dq b2:Bool}{y:Nat×List Int}{s q κ:Rat}{w ms:List Nat}{Q:SV->Prop}{o:Oper}{d:Tmp}{M:Nat->Rat}{ty e xT:TypeId}{al ld:List (Nat×Nat)}{ef:List (Nat×HF×List Nat)}{hi V:List UInt8}{z:ψ}{x:Operand}{ρ' ρ:Ren}{ik' ik:IntKind}{α D:Type}{S:List (List UInt8)}
section
variable{len:Nat}{cs:List ψ}{sT:TypeId}
def OQ(h:HF)(n b:Nat)(qs:List Rat):Prop:=b<3*n/\∃C e,h b=ξ (.row C e)/\C.all nu=φ/\Rec 4 (λc q=>ratP c q h n) C qs
def ratP.t{h h'}{n n'}{c}(r:ratP c q h n)(t:Tr n h n' h':=by exact zt):ratP c q h' n':=by have⟨b,a,l,k,d,e,f,g,e1,i,j⟩:=r;exact⟨b,a,l,k,d,e,f,g,e1,i.t t,j.t t⟩
def OW{b}{h h':HF}(t:h' b=h b:=by(repeat (first|exact rfl|(apply J3.zz;assumption;omega)|(apply Kp.zz;assumption;omega)|(apply ExtB.zz;assumption;omega;(simp only[List.mem_cons,List.not_mem_nil,or_false,not_false_eq_true]<;>omega))))):h' b=h b:=t
section
variable{n:Nat}
def OQ.go(o:OQ h n b qs)(t:Tr n h n' h')(e:h' b=h b):OQ h' n' b qs:=by have⟨g,C,e1,a,c,f⟩:=o;exact⟨Bm,C,e1,e.trans a,c,f.mono λ_ _ r=>r.t t⟩
def OQ.as{a}(o:OQ h n b qs)(e:qs=a):OQ h n b a:=e▸o
def OQ.sl(o:OQ h n b qs)(l:len=O qs)(g:len<=cap):QS h n (Y (ξ ⟨b,0,θ⟩) len cap) qs:=by have⟨f,C,e1,c,p,a⟩:=o;have:=a.len;subst l;exact⟨C,.at_ f c ω g Z aD,a⟩
def OQ.at(o:OQ h n b qs)(hj:qs[j]?=ξ q):∃b1 a1 l1 c1 c e1 f1 g1,At h b (0+j*4) [U b1,Y a1 l1 c1,U c,Y e1 f1 g1]/\IW h n b1 a1 l1 c1 q.num/\IW h n c e1 f1 g1 (denZ q):=by have f:=(CK.1 hj).1;have⟨_,_,b1,a1,l1,c1,c,e1,f1,g1,e,_,_,a,i,j⟩:=QS.at (o.sl ω Cy) hj;injection e with e;injection e with e2 e3;subst e2 e3;exact⟨b1,a1,l1,c1,c,e1,f1,g1,a,i,j⟩
theorem Rec.set{P}{a}(r:Rec sz P cs a){c}{d:D}(g:O c=sz)(l:P c d):∀{j:Nat},j<O a->Rec sz P (zu cs (j*sz) c) (a.set j d):=by
 induction r with
 |nil=>intro j f;cases f
 | @cons c1 cs d1 a hl hp1 hr ih=>
  intro j f;cases j with
  |zero=>
   have e:zu (c1++cs) (0*sz) c=c++cs:=(by unfold zu;rw[DU,EK,Dt,C9,g,<-hl,List.drop_left]);rw[e];exact .cons g l hr
  |succ j=>
   have e:zu (c1++cs) ((j+1)*sz) c=c1++zu cs (j*sz) c:=by grind [zu,EI,D6,List.take_append,CL,ER,Dh,Gs,List.drop_append,EX]
   rw[e];exact .cons hl hp1 (ih (by simpa using f))
def zwn{c}{o}(h:cs.all nu=φ)(f:c.all nu=φ):(zu cs o c).all nu=φ:=by rw[E3]at*;intro x a;unfold zu at a;obtain a|a:=DQ.1 a;exact h x (Dp a);obtain a|a:=DQ.1 a;exact f x a;exact h x (ET a)
def OQ.set{c C}(o:OQ h n b qs)(g:h b=ξ (.row C e))(hj:j<O qs)(r:ratP c q h n)(p:h' b=ξ (.row (zu C (j*4) c) e))(y:Only b h h'):OQ h' n b (qs.set j q)/\Kp b h h':=by have⟨v,B,G,a,f,u⟩:=o;rw[g]at a;cases a;have l:Kp b h h':=⟨y,_,_,g,f⟩;have t:Tr n h n h':=FG l (Eg _ _);have A:=r;obtain⟨b1,a1,l1,c1,F,e1,f1,g1,rfl,_,_⟩:=A;exact⟨⟨v,_,_,p,zwn f ω,(u.mono λ_ _ r=>r.t t).set ω (r.t t) hj⟩,l⟩
theorem OQ.zeros(hb:b<3*n)(a:h b=ξ (.row (rep L [U χ,η,U χ,η]) e)):OQ h n b (CI L 0):=by
 have z:ratP [U χ,η,U χ,η] 0 h n:=⟨_,_,_,_,_,_,_,_,rfl,EN _ _,EN _ _⟩;refine⟨hb,_,_,a,?_,?_⟩
 .clear a;induction L with
  |zero=>rfl
  |succ L ih=>show List.all (_++rep L _) nu=φ;rw[Hv,ih];rfl
 clear a;induction L with
 |zero=>exact .nil
 |succ L ih=>exact .cons rfl z ih
theorem NS.zeros(hb:b<3*n)(a:h b=ξ (.row (rep L [U χ,η,U χ,η]) e)):NS h n (Y (ξ ⟨b,0,θ⟩) L L) (CI L 0):=by
 have z:numP [U χ,η,U χ,η] 0 h n:=⟨_,_,_,_,_,_,_,_,rfl,Jq _ _,Jq _ _⟩;have r:Rec 4 (λc q=>numP c q h n) (rep L [U χ,η,U χ,η]) (CI L 0):=by
  clear a;induction L with
  |zero=>exact .nil
  |succ L ih=>exact .cons rfl z ih
 have:=r.len;rw[Dk]at this;exact⟨_,.at_ hb a rfl Cy Z aD,r⟩
end
section
variable{t:TF}{n:Nat}
theorem sM{l c}(a:zh ops t o=φ:=by rfl)(hd:o.dst=ξ d:=by rfl)(hn:zv nt (ξ d)=φ:=by rfl)(ho:o.op=.makeSlice ty l c:=by rfl)(hu:Kc.und ty=ξ (.slice e):=by rfl)(hi:Kc.inf e=ξ (4,bt,z):=by rfl)(hz:zn z=[.bool χ,.slice θ 0 0,.bool χ,.slice θ 0 0]:=by rfl)(hl:J2 t l=.int ik (L:Int):=by rfl)(hc:J2 t c=.int ik' (L:Int):=by rfl)(h1:L<=L/\L*bt<=1099511627776/\L<=1099511627776:=by omega)(k:∀h',h' (3*n+2)=ξ (.row (rep L [.bool χ,.slice θ 0 0,.bool χ,.slice θ 0 0]) e)->J3 n h h'->EO (KC kk n0 nt) ops r ⟨upd t d (.slice (ξ ⟨3*n+2,0,θ⟩) L L),h',n+1,w⟩ Q):EO (KC kk n0 nt) ops (o::r) ⟨t,h,n,w⟩ Q:=
 vB ⟨a,hd,hn,ho,hu,hi,hl,hc,(by rw[hz];rfl)⟩ h1 (k _ (by grind [zg]) (J3.upd Z))
def sY{s}{b u m}{a}{qs cs}(M:OQ h n b qs)(i:QS h n (.slice a m c2) cs)(hm:m=qs.length)(B:3*n0<=b)(K:zh ops t o=φ:=by rfl)(hd:o.dst=ξ d:=by rfl)(hn:zv nt (ξ d)=φ:=by rfl)(ho:o.op=.call {callee:=.builtin .copy,args:=#[s,x],argTypes:=#[sT,xT]}:=by rfl)(hu:Kc.und sT=ξ (.slice e):=by rfl)(hi:Kc.inf e=ξ (4,bytes,z):=by rfl)(v:J2 t s=.slice (ξ ⟨b,0,θ⟩) u cap:=by rfl)(hx:J2 t x=.slice a m c2:=by rfl)(hd2:m<=u:=by omega)(k:∀h',OQ h' n b cs->Kp b h h'->EO (KC kk n0 nt) ops r ⟨upd t d (.int .i64 (m:Int)),h',n,w⟩ Q):EO (KC kk n0 nt) ops (o::r) ⟨t,h,n,w⟩ Q:=by
 have⟨I,C,e1,g1,G,H⟩:=M;have J:=i.len;have⟨p,N,y⟩:=i;have l1:=H.len;have Z1:=y.len;have A:∀{cs:List ψ} {F:List Rat},Rec 4 (λc q=>ratP c q h n) cs F->cs.all nu=φ/\ones cs=φ:=by
  intro cs F r;induction r with
  |nil=>exact⟨ω,ω⟩
  |cons _ hp _ ih=>
   obtain⟨b,a,l,k,d,e,f,g,rfl,_,_⟩:=hp;exact⟨by rw[List.all_append,ih.1];rfl,ih.2⟩
 apply lZ ⟨K,hd,hn,ho,hu,hi,v⟩ (by rw[hx];exact uX N) hd2 g1 Z (A y).2 B;rw[List.drop_eq_nil_of_le Z,List.append_nil];have v:Kp b h (upd h b (ξ (.row p e1))):=⟨λc hc=>zm hc,_,_,g1,G⟩;have t:Tr n h n (upd h b (ξ (.row p e1))):=Tr.s v (Tr.refl _ _);exact k _ ⟨I,p,e1,zg _ _ _,(A y).1,y.mono λ_ _ r=>r.t t⟩ v
end
section
variable{t:TF}{n:Nat}
def dM{l c}(p:zh ops t o=φ:=by rfl)(hd:o.dst=ξ d:=by rfl)(hn:zv nt (ξ d)=φ:=by rfl)(ho:o.op=.makeSlice ty l c:=by rfl)(hu:Kc.und ty=ξ (.slice e):=by rfl)(hi:Kc.inf e=ξ (4,bt,z):=by rfl)(hz:zn z=[.bool χ,.slice θ 0 0,.bool χ,.slice θ 0 0]:=by rfl)(hl:J2 t l=.int ik (L:Int):=by rfl)(hc:J2 t c=.int ik' (L:Int):=by rfl)(h1:L<=L/\L*bt<=1099511627776/\L<=1099511627776:=by omega)(k:∀h',h' (3*n+2)=ξ (.row (rep L [.bool χ,.slice θ 0 0,.bool χ,.slice θ 0 0]) e)->J3 n h h'->ED (KC kk n0 nt) ops r ms (i+1) ⟨⟨upd t d (.slice (ξ ⟨3*n+2,0,θ⟩) L L),h',n+1,w⟩,(i,3*n+2)::al,ld,ef⟩ Q):ED (KC kk n0 nt) ops (o::r) (m::ms) i ⟨⟨t,h,n,w⟩,al,ld,ef⟩ Q:=by
 have g:Kl Kc o.op (J2 t)=ξ ⟨rep L (zn z),e,χ,ξ (L,L)⟩:=by
  rw[ho];show tn Kc ty (J2 t l) (J2 t c)=_;rw[hl,hc];have c1:=Nat.ble_eq_true_of_le h1.1;have c2:=Nat.ble_eq_true_of_le h1.2.1;have a:=Nat.ble_eq_true_of_le h1.2.2;have f:Nat.beq (zn z).length 4=φ:=by rw[hz];rfl
  show(match Kc.und ty,Value.int ik (.ofNat L),Value.int ik' (.ofNat L)with|some (.slice e),.int _ (.ofNat len),.int _ (.ofNat cap)=>_|_,_,_=>θ)=_;simp only[hu,hi,c1,c2,a,f,Bool.and_self]
 exact Pl p hd hn (by rw[ho];rfl) g (k _ (by rw[<-hz];exact zg _ _ _) (J3.upd (show 3*n<=3*n+2 from Z)))
def dO{a}{b}{qs}{f}(g:OQ h n b qs)(hj:j<qs.length)(A:IW h n b1 a1 l1 c1 q.num)(B:IW h n f e1 f1 g1 (denZ q))(y:zh ops t o=φ:=by rfl)(hd:o.dst=θ:=by rfl)(ho:o.op=.store ty a x:=by rfl)(hi:Kc.inf ty=ξ (4,bt,z):=by rfl)(ha:J2 t a=.pointer (ξ ⟨b,0+j*4,θ⟩):=by rfl)(hx:J2 t x=.agg #[.bool b1,.slice a1 l1 c1,.bool f,.slice e1 f1 g1]:=by rfl)(hnew:3*n0<=b:=by omega)(h1:xq m ef=φ:=by rfl)(h2:xJ m al=φ:=by rfl)(h3:ya m [b] ld=φ:=by first|exact rfl|(repeat (first|exact rfl|(apply Sg;omega))))(k:∀h',OQ h' n b (qs.set j q)->Kp b h h'->ED (KC kk n0 nt) ops r ms (i+1) ⟨⟨t,h',n,w⟩,al,ld,(i,h,[b])::ef⟩ Q):ED (KC kk n0 nt) ops (o::r) (m::ms) i ⟨⟨t,h,n,w⟩,al,ld,ef⟩ Q:=by have l:=g;have⟨G,C,e,p,H,F⟩:=g;have v:=F.len;refine jX (cs:=[.bool b1,.slice a1 l1 c1,.bool f,.slice e1 f1 g1]) ⟨y,hd,ho,hi,ha,(by rw[hx];rfl),ω⟩ ω p Z hnew ⟨h1,h2,h3⟩ ?_;rw[Nat.zero_add];have s:=l.set p hj ⟨_,_,_,_,_,_,_,_,ω,A,B⟩ (zg _ _ _) (λc u=>zm u);exact k _ s.1 s.2
end
def cutS{α:Type}(live:α->List (Nat×ψ))(I:α->HF->Nat->List Nat->Prop)(s:SV):Prop:=∃z,tJ s.t (live z)/\I z s.h s.n s.w
def NT{a}{I}{s}(z:α)(f:I z s.h s.n s.w)(c:tJ s.t (a z):=by(repeat (first|exact trivial|refine⟨ω,?_⟩))):cutS a I s:=⟨z,c,f⟩
def UG{X}{ops r}{s}{Q:SV->Prop}(a)(I:α->HF->Nat->List Nat->Prop)(l:EO X ops r s (cutS a I))(hb:∀z t h n w,I z h n w->Q ⟨gk t (a z),h,n,w⟩):EO X ops r s Q:=
 Xe l λc⟨z,f,g⟩=>by
  have:=hb z c.t c.h c.n c.w g;rw[wU f]at this;exact this
end
section
variable{cq n:Nat}{sq:Bool}
def UH(k){x1 m x2 o}{p}{s}{lo}(v1:x1=φ↔lo≠[])(i1:IW h n b1 a1 l1 c1 (zj lo).num)(j1:IW h n m e1 f1 g1 (denZ (zj lo)))(v2:x2=φ↔hi≠[])(i2:IW h n b2 a2 l2 c2 (zj hi).num)(j2:IW h n o p f2 s (denZ (zj hi)))(j:IW h n sq aq lq cq q.num)(l:IW h n dq eq fq gq (denZ q)):VF (J4 (k+3)) 84 [.agg #[Y aA lA kA,U x1,U b1,Y a1 l1 c1,U m,Y e1 f1 g1,U x2,U b2,Y a2 l2 c2,U o,Y p f2 s],.agg #[U sq,Y aq lq cq,U dq,Y eq fq gq]] h n λv=>∃b:Bool,v=U b/\(b=φ↔dirB q lo hi):=by
 apply zO R4;apply(zG);apply sB [Y aA lA kA,U x1,U b1,Y a1 l1 c1,U m,Y e1 f1 g1,U x2,U b2,Y a2 l2 c2,U o,Y p f2 s];intro u I P;apply sB [U sq,Y aq lq cq,U dq,Y eq fq gq];intro w J R;apply(zG);cases x1;apply(zG);cases x2;apply(zf);exact Ki (⟨.inl (Lm v1),.inl (Lm v2)⟩);apply(zG);apply sC (fD _ j.x l.x);rintro _ y D⟨K,rfl,g⟩ W S;obtain⟨rfl,g⟩|⟨rfl,g⟩|⟨rfl,g⟩:=g;apply(zf);exact Ki (⟨.inl (Lm v1),.inr Z⟩);apply(zf);exact Ki (⟨.inl (Lm v1),.inr Z⟩);apply(zf);exact J8 λd=>by obtain d|d:=d.2;exact Cu d (neOf v2);omega
 apply(zG);apply sC (fD _ j.x l.x);rintro _ A F⟨M,rfl,i⟩ Z3 T;obtain⟨rfl,i⟩|⟨rfl,i⟩|⟨rfl,i⟩:=i;apply(zf);exact J8 λd=>by obtain d|d:=d.1;exact Cu d (neOf v1);omega
 apply(zG);cases x2;apply(zf);exact Ki (⟨.inr Z,.inl (Lm v2)⟩);apply(zG);apply sC (fD _ j.x l.x);rintro _ B G⟨N,rfl,e⟩ Z0 Z4;obtain⟨rfl,e⟩|⟨rfl,e⟩|⟨rfl,e⟩:=e;exact Cu e Z;apply(zf);exact Ki (⟨.inr Z,.inr Z⟩);exact Cu e Z;apply(zG);cases x2;apply(zf);exact Ki (⟨.inr Z,.inl (Lm v2)⟩);apply(zG);apply sC (fD _ j.x l.x);rintro _ C H⟨Z1,rfl,f⟩ a0 V;obtain⟨rfl,f⟩|⟨rfl,f⟩|⟨rfl,f⟩:=f;exact Cu f Z;exact Cu f Z;apply(zf);exact J8 λd=>by obtain d|d:=d.2;exact Cu d (neOf v2);omega
def zz6(k)(g:GG h n){cs}(io:QS h n (Y ao lo co) ob)(ir:Kx h n (Y ar lr cr) rs)(ic:Kx h n (Y ac lc cc) cs)(ix:QS h n (Y ax lx cx) xs)(dp:Mt a rs)(dn:Mt a cs)(B:Qk a L rs)(bm:∀q∈xs,Sz b q)(d0:O cs<=O xs)(hL:L<=O xs)(cz:O cs<1000000/\O rs<1000000)(b5:L<1000000)(hc:∀d∈rs,∀j,j<=O d.A->Sz c (dotR (d.A.take j) (xs.take j)))(cw:c+b+a<=1900):VF (J4 (k+13)) 79 [.agg #[Y ao lo co,Y ar lr cr,Y ac lc cc],Y ax lx cx,.func (.func 84) #[] #[]] h n λv=>∃b:Bool,v=U b/\(b=φ↔hS (λd q=>dirB q d.lo d.hi) cs xs/\∀d∈rs,rowH dirB xs d):=by have d7:=ir.len;have d6:=ic.len;have d8:=ix.len;apply zO R4;apply(zG);apply sB [Y ao lo co,Y ar lr cr,Y ac lc cc];intro b3 di du;apply(zG);apply sF (α:=Nat) (λz=>[(1,Y ax lx cx),(2,.func (.func 84) #[] #[]),(3,ε (3*n+2)),(12,Y ac lc cc),(13,υ (lc:Int)),(14,υ (z:Int))]) (λz h' n' w'=>w'=[]/\n+1<=n'/\ExtB (n+1) [] b3 h'/\z<=O cs/\hT (λd q=>dirB q d.lo d.hi) cs xs z) (λz=>O cs-z) 0 ⟨ω,Cy,Ed _ _ _,Cz,(hT.zero _ _)⟩;rintro j t b4 a5 _⟨rfl,e2,c0,hj,f⟩;(try dsimp only at hj f);apply(zG);by_cases q13:(j:Int)<(lc:Int);apply(zG);obtain⟨cd,s⟩:∃d,(cs)[j]?=ξ d:=⟨_,CD Z⟩;have⟨d1,dd,a6,ah,af,aa,an,al,be,au,bq,bs,bu,bw,o,H,F,R,J,T,V,Z3,a0,aw,bg,bj,bn,bz,aj,b6,ba,C,M,Z1⟩:=Kx.at ic s;apply sI aw bj;apply sL bn bg 0;apply(sA);intro ck dj dv;apply(zG);apply sS [Y a6 ah af,U aa,U an,Y al be au,U bq,Y bs bu bw,U o,U H,Y F R J,U T,Y V Z3 a0];intro cl dk de;apply(Zd);apply yQ (v:=.func (.func 84) #[] #[]) R5;apply(zH);obtain⟨ce,u⟩:∃d,(xs)[j]?=ξ d:=⟨_,CD Z⟩;have⟨d2,df,c6,c4,d4,ca,dr,ds,dt,dw,az,bh,bk,bo,b7,bb⟩:=QS.at ix u;apply dI az bk;apply dL bo bh 0;apply dC ((UH _ aj b6.x ba.x C M.x Z1.x b7.x bb.x).cx);rintro _ cm d9⟨c7,rfl,a8⟩ e3 dx;obtain⟨rfl,w⟩|⟨rfl,w⟩:=J7 a8;apply(zf);exact J8 λm=>Cu (m.1 _ _ _ s u) w;apply(zJ);exact sK (j+1) ⟨ω,Z,zy,Z,(f.step s u w)⟩;apply(zG);have ad:=f.all (.inl Z);apply(zG);apply sF (α:=Nat) (λz=>[(1,Y ax lx cx),(2,.func (.func 84) #[] #[]),(29,Y ar lr cr),(30,υ (lr:Int)),(31,υ (z:Int))]) (λz h' n' w'=>w'=[]/\a5<=n'/\ExtB a5 [] b4 h'/\z<=O rs/\∀d∈rs.take z,rowH dirB xs d) (λz=>O rs-z) 0 ⟨ω,Cy,Ed _ _ _,Cz,(λr hr=>Cu hr eC)⟩;rintro i t cn da _⟨rfl,e4,c3,a4,l⟩;(try dsimp only at a4 l);apply(zG);by_cases q20:(i:Int)<(lr:Int);apply(zG);obtain⟨cf,e⟩:∃d,(rs)[i]?=ξ d:=⟨_,CD Z⟩;have⟨d3,dg,a7,ai,ag,ab,ap,am,bf,av,br,bt,bv,bx,p,I,G,S,K,Z4,W,Z0,a3,b0,bi,bl,bp,ae,ak,b8,bc,D,N,P⟩:=Kx.at ir e;apply sI b0 bl;apply sL bp bi 0;apply(sA);intro cp dl dy;apply sS [Y a7 ai ag,U ab,U ap,Y am bf av,U br,Y bt bv bx,U p,U I,Y G S K,U Z4,Y W Z0 a3];intro ct dm dh;apply(Zd);apply yQ (v:=.func (.func 84) #[] #[]) R5;apply(zH);apply dC (Ng _ g.x ae.x ix.x (B _ (CE e)).1 bm (by have:=(B _ (CE e)).2;omega) (hc _ (CE e)) Z (by have:=(B _ (CE e)).2;have:=b5;omega));rintro _ cu db⟨c8,c5,d5,cb,cg,ch,ci,cj,rfl,b9,bd⟩ e5 dz;apply dC ((UH _ ak b8.x bc.x D N.x P.x b9 bd).cx);rintro _ cv dc⟨c9,rfl,a9⟩ e6 e0;obtain⟨rfl,y⟩|⟨rfl,y⟩:=J7 a9;apply(zf);exact J8 λm=>Cu (m.2 _ (CE e)) y;apply(zJ);exact sK (i+1) ⟨ω,Z,zy,Z,(ot l e y)⟩;apply(zf);exact Ki (⟨ad,by have m:=l;rw[CL Z]at m;exact m⟩)
def UJ(k)(A:QS h n (Y ax lx cx) xs)(B:QS h n (Y ay ly cy) ys)(K:∀q∈xs,Sz a q)(M:∀q∈ys,Sz b q)(hl:O xs<=O ys)(hb:O xs<1000000)(ad:a+b<=2400):VF (J4 (k+6)) 82 [Y ax lx cx,Y ay ly cy] h n λv=>∃b:Bool,v=U b/\(b=φ↔hS Eq xs ys):=by have ah:=A.len;have ai:=B.len;apply zO R4;apply(zG);apply sF (α:=Nat) (λz=>[(1,Y ay ly cy),(7,Y ax lx cx),(8,υ (lx:Int)),(9,υ (z:Int))]) (λz Z4 W Z3=>Z3=[]/\n<=W/\ExtB n [] h Z4/\z<=O xs/\hT Eq xs ys z) (λz=>O xs-z) 0 ⟨ω,Cy,Ed _ _ _,Cz,(hT.zero _ _)⟩;rintro j t a8 aj _⟨rfl,b5,Z0,hj,g⟩;(try dsimp only at hj g);apply(zG);by_cases q12:(j:Int)<(lx:Int);apply(zG);obtain⟨a6,e⟩:∃d,(xs)[j]?=ξ d:=⟨_,CD Z⟩;have⟨ae,al,o,m,F,p,P,R,S,T,s,G,I,N,w,C⟩:=QS.at A e;apply sI s I;apply sL N G 0;apply(sA);intro a9 ap b0;apply(zG);apply sS [U o,Y m F p,U P,Y R S T];intro aa au am;apply(Zh);obtain⟨a7,f⟩:∃d,(ys)[j]?=ξ d:=⟨_,CD Z⟩;have⟨af,an,a3,a0,ag,a5,av,aw,az,b3,u,H,J,Z1,y,D⟩:=QS.at B f;apply dI u J;apply dL Z1 H 0;apply dC ((zy2 _ w.x C.x y.x D.x (K _ (CE e)) (M _ (CE f)) Z).cx);rintro _ ab ak⟨a4,rfl,l⟩ b6 b4;obtain⟨rfl,i⟩|⟨rfl,i⟩:=J7 l;apply(zf);exact J8 λV=>Cu (V _ _ _ e f) i;apply(zJ);exact sK (j+1) ⟨ω,Z,zy,Z,(g.step e f i)⟩;apply(zf);exact Ki (g.all (.inl Z))
end
section
variable{n:Nat}
def UK(k)(g:GG h n){cs}(io:QS h n (Y ao lo co) ob)(ir:Kx h n (Y ar lr cr) rs)(ic:Kx h n (Y ac lc cc) cs)(ix:QS h n (Y ax lx cx) xs)(iy:QS h n (Y ay ly cy) ys)(Z4:∀d∈rs,∀q∈d.A,Sz a q)(Z0:∀q∈xs,Sz b q)(e8:∀q∈ys,Sz b q)(av:∀d∈rs,O d.A=O cs)(dc:O xs=O rs)(dd:O ys=O cs)(db:O cs<1000000/\O rs<1000000)(hz:Nl c rs xs ys)(hb:c+(a+b)+1<=2496):CX (J4 (k+11)) 83 [.agg #[Y ao lo co,Y ar lr cr,Y ac lc cc],Y ax lx cx,Y ay ly cy] h n λv p s=>∃a l c,v=Y a l c/\QS p s (Y a l c) (KB rs xs ys (O rs) 0):=by have dr:=ir.len;have dq:=ic.len;have ds:=ix.len;have dt:=iy.len;apply zw R4;apply(zG);apply sB [Y ao lo co,Y ar lr cr,Y ac lc cc];intro d5 e3 ei;apply(zG);apply(sM);intro al W ej;obtain⟨e,eB⟩:∃b,b=3*(n+1)+2:=⟨_,ω⟩;have a2:OQ al (n+1+1) e (CI lc 0):=eB▸OQ.zeros Z W;rw[<-eB];apply(zG);apply sY a2 iy.x aD Z;intro am a3 dv;apply(zG);apply sF (α:=Nat) (λz=>[(1,Y ax lx cx),(6,η),(7,Y (ξ ⟨e,0,θ⟩) lc lc),(20,Y ar lr cr),(21,υ (lr:Int)),(22,υ (z:Int))]) (λz p s w'=>w'=[]/\n+1+1<=s/\ExtB (n+1+1) [e] am p/\OQ p s e (KB rs xs ys z 0)/\z<=O rs) (λz=>O rs-z) 0 ⟨ω,Cy,Ed _ _ _,(a3.as zwj.symm),Cz⟩;rintro i t an bh _⟨rfl,es,c5,o,hi⟩;(try dsimp only at o hi);apply(zG);by_cases q15:(i:Int)<(lr:Int);apply(zG);obtain⟨ag,m⟩:∃d,(rs)[i]?=ξ d:=⟨_,CD Z⟩;have⟨dg,dw,D,f,J,a1,ab,a9,ba,ae,bs,bu,bx,c0,F,L,K,N,M,Z1,P,R,S,ah,bc,bj,bn,I,c4,de,df,bw,c2,c3⟩:=Kx.at ir m;apply sI ah bj;apply sL bn bc 0;apply(sA);intro d6 e4 ek;apply(zG);apply sS [Y D f J,U a1,U ab,Y a9 ba ae,U bs,Y bu bx c0,U F,U L,Y K N M,U Z1,Y P R S];intro d7 e5 dx;apply(zG);obtain⟨cp,T⟩:∃d,(xs)[i]?=ξ d:=⟨_,CD Z⟩;have⟨dh,dy,cd,c7,dk,cj,e9,ec,ef,el,ai,bd,bk,bo,aw,b4⟩:=QS.at ix T;apply sI ai bk;apply sL bo bd 0;apply sC (kD _ aw.x b4.x);rintro _ H B⟨ce,rfl,a0⟩ et em;obtain⟨rfl,Z3⟩|⟨rfl,Z3⟩:=J7 a0;apply(zG);have la:=I.len;have lb:=av _ (CE m);have a4:OQ H B e (KB rs xs ys i 0):=o.go zt OW;apply sF (α:=Nat) (λz=>[(1,Y ax lx cx),(6,η),(7,Y (ξ ⟨e,0,θ⟩) lc lc),(8,υ (i:Int)),(20,Y ar lr cr),(21,υ (lr:Int)),(22,υ (i:Int)),(33,Y D f J),(34,υ (f:Int)),(35,υ (z:Int))]) (λz p s w'=>w'=[]/\B<=s/\ExtB B [e] H p/\OQ p s e (KB rs xs ys i z)/\z<=O ys) (λz=>O ys-z) 0 ⟨ω,Cy,Ed _ _ _,a4,Cz⟩;rintro j t ap V _⟨rfl,eu,c6,C,hj⟩;(try dsimp only at C hj);apply(zG);by_cases q23:(j:Int)<(f:Int);apply(zG);obtain⟨cq,w⟩:∃d,(ag.A)[j]?=ξ d:=⟨_,CD Z⟩;have⟨di,dz,ad,aa,bb,af,bt,bv,bz,c1,aj,be,bl,bp,az,b5⟩:=QS.at I w;apply sI aj bl;apply sL bp be 0;apply(sA);intro d8 e6 en;apply(zG);apply sS [U ad,Y aa bb af,U bt,Y bv bz c1];intro aq e7 e0;apply(Zh);have u:OQ aq (V+1) e (KB rs xs ys i j):=C.go zt OW;obtain⟨ct,G⟩:∃d,(KB rs xs ys i j)[j]?=ξ d:=⟨_,CD (by rw[mN];omega)⟩;have⟨cf,c8,dl,ck,ea,ed,eg,eo,bq,b0,b6⟩:=u.at G;have bf:=u.1;apply dI ω (show j<lc from Z);apply dL bq bf 0;apply(zH);obtain⟨cu,y⟩:∃d,(xs)[i]?=ξ d:=⟨_,CD Z⟩;have⟨dj,e1,cg,c9,dm,cl,eb,ee,eh,ep,ak,bg,bm,br,b1,b7⟩:=QS.at ix y;apply dI ak bm;apply dL br bg 0;apply dC (mulQ _ g.x az.x b5.x b1.x b7.x (Z4 _ (CE m) _ (CE w)) (Z0 _ (CE y)) Z);rintro _ d9 du⟨ch,ca,dn,cm,cv,cz,d1,d3,rfl,b2,b8⟩ ev eq;apply dC (addQ _ g.x b0.t b6.t b2 b8 (Qj hz (.inl Z) _ (CE G)) ((Z4 _ (CE m) _ (CE w)).mul (Z0 _ (CE y))) Z);rintro _ au bi⟨ci,cb,dp,cn,cw,d0,d2,d4,rfl,b3,b9⟩ ew er;apply dI ω (show j<lc from Z);have a5:OQ au bi e (KB rs xs ys i j):=u.go zt OW;apply dO (j:=j) a5 (by rw[mN];omega) b3 b9;intro da a6 e2;have a8:=a6.as (zxk G m w y);apply(zG);exact sK (j+1) ⟨ω,Z,zy,a8,Z⟩;apply(zG);have oe:=C.as (zwl Z);apply(zG);exact sK (i+1) ⟨ω,Z,zy,oe,Z⟩;apply(zG);have a7:OQ H B e (KB rs xs ys i 0):=o.go zt OW;exact sK (i+1) ⟨ω,Z,zy,(a7.as (zwk T Z3)),Z⟩;apply(zq);exact⟨_,_,_,ω,(o.as aD).sl (by rw[mN];omega) Cy⟩
end
def UL(p:LPD)(R C:List (List UInt8))(W:List Rat):Prop:=hS Eq (KB (zk p) (R.map zj) (C.map zj) (O (zk p)) 0) W
def dirP(p:LPD)(Z3:List (List UInt8)):Prop:=hS (λd q=>dirB q d.lo d.hi) (zC p) (Z3.map zj)/\∀d∈zk p,rowH dirB (Z3.map zj) d
structure PR1 (p:LPD)(V:List UInt8)(X Z3 R C:List (List UInt8)):Prop where
 ax:allN X
 lx:O X=O p.obj
 fx:feaP p X
 ar:allN R
 lr:O R=O p.rows
 ac:allN C
 lc:O C=O p.obj
 ly:O Z3=0
 vx:ratT (valQ p X)=V
 bo:bndP p R C
 vb:ratT (bndQ p R C)=V
 co:UL p R C (p.obj.map zj)
structure PR2 (p:LPD)(V:List UInt8)(X Z3 R C:List (List UInt8)):Prop where
 ar:allN R
 lr:O R=O p.rows
 ac:allN C
 lc:O C=O p.obj
 lx:O X=0
 ly:O Z3=0
 v0:V=[]
 bo:bndP p R C
 sb:0<(bndQ p R C).num
 co:UL p R C (CI (O p.obj) 0)
structure PR3 (p:LPD)(V:List UInt8)(X Z3 R C:List (List UInt8)):Prop where
 ax:allN X
 lx:O X=O p.obj
 fx:feaP p X
 ay:allN Z3
 ly:O Z3=O p.obj
 lr:O R=0
 lc:O C=0
 v0:V=[]
 sy:(valQ p Z3).num<0
 dy:dirP p Z3
def Mb(p:LPD)(o:Int)(V:List UInt8)(X Z3 R C:List (List UInt8)):Prop:=o=1/\PR1 p V X Z3 R C\/o=2/\PR2 p V X Z3 R C\/o=3/\PR3 p V X Z3 R C
section
variable{p:LPD}{o:Int}{X Z3 R C:List (List UInt8)}
def KK(h:o=1):Mb p o V X Z3 R C↔PR1 p V X Z3 R C:=⟨λa=>by obtain a|a|a:=a;exact a.2;omega;omega,λa=>.inl ⟨h,a⟩⟩
def KS(h:o=2):Mb p o V X Z3 R C↔PR2 p V X Z3 R C:=⟨λa=>by obtain a|a|a:=a;omega;exact a.2;omega,λa=>.inr (.inl ⟨h,a⟩)⟩
def KM(h:o=3):Mb p o V X Z3 R C↔PR3 p V X Z3 R C:=⟨λa=>by obtain a|a|a:=a;omega;omega;exact a.2,λa=>.inr (.inr ⟨h,a⟩)⟩
def PR1.len(y:PR1 p V X Z3 R C):O X=O p.obj/\O R=O p.rows/\O C=O p.obj/\O Z3=0:=⟨y.lx,y.lr,y.lc,y.ly⟩
def PR2.len(y:PR2 p V X Z3 R C):O X=0/\O R=O p.rows/\O C=O p.obj/\O Z3=0/\O V=0:=⟨y.lx,y.lr,y.lc,y.ly,congrArg O y.v0⟩
def PR3.len(y:PR3 p V X Z3 R C):O X=O p.obj/\O R=0/\O C=0/\O Z3=O p.obj/\O V=0:=⟨y.lx,y.lr,y.lc,y.ly,congrArg O y.v0⟩
def NU(h:O S=0):allN S:=λs a=>by rw[CT.1 h]at a;cases a
def OX(h:Mb p o V X Z3 R C):allN X/\allN Z3/\allN R/\allN C:=by obtain⟨_,h⟩|⟨_,h⟩|⟨_,h⟩:=h;exact⟨h.ax,NU h.ly,h.ar,h.ac⟩;exact⟨NU h.lx,NU h.ly,h.ar,h.ac⟩;exact⟨h.ax,h.ay,NU h.lr,NU h.lc⟩
end
def dotZ(c:Nat)(p:LPD)(X:List Rat):Prop:=(∀j,j<=O (p.obj.map zj)->Sz c (dotR ((p.obj.map zj).take j) (X.take j)))/\∀d∈zk p,∀j,j<=O d.A->Sz c (dotR (d.A.take j) (X.take j))
def dotZ.val{p}{X}(h:dotZ c p (X.map zj)):Sz c (valQ p X):=by have:=h.1 _ Cy;rw[C3]at this;exact this
def sumZ.bnd{p}{R C}(h:sumZ c (zk p) (zC p) (R.map zj) (C.map zj)):Sz c (bndQ p R C):=by have:=h.2 _ Cy;rw[C3]at this;exact this
structure CkZ (p:LPD)(V:List UInt8)(X Z3 R C:List (List UInt8)):Prop where
 tX:∀s∈X,Kg 822 s
 tY:∀s∈Z3,Kg 568 s
 tR:∀s∈R,Kg 700 s
 tC:∀s∈C,Kg 700 s
 lX:O X<1000000/\O Z3<1000000/\O R<1000000/\O C<1000000/\O V<1000000
 zX:O X=O p.obj->dotZ 1045 p (X.map zj)
 zY:O Z3=O p.obj->dotZ 1300 p (Z3.map zj)
 zS:O R=O p.rows->O C=O p.obj->sumZ 1760 (zk p) (zC p) (R.map zj) (C.map zj)/\Nl 1760 (zk p) (R.map zj) (C.map zj)
section
variable{cq n:Nat}{sq:Bool}{ms:List Rat}{p:LPD}
def UM(k)(m:UI h n sq aq lq cq q.num)(o:UI h n dq eq fq gq (denZ q)){lo}:VF (J4 (k+3)) 92 [.agg #[U sq,Y aq lq cq,U dq,Y eq fq gq],CG ⟨⟨lo⟩⟩,CG ⟨⟨hi⟩⟩] h n λv=>∃b:Bool,v=U b/\(b=φ↔dirB q lo hi):=by
 apply zO R4;apply(zG);apply sB [U sq,Y aq lq cq,U dq,Y eq fq gq];intro s G L;apply(zG);by_cases q12:lo=[];apply un φ R6 AZ;apply(zG);by_cases q13:hi=[];apply un φ R6 A0;apply(zf);exact Ki (⟨.inl (q12),.inl (q13)⟩);apply un χ R6 A0;apply(zG);apply sC (LC _ m.x o.x);rintro _ u B⟨H,rfl,g⟩ R M;obtain⟨rfl,g⟩|⟨rfl,g⟩|⟨rfl,g⟩:=g;apply(zf);exact Ki (⟨.inl (q12),.inr Z⟩);apply(zf);exact Ki (⟨.inl (q12),.inr Z⟩);apply(zf);exact J8 λd=>by obtain d|d:=d.2;exact Cu d q13;omega
 apply un χ R6 AZ;apply(zG);apply sC (LC _ m.x o.x);rintro _ w C⟨I,rfl,l⟩ S N;obtain⟨rfl,l⟩|⟨rfl,l⟩|⟨rfl,l⟩:=l;apply(zf);exact J8 λd=>by obtain d|d:=d.1;exact Cu d q12;omega
 apply(zG);by_cases q16:hi=[];apply un φ R6 (by simp[q16]);apply(zf);exact Ki (⟨.inr Z,.inl (q16)⟩);apply un χ R6 (by simp[q16]);apply(zG);apply sC (LC _ m.x o.x);rintro _ y D⟨J,rfl,e⟩ T Z1;obtain⟨rfl,e⟩|⟨rfl,e⟩|⟨rfl,e⟩:=e;exact Cu e Z;apply(zf);exact Ki (⟨.inr Z,.inr Z⟩);exact Cu e Z;apply(zG);by_cases q18:hi=[];apply un φ R6 (by simp[q18]);apply(zf);exact Ki (⟨.inr Z,.inl (q18)⟩);apply un χ R6 (by simp[q18]);apply(zG);apply sC (LC _ m.x o.x);rintro _ A F⟨K,rfl,f⟩ Z4 P;obtain⟨rfl,f⟩|⟨rfl,f⟩|⟨rfl,f⟩:=f;exact Cu f Z;exact Cu f Z;apply(zf);exact J8 λd=>by obtain d|d:=d.2;exact Cu d q18;omega
def Qp{cs}{c}(h:cs[k]?=ξ c):(KB rs ms cs i 0)[k]?=ξ (colQ rs ms c k i):=by rw[LU h,Cv (DM _)]
def UN{c}{d}{a m}(e:rs[i]?=ξ d)(f:d.A[j]?=ξ a)(h3:ms[i]?=ξ m):colQ rs ms c j i+m*a=colQ rs ms c j (i+1):=by rw[FZ,Up e f h3]
def UO(k)(io:Sl h n 1 (Y ao lo co) (strs p.obj))(ir:Kt h n (Y ar lr cr) p.rows)(iw:Sl h n 1 (Y aw lw cw) (strs p.lower))(iu:Sl h n 1 (Y au lu cu) (strs p.upper))(hp:LPB a p)(ha:a+a<=2000)(hv:VLP p){zs}(ix:NS h n (Y ax lx cx) xs)(iy:NS h n (Y ay ly cy) ys)(iz:NS h n (Y az lz cz) zs){e}(a1:∀q∈xs,Sz b q)(bd:∀q∈zs,Sz e q)(cv:O xs=O p.rows)(d0:O ys=O p.obj)(d1:O zs=O p.obj)(hz:Nl c (zk p) xs ys)(hb:c+(a+b)+1<=2496)(cj:c+e+1<=2496):VF (J4 (k+9)) 90 [.agg #[Y ao lo co,Y ar lr cr,Y aw lw cw,Y au lu cu],Y ax lx cx,Y ay ly cy,Y az lz cz] h n λv=>∃b:Bool,v=U b/\(b=φ↔hS Eq (KB (zk p) xs ys (O (zk p)) 0) zs):=by
 have o:=jJ p;have dc:=z8 io;have dd:=ir.len;have df:=z8 iw;have de:=z8 iu;have⟨cs,ck,ct,J,cl,cm,cn,cp⟩:=hp;have dg:=ix.len;have dh:=iy.len;have di:=iz.len;apply zO R4;apply(zG);apply sB [Y ao lo co,Y ar lr cr,Y aw lw cw,Y au lu cu];intro ad dw e5;apply(zG);apply sF (α:=Nat) (λz=>[(1,Y ax lx cx),(2,Y ay ly cy),(3,Y az lz cz),(4,ε (3*n+2)),(9,υ (z:Int))]) (λz G K w'=>w'=[]/\n+1<=K/\ExtB (n+1) [] ad G/\z<=O ys/\hT Eq (KB (zk p) xs ys (O (zk p)) 0) zs z) (λz=>O ys-z) 0 ⟨ω,Cy,Ed _ _ _,Cz,(hT.zero _ _)⟩;rintro j t cc w _⟨rfl,ed,bl,hj,D⟩;(try dsimp only at hj D);apply(zG);by_cases q13:(j:Int)<(ly:Int);apply(zG);obtain⟨C,s⟩:∃d,(ys)[j]?=ξ d:=⟨_,CD Z⟩;have⟨d2,dn,N,L,Z3,P,a2,a3,a4,a5,a8,b1,b8,be,af,al⟩:=NS.at iy s;apply sI a8 b8;apply sL be b1 0;apply(sA);intro cd dx e6;apply sS [U N,Y L Z3 P,U a2,Y a3 a4 a5];intro ae b6 dp;apply(zG);apply sF (α:=Nat×Bool×Option Addr×Nat×Nat×Bool×Option Addr×Nat×Nat) (λz=>[(1,Y ax lx cx),(2,Y ay ly cy),(3,Y az lz cz),(4,ε (3*n+2)),(9,υ (j:Int)),(10,ε (3*w+2)),(11,υ (z.1:Int))]) (λz G K w'=>w'=[]/\w+1<=K/\ExtB (w+1) [3*w+2] ae G/\G (3*w+2)=ξ (.row [U z.2.1,Y z.2.2.1 z.2.2.2.1 z.2.2.2.2.1,U z.2.2.2.2.2.1,Y z.2.2.2.2.2.2.1 z.2.2.2.2.2.2.2.1 z.2.2.2.2.2.2.2.2] 119)/\UI G K z.2.1 z.2.2.1 z.2.2.2.1 z.2.2.2.2.1 ((colQ (zk p) xs C j z.1).num)/\UI G K z.2.2.2.2.2.1 z.2.2.2.2.2.2.1 z.2.2.2.2.2.2.2.1 z.2.2.2.2.2.2.2.2 (denZ (colQ (zk p) xs C j z.1))/\z.1<=O xs) (λz=>O xs-z.1) (0,N,L,Z3,P,a2,a3,a4,a5) ⟨ω,Cy,Ed _ _ _,b6,af.x,al.x,Cz⟩;rintro⟨i,bS,aS,lS,kS,uS,vS,wS,xS⟩ t H a0 _ ⟨rfl,ee,bm,F,f,g,hi⟩;(try dsimp only at F f g hi);apply(zG);by_cases q18:(i:Int)<(lx:Int);apply(Zh);obtain⟨c2,y⟩:∃d,(xs)[i]?=ξ d:=⟨_,CD Z⟩;have⟨d3,dr,bs,bn,d7,bw,dz,e1,e3,e7,a9,b2,b9,bf,ag,am⟩:=NS.at ix y;apply dI a9 b9;apply dL bf b2 0;apply(zH);obtain⟨a6,m⟩:∃d,(p.rows)[i]?=ξ d:=⟨_,CD Z⟩;have⟨d4,ds,bo,d8,bx,aa,b3,ba,bg,W⟩:=Kt.at ir m;have bj:=z8 W;have bk:=(hv.rw _ (CE m)).2.2;apply dI aa ba;apply(zH);apply dL bg b3 0;apply(zH);obtain⟨a7,u⟩:∃d,(a6.A)[j]?=ξ d:=⟨_,CD Z⟩;have⟨d5,dt,ab,b4,bb,bh⟩:=vM W u;apply dI ab bb;apply dL bh b4 0;apply dC (numU _ _ _ a7 (CS ((J _ (CE m)).2.2.2 _ (CE u)).1 zd));rintro _ ce dj⟨bt,bp,d9,bz,c3,c6,c8,ca,rfl,ah,an⟩ ef e8;apply dC (OB _ ag.x am.x ah an (a1 _ (CE y)) ((J _ (CE m)).2.2.2 _ (CE u)).2 Z);rintro _ cf dk⟨bu,bq,da,c0,c4,c7,c9,cb,rfl,ai,ap⟩ eg e9;apply dC (OA _ f.t g.t ai ap (hz _ _ s _ (by rw[o];omega)) ((a1 _ (CE y)).mul ((J _ (CE m)).2.2.2 _ (CE u)).2) Z);rintro _ cg dl⟨Z1,M,Z0,R,S,T,Z4,V,rfl,aj,av⟩ eh ea;apply dS [U Z1,Y M Z0 R,U S,Y T Z4 V];intro ch b7 du;apply(zG);exact sK (i+1,Z1,M,Z0,R,S,T,Z4,V) ⟨ω,Z,zy,b7,(aj.t.as (congrArg Rat.num (UN (LF m) (OO u) y))),(av.t.as (congrArg denZ (UN (LF m) (OO u) y))),Z⟩;apply(zG);have I:i=O p.rows:=Z;apply(zl);apply(zH);obtain⟨c5,B⟩:∃d,(zs)[j]?=ξ d:=⟨_,CD Z⟩;have⟨d6,dv,bv,br,db,c1,e0,e2,e4,eb,ac,b5,bc,bi,ak,b0⟩:=NS.at iz B;apply dI ac bc;apply dL bi b5 0;apply dC ((Nd _ f g ak.x b0.x (hz _ _ s _ (by rw[o];omega)) (bd _ (CE B)) Z).cx);rintro _ ci dm⟨dy,rfl,l⟩ ei ec;obtain⟨rfl,l⟩|⟨rfl,l⟩|⟨rfl,l⟩:=l;apply(zf);exact J8 λhq=>by have e:=hq _ _ _ (Qp s) B;exact Cd
 apply(zJ);exact sK (j+1) ⟨ω,Z,zy,Z,(D.step (Qp s) B (by rw[o,<-I];exact l))⟩;apply(zf);exact J8 λhq=>by have e:=hq _ _ _ (Qp s) B;exact Cd
 apply(zf);exact Ki (D.all (.inl (by rw[mN];omega)))
end
section
variable{ms:List Rat}{n r:Nat}
def Qq:q.num<0↔q<0:=by rw[<-Int.not_le,<-EZ,Rat.num_nonneg]
theorem Qr:0<q.num↔0<q:=by
 rw[show 0<q.num↔(-q).num<0 by rw[Rat.neg_num];omega,Qq];constructor<;>grind
def Qs{g:Nat->Rat}(f:O ds=N)(hm:O ms=N)(h:∀j,j<N->∀d m,ds[j]?=ξ d->ms[j]?=ξ m->kX m d.lo d.hi=g j):∀j,j<=N->sumS (ds.take j) (ms.take j)=Kb j g
 |0,_=>by rw[EK,Nk];rfl
 |j+1,hj=>by
  have e1:=CD (l:=ds) (i:=j) Z;have c:=CD (l:=ms) (i:=j) Z;rw[L5 e1 c,Qs f hm h j Z,h j Z _ _ e1 c];rfl
theorem UP{f}:∀m,Kb (n+m) f=Kb n f+Kb m λi=>f (n+i)
 |0=>(FY _).symm
 |m+1=>by
  show Kb (n+m) f+f (n+m)=Kb n f+((Kb m λi=>f (n+i))+f (n+m));rw[UP m]
  grind
section
variable{ss:List Rat}{b:Nat->Rat}
abbrev Nn(cs rs:List SideD)(ss:List Rat)(bz:List (Nat×List Int))(y:Nat×List Int)(M b:Nat->Rat)(κ:Rat):Prop:=Wei (O cs) (O rs) (J6 (solI cs rs ss bz y).lo) (J6 (solI cs rs ss bz y).hi) (L0 (O cs) (O rs) (aF (O cs) (zI (bz++[y])))) M b κ
theorem UQ{m σ b}{d}{v}(l:ds[v]?=ξ d)(c:0<σ)(u:0<m->((Lk ds v).map λq=>q*σ)=ξ b)(w:m<0->((Ll ds v).map λq=>q*σ)=ξ b):MJ (m*σ) d.lo d.hi/\kX (m*σ) d.lo d.hi=m*b:=by
 have p:0<m*σ↔0<m:=⟨λh=>(xY h).elim (·.1) λe=>Cu e.2 (Hc.2 (D9 c)),λh=>Gp h c⟩;have o:m*σ<0↔m<0:=⟨λh=>(yq h).elim (λe=>Cu e.2 (Hc.2 (D9 c))) (·.1),λh=>by have:=Gp (a:= -m) aD c;grind⟩;have f:0<m->d.lo≠[]/\zj d.lo*σ=b:=λh=>by
  have:=u h;rw[Ug l]at this;split at this
  .next q=>exact⟨q,by injection this⟩
  cases this
 have g:m<0->d.hi≠[]/\zj d.hi*σ=b:=λh=>by
  have:=w h;rw[Uh l]at this;split at this
  .next q=>exact⟨q,by injection this⟩
  cases this
 refine⟨⟨λh=>(f (p.1 (Qr.1 h))).1,λh=>(g (o.1 (Qq.1 h))).1⟩,?_⟩;by_cases c1:0<m
 .rw[L3 (Qr.2 (p.2 c1)),<-(f c1).2]
  grind
 by_cases c2:m<0
 .rw[Un (Qq.2 (o.2 c2)),<-(g c2).2]
  grind
 have:m=0:=Rat.le_antisymm (Hc.1 c1) (Hc.1 c2);rw[this,Fe,Fe,NR rfl]
def ML(cs rs:List SideD)(ss:List Rat)(M:Nat->Rat):List Rat:=Ke (O rs) λi=>M (O cs+i)*KL cs ss (O cs+i)
def MM(cs:List SideD)(ss:List Rat)(M:Nat->Rat):List Rat:=Ke (O cs) λv=>M v*KL cs ss v
def zwz:KL cs ss (O cs+i)=atR ss i:=by unfold KL;rw[Cv Z,ER]
def zw0{v}(h:v<O cs):KL cs ss v=1:=Cw h
def Qt(h:(ML cs rs ss M)[i]?=ξ q):i<O rs/\q=M (O cs+i)*atR ss i:=by
 have c:i<O rs:=by have:=(CK.1 h).1;unfold ML at this;rw[yo]at this;exact this
 unfold ML at h;rw[wo c,zwz]at h;injection h with h;exact⟨c,h.symm⟩
def Qu{v}(h:(MM cs ss M)[v]?=ξ q):v<O cs/\q=M v:=by
 have c:v<O cs:=by have:=(CK.1 h).1;unfold MM at this;rw[yo]at this;exact this
 unfold MM at h;rw[wo c,zw0 c,FB]at h;injection h with h;exact⟨c,h.symm⟩
def Wei.rw(W:Nn cs rs ss bz y M b κ)(c:ScI cs rs ob ss bz y s)(p:PrO cs rs ob){d}(f:rs[i]?=ξ d):MJ (M (O cs+i)*atR ss i) d.lo d.hi/\kX (M (O cs+i)*atR ss i) d.lo d.hi=M (O cs+i)*b (O cs+i):=by have g:=(CK.1 f).1;refine UQ f (c.row p g).pos (λh=>?_) λh=>?_;have:=W.pos _ Z h;rw[c.lo,gn]at this;exact this;have:=W.neg _ Z h;rw[c.hi,gn]at this;exact this
def Wei.cl(W:Nn cs rs ss bz y M b κ)(c:ScI cs rs ob ss bz y s){v}{d}(f:cs[v]?=ξ d):MJ (M v) d.lo d.hi/\kX (M v) d.lo d.hi=M v*b v:=by have g:=(CK.1 f).1;have h:=UQ (m:=M v) (b:=b v) (σ:=1) f zd (λh=>?_) λh=>?_;rw[FB]at h;exact h;have:=W.pos _ Z h;rw[c.lo,nD g]at this;rw[this];exact congrArg ξ (FB _);have:=W.neg _ Z h;rw[c.hi,nD g]at this;rw[this];exact congrArg ξ (FB _)
def Wei.ok(W:Nn cs rs ss bz y M b κ)(c:ScI cs rs ob ss bz y s)(p:PrO cs rs ob):Mu rs (ML cs rs ss M)/\Mu cs (MM cs ss M):=
 ⟨λi d q f g=>by rw[(Qt g).2];exact(W.rw c p f).1,λi d q f g=>by rw[(Qu g).2];exact(W.cl c f).1⟩
def Wei.sR(W:Nn cs rs ss bz y M b κ)(c:ScI cs rs ob ss bz y s)(p:PrO cs rs ob):∀j,j<=O rs->sumS (rs.take j) ((ML cs rs ss M).take j)=Kb j λi=>M (O cs+i)*b (O cs+i):=
 Qs ω yo λj _ d q f g=>by rw[(Qt g).2];exact(W.rw c p f).2
def Wei.sC(W:Nn cs rs ss bz y M b κ)(c:ScI cs rs ob ss bz y s):∀j,j<=O cs->sumS (cs.take j) ((MM cs ss M).take j)=Kb j λv=>M v*b v:=
 Qs ω yo λj _ d q f g=>by rw[(Qu g).2];exact(W.cl c f).2
def Wei.tot(W:Nn cs rs ss bz y M b κ)(c:ScI cs rs ob ss bz y s)(p:PrO cs rs ob):sumS rs ((ML cs rs ss M).take (O rs))+sumS cs ((MM cs ss M).take (O cs))=Kb (O cs+O rs) λv=>M v*b v:=by have d:=W.sR c p _ Cy;have f:=W.sC c _ Cy;rw[C3]at d f;rw[d,f,UP];exact ac2 _ _
theorem ScR.ne{v E}{zs}(h:ScR qs v zs q)(p:∀q∈qs,NE E P q)(H:1<=E)(I:1<=P):NE P (E^O qs) q:=by
 obtain⟨rfl,_⟩|⟨g,Z1,F,z,L,u⟩:=h.fr;exact⟨I,Ds H⟩;have⟨j,o⟩:=EE.1 L;have c:=(CK.1 o).1;have e:=CD (l:=qs) (i:=j) (by rw[<-h.len];exact c);have d:=h.eq j _ _ e o;have J:=p _ (CE e);generalize qs[j]'(by rw[<-h.len];exact c)=f at*;have G:=LQ f;have K:f.num≠0:=λC=>u (by
  rw[Fk.1 C,FJ]at d;exact El.1 d)
 have w:QB (E^O qs) g q:=⟨(lcmD qs 1:Nat),g,Z,by rw[Dj,Dj,<-F];grind,by rw[CR];exact(OJ p).2,by rw[CR];exact Ej _⟩;have A:QB (z.natAbs*f.den) f.num.natAbs q:=⟨f.num.sign*z*f.den,f.num.natAbs,Z,by
  have D:((f.num.natAbs:Int):Rat)=(f.num.sign:Rat)*f.num:=by rw[<-Du,Int.sign_mul_self]
  rw[D,<-G,Du,Du,d,Dj];grind,by rw[Dl,Dl,CR,Int.natAbs_sign_of_ne_zero K,Nat.one_mul];exact Ej _,by rw[CR];exact Ej _⟩
 exact⟨CU A.nd.2 J.num,w.nd.1⟩
def le11{b x}(d:a<=x)(c:b<=x)(hi:i<=6):a+i*b<=11*x:=by have:=C6 hi c;omega
def WZ(N E W:Nat)(M:Nat->Rat):Prop:=0<E/\∀v,v<N->∃w:Int,(E:Rat)*M v=w/\w.natAbs<=W
def OY{P:Rat->Prop}{f0:Nat->Rat}{nb}{t:Nat->Rat}(h0:∀v,P (f0 v))(h1:∀c,c<n->P (t c)):∀k,k<=n->∀v,P (Mv f0 nb t k v)
 |0,_,v=>h0 v
 |k+1,hk,v=>by
  show P (if v=nb k then t k else Mv f0 nb t k v);split
  .exact h1 k Z
  exact OY h0 h1 k Z v
def T0:Nat:=120*10^160
def Qv(c:1<=n)(d:n<=5):KD n*((10^32)^(n-1)*10^32)<=T0/\KD n*(10^32)^n<=T0:=by have h:n=1\/n=2\/n=3\/n=4\/n=5:=Z;obtain rfl|rfl|rfl|rfl|rfl:=h<;>exact⟨cA,cA⟩
def ScI.ne(c:ScI cs rs ob ss bz y s)(p:PrO cs rs ob)(hi:i<O rs):NE (10^8) (10^30) (atR ss i):=by have⟨P,_,g,_⟩:=c.sc;have u:=c.ls;have o:=c.lb;have d:=CD (l:=ss) (i:=i) Z;have f:=p.lr _ (Ft hi);have h:=(g i _ _ _ (CD hi) (CD (l:=bz) (i:=i) Z) d).ne f.2.2.2.2 zd zd;rw[wg d];rw[f.2.2.2.1]at h;exact⟨h.den,CU h.num (jW p.n1 p.n5).2⟩
def ScI.nes(c:ScI cs rs ob ss bz y s)(p:PrO cs rs ob)(l:∀q∈ob,NE (10^6) (10^8) q):NE (10^8) (10^30) s/\∀j,j<O cs->(zI (bz++[y]) (O rs) j).natAbs<=10^32:=by have⟨P,_,_,d⟩:=c.sc;have h:=d.ne l zd zd;have o:=d.scF l zd zd p.lo.1;have f:=jW p.n1 p.n5;rw[p.lo.1]at h;refine⟨⟨h.den,CU h.num f.2⟩,λj w=>?_⟩;have⟨D,g,A,u,_,_,_,v⟩:=o.ex;have e:zI (bz++[y]) (O rs)=LS y.2:=(by funext j;unfold zI;rw[<-c.lb,Qh]);rw[e];exact CU (Ep _ u) (CU (v j w) f.1)
def Mw(c:ScI cs rs ob ss bz y s)(p:PrO cs rs ob):∀v,v<O cs+O rs->∀j,j<O cs->(aF (O cs) (zI (bz++[y])) v j).natAbs<=10^32:=(fixI c p).b.aM
theorem zzj(c:ScI cs rs ob ss bz y s)(p:PrO cs rs ob)(F:∀q∈ob,NE (10^6) (10^8) q)(f:OU cs rs ss bz y st):∃E,E<=T0*10^30/\WZ (O cs+O rs) E (T0*10^8) (Mv (λ_=>0) st.nb (λc=>(st.T (O rs) c:Rat)/st.d/s) (O cs)):=by
 have J:=f.toPB.tab.dp;have l:=(c.obj p).pos;have o:=Qv p.n1 p.n5;have g:=c.nes p F;have G:=Qr.2 l;refine⟨st.d.natAbs*s.num.natAbs,C6 (CU (f.toPB.bD (Mw c p)) o.2) g.1.num,Et Z Z,λv _=>OY (P:=λq=>∃w:Int,((st.d.natAbs*s.num.natAbs:Nat):Rat)*q=w/\w.natAbs<=T0*10^8) (λ_=>⟨0,FJ _,Cz⟩) (λk D=>⟨st.T (O rs) k*s.den,?_,?_⟩) _ Cy v⟩;have u:((st.d.natAbs:Nat):Rat)=(st.d:Rat):=by rw[<-Dj];congr 1;omega
 have A:((s.num.natAbs:Nat):Rat)=(s.den:Rat)*s:=by rw[<-Dj,LQ];congr 1;omega
 have H:=Fi (a:=(st.T (O rs) k:Rat)/st.d) (b:=s) (λe=>by rw[e]at l;exact Rat.lt_irrefl l);have I:=Fi (a:=(st.T (O rs) k:Rat)) f.toPB.d0;rw[Gi,u,A,Du,Dj];grind;rw[Dl,CR];refine C6 (CU (f.toPB.bT (Mw c p) Cy D λj C=>?_) o.1) g.1.den;rw[f.bm,nQ];exact g.2 j C
theorem zzs(c:ScI cs rs ob ss bz y s)(p:PrO cs rs ob)(f:OU cs rs ss bz y st)(D:r<O rs):∃E,E<=T0*10^30/\WZ (O cs+O rs) E (T0*10^8) (Mv (Ka (λ_=>0) (st.bs r) (Kj low)) st.nb (λc=>(st.T r c:Rat)/st.d*Kj (!low)) (O cs)):=by
 have L:=f.toPB.tab.dp;have C:=Qv p.n1 p.n5;have A:=CU (f.toPB.bD (Mw c p)) C.2;have o:((st.d.natAbs:Nat):Rat)=(st.d:Rat):=by rw[<-Dj];congr 1;omega
 have l:∀(x:Int) (u:Bool),x.natAbs<=T0->∃w:Int,(x:Rat)*Kj u=w/\w.natAbs<=T0*10^8:=λx u F=>by
  have g:T0<=T0*10^8:=EF _ zd;cases u with
  |true=>exact⟨x,FB _,CU F g⟩
  |false=>exact⟨-x,by rw[Il];show(x:Rat)* -1=_;grind,by rw[E2];exact CU F g⟩
 refine⟨st.d.natAbs,CU A (EF _ zd),Z,λv _=>OY (P:=λq=>∃w:Int,((st.d.natAbs:Nat):Rat)*q=w/\w.natAbs<=T0*10^8) (λv=>?_) (λk K=>?_) _ Cy v⟩;unfold Ka;split;rw[o];exact l st.d low A;exact B9;have G:=Fi (a:=(st.T r k:Rat)) f.toPB.d0;have⟨w,H,I⟩:=l (st.T r k) (!low) (CU (f.toPB.bT (Mw c p) (DZ D) K λj J=>Mw c p _ (f.toPB.bv r D) j J) C.1);refine⟨w,?_,I⟩;rw[o,<-H,<-G];grind
theorem PZ.ne{E Q B e m}{p b}(h:PZ E Q B p)(hb:NE e m b):PZ E (Q*e) (B*m) (p*b):=by have⟨q,c,d,w,f,g⟩:=h;refine⟨q*b.den,Et c b.den_pos,C6 d hb.den,w*b.num,?_,?_⟩;rw[Du,<-f,<-LQ b];simp only[Gi];grind;rw[Dl];exact CU (C6 g (CU hb.num (Ep m b.den_pos))) (GU aD)
section
variable{Q e:Nat}
def PZ.nil(h:1<=Q):PZ E Q B 0:=PZ.zero.mono h Cz
def pw(c:1<=Q*e):∀{ds:List SideD} {ms:List Rat},(∀d∈ds,NE e m (zj d.lo)/\NE e m (zj d.hi))->(∀q∈ms,PZ E Q B q)->PZ E ((Q*e)^O ds) (O ds*(B*m)) (sumS ds ms)
 |[],ms,_,_=>by rw[Nk];exact PZ.nil (Ds c)
 |d::ds,[],_,_=>PZ.nil (Ds c)
 |d::ds,q::ms,hd,hm=>by
  show PZ E ((Q*e)^(O ds+1)) ((O ds+1)*(B*m)) (kX q d.lo d.hi+sumS ds ms);rw[ac2,C5,EI];refine(pw c (λd g=>hd d (EV _ g)) λq l=>hm q (EV _ l)).add ?_;have h2:=hd d D4;have f:=hm q D4;unfold kX;split
  .exact f.ne h2.2
  exact f.ne h2.1
def oK{rs:List SideD}{c}(f:1<=Q*e)(l:∀d∈rs,∀q∈d.A,NE e m q)(hm:∀q∈ms,PZ E Q B q)(g:PZ E 1 B c):∀i,PZ E ((Q*e)^i) (B+i*(B*m)) (colQ rs ms c j i)
 |0=>by rw[EA,DU];exact g
 |i+1=>by
  rw[C5,EI,<-Gs];refine(oK f l hm g i).add ?_;cases h2:rs[i]?.bind λd=>d.A[j]? with
  |none=>exact(Fe _).symm▸PZ.nil f
  |some a=>cases h3:ms[i]? with
   |none=>exact(FJ _).symm▸PZ.nil f
   |some q=>
    have⟨d,h4,h5⟩:=Option.bind_eq_some_iff.1 h2;exact(FZ _ _)▸(hm q (CE h3)).ne (l d (CE h4) a (CE h5))
end
def PrO.szs(p:PrO cs rs ob){E}{R C}(u:0<E)(G:E<=T0*10^36)(v:∀q∈R,PZ E (10^8) (T0*10^39) q)(o:∀q∈C,PZ E 1 (T0*10^39) q):sumZ 1760 rs cs R C/\Nl 1760 rs R C:=by have Z1:=p.n5;have J:=p.m6;have l:∀a b B (q:Rat),a<=6->b<=5->B<=11*(T0*10^39*10^8)->PZ E ((10^8*10^6)^a*(1*10^6)^b) B q->Sz 1760 q:=λa b B q H I F h=>(by have A:=(h.mono (C6 (CQ cA H) (CQ cA I)) F).qb u;have c:=CM ((10^8*10^6)^6*(1*10^6)^5) G;have D:=CM (11*(T0*10^39*10^8)) c;exact A.sz (C7 D cA) (C7 c cA));have w:∀j,PZ E ((10^8*10^6)^O (rs.take j)) (O (rs.take j)*(T0*10^39*10^8)) (sumS (rs.take j) (R.take j)):=λj=>pw cA (λd hd=>have h:=p.lr d (Dp hd);⟨h.1,h.2.1⟩) λq f=>v q (Dp f);have K:∀j,PZ E ((1*10^6)^O (cs.take j)) (O (cs.take j)*(T0*10^39*10^8)) (sumS (cs.take j) (C.take j)):=λj=>pw cA (λd hd=>have h:=p.lc d (Dp hd);⟨h.1,h.2.1⟩) λq f=>o q (Dp f);refine⟨⟨λj g=>?_,λj g=>?_⟩,λk q f i L=>?_⟩;have h:=w j;rw[Jr g]at h;exact l j 0 (j*(T0*10^39*10^8)) _ Z Z (CM _ Z) (by rw[EA,DD];exact h);have h:=w (O rs);have c:=K j;rw[C3]at h;rw[Jr g]at c;exact l _ j _ _ J Z (by rw[<-Nat.add_mul];exact CM _ Z) (h.add c);have h:=oK (j:=k) cA (λd hd=>(p.lr d hd).2.2.2.2) v (o q (CE f)) i;exact l i 0 (T0*10^39+i*(T0*10^39*10^8)) _ Z Z (le11 (EF _ cA) Cy Z) (by rw[EA,DD];exact h)
def WZ.pz{E}(h:WZ N E (T0*10^8) M){v}(hv:v<N):PZ E 1 (T0*10^8) (M v):=by have⟨w,c,d⟩:=h.2 v hv;exact⟨1,IT,Cy,w,by rw[DD];exact c,by rw[DD];exact CU d (Ep _ h.1)⟩
theorem ScI.szm(c:ScI cs rs ob ss bz y s)(p:PrO cs rs ob){E}(u:E<=T0*10^30)(f:WZ (O cs+O rs) E (T0*10^8) M):(∀q∈ML cs rs ss M,PZ E (1*10^8) (T0*10^8*10^30) q/\QB (T0*10^38) (T0*10^38) q)/\∀q∈MM cs ss M,PZ E 1 (T0*10^8) q/\QB (T0*10^38) (T0*10^38) q:=by have A:=f.1;refine⟨λq d=>?_,λq d=>?_⟩;have⟨i,d⟩:=EE.1 d;obtain⟨C,rfl⟩:=Qt d;have o:=c.ne p C;refine⟨(f.pz Z).ne o,?_⟩;have⟨w,g,l⟩:=f.2 (O cs+i) Z;refine⟨w*(atR ss i).num,(E*(atR ss i).den:Nat),by exact_mod_cast Et A (atR ss i).den_pos,?_,?_,?_⟩;rw[Dj,Gi,Du,<-g,<-LQ];grind;rw[Dl];exact CU (C6 l o.num) cA;rw[CR];exact CU (C6 u o.den) cA;have⟨v,d⟩:=EE.1 d;obtain⟨D,rfl⟩:=Qu d;refine⟨f.pz Z,?_⟩;have⟨w,g,l⟩:=f.2 v Z;exact⟨w,E,Z,by rw[Dj];exact g,CU l cA,by rw[CR];exact CU u cA⟩
end
end
section
variable{n:Nat}{d:Sol}
theorem SolP.va_fn(a:SolP n m d st):d.va.take n=Ke n st.x:=by have:=a.vl;exact mU aD λj b=>by rw[Hz,Cw b];exact a.va j Z
end
def SM.vaN{l n0 g n m}{h}{d}{A}{st}(s:SM l h n0 g d A)(f:SolP n m d st)(p:0<n):∃e,A.va=ξ ⟨e,0,θ⟩/\QS h n0 (Y (ξ ⟨e,0,θ⟩) n (n+m)) (Ke n st.x):=by have i:=f.vl;have⟨e,a,o,q,u,j⟩:=s.va.or ω Z;injection a with a;have b:=s.va.rs;rw[a]at b;have b:=an7 zd b (m:=0) (c:=n) (cap':=n+m) Z Z;rw[Dy,f.va_fn]at b;exact⟨e,a,b⟩
set_option exponentiation.threshold 9999 in
def zo6(k){h}{n}(g:GG h n){ao ar aw au}{lo co lr cr lw cw lu cu}{p}(io:Sl h n 1 (Y ao lo co) (strs p.obj))(ir:Kt h n (Y ar lr cr) p.rows)(iw:Sl h n 1 (Y aw lw cw) (strs p.lower))(iu:Sl h n 1 (Y au lu cu) (strs p.upper))(hs:SmQ p):
  CX (J4 (k+16)) 7 [.agg #[Y ao lo co,Y ar lr cr,Y aw lw cw,Y au lu cu]] h n (SolR p n):=by
 apply zw R4;apply(zG);apply sB [Y ao lo co,Y ar lr cr,Y aw lw cw,Y au lu cu];intro h1 p1 x1;apply(sA);intro h2 p2 x2;apply(zG);apply sC (SL _ g.x io.x ir.x iw.x iu.x hs.lpb Z);rintro _ h3 y⟨aO,lO,kO,aR,lR,kR,aC,lC,kC,ok,rfl,ef,hq⟩ y3 x3;apply(Zk);intro h4 p4 x4;apply(zG);apply sS [Y aO lO kO,Y aR lR kR,Y aC lC kC];intro Z1 p5 o5;have y3:n+1+1<=y:=y3;obtain⟨rfl,hv⟩|⟨rfl,hv⟩:=J7 ef;.apply(zG);apply sT #[υ 0,CG ⟨⟨[]⟩⟩,η,η,η,η];apply sS [υ 0,CG ⟨⟨[]⟩⟩,η,η,η,η];intro h6 p6 o6;apply(zG);apply(zq);exact .inl ⟨hv,ω⟩
 have⟨iO,iR,iC⟩:=hq rfl;have pr:=UE hv hs;have ey:=iO.1.len;subst ey;have n1:=pr.n1;have n5:=pr.n5;have m6:=pr.m6;have bg:=pr.lo.1;have ca:48*O (zC p)+48+1<=289:=Z;have X5:Exo n h Z1:=⟨(show Tx n h (y+1) Z1 from zx).2⟩;have bf:=iO.x (h':=Z1) (n':=y+1) zx;have er:=iR.x (h':=Z1) (n':=y+1) zx;have ep:=iC.x (h':=Z1) (n':=y+1) zx;have fm:Z1 (3*n+2)=_:=(zp:Z1 (3*n+2)=_);have cz:Z1 (3*(n+1)+2)=_:=(zp:Z1 (3*(n+1)+2)=_);have g5:GG Z1 (y+1):=g.ext X5.go Z;have fi:n<=y+1:=Z;have be:∀q∈p.obj.map zj,Sz 48 q:=Kg.nums hs.lpb.ob;have cd:=za7 (k+2) g5 bf.1 er.sds ep.sds (a:=48) (P:=289) (LPB.cols hs.lpb) (λd hd=>⟨(LPB.rows hs.lpb d hd).1,(LPB.rows hs.lpb d hd).2,(pr.lr d hd).2.2.2.1,(hv.rwb hs.lpb d hd).1⟩) be bg n1 ca Z Z Z;apply(zG);apply sC cd;rintro _ h6 n6⟨bs,A,M,N,B,zs,s,rfl,S6,ek,ec,ei,cg⟩ y6 x6;have y6:y+1<=n6:=y6;have x6:Exo (y+1) Z1 h6:=⟨x6⟩;have c:ScI (zC p) (zk p) (p.obj.map zj) M N (B,zs) s:=⟨ek,ec,289,by decide,ei,cg⟩;have S6:=steI c pr S6;have F:=fixI c pr;have g6:GG h6 n6:=g5.ext x6.go y6;have cf:=zmn (k+0) g6 S6 F n1 Z;apply(zG);apply zF _ R5 cf;rintro _ h8 n8 w8⟨d8,s8,y8,S8,T8,K8,ch,af⟩;rw[mY,my (show ∀c∈w8,3*n<=c from λc hc=>by have:=ch c hc;omega)];have X8:Exo (y+1) Z1 h8:=⟨λb hb=>(K8 b hb).trans (x6.go b hb)⟩;have f1:y+1<=n8:=Z;have g8:GG h8 n8:=g5.ext X8.go f1;have cl:∀v,v<O (zC p)+O (zk p)->d8.sc[v]?=ξ (KL (zC p) M v):=λv hv=>by rw[S8.eq.sc];exact(c.sg hv).1
 have ck:∀v,v<O (zC p)+O (zk p)->Sz 290 (KL (zC p) M v):=λv hv=>(c.sg hv).2;have d0:h8 (3*(n+1)+2)=_:=(X8.go _ Z).trans cz;have f5:h8 (3*y+2)=_:=(X8.go _ Z).trans p5;obtain⟨rfl,hF⟩|⟨r,bh,q,rfl,hV,R⟩:=af;rotate_left;.apply(zG);have ba:=zf2 (k+1) g8 S8 F cl ck zd n1 hV.hr (low:=bh);apply sC ba;rintro _ h9 n9⟨b1,b2,rfl,o1,o2⟩ y9 x9;have bn:h9 (3*(n+1)+2)=_:=(x9 _ Z).trans d0;have X9:Exo n h h9:=⟨λb hb=>(x9 b Z).trans ((X8.go b Z).trans (X5.go b hb))⟩;apply(zG);apply sT #[υ 2,CG ⟨⟨[]⟩⟩,η,η,Y (ξ ⟨b1,0,θ⟩) (O (zk p)) (O (zk p)),Y (ξ ⟨b2,0,θ⟩) (O (zC p)) (O (zC p))];apply sS (hb:=bn) [υ 2,CG ⟨⟨[]⟩⟩,η,η,Y (ξ ⟨b1,0,θ⟩) (O (zk p)) (O (zk p)),Y (ξ ⟨b2,0,θ⟩) (O (zC p)) (O (zC p))];intro G fl aq;have bx:Tr n9 h9 n9 G:=FG aq (Eg _ _);apply(zG);apply zq (hx:=⟨Z,λb hb=>(aq.1 b Z).trans (X9.go b hb)⟩);exact .inr ⟨hv,M,N,(B,zs),s,s8,⟨c,S8.iv⟩,.inl ⟨r,bh,q,b1,b2,ω,hV,R,(o1.go bx (aq.1 _ (by have:=o1.lo;omega))).low Z,(o2.go bx (aq.1 _ (by have:=o2.lo;omega))).low Z⟩⟩
 have ce:=zd4 (k+0) g8 S8 hF F n1 Z;apply(zG);apply zF _ R5 ce;rintro v9 h9 n9 w9⟨d9,C,y9,w,F9,T9,K9,ci,af⟩;rw[mY,my (show ∀c∈w9,3*n<=c from λc hc=>by have:=ci c hc;omega)];have X9:Exo (y+1) Z1 h9:=⟨λb hb=>(K9 b hb).trans (X8.go b hb)⟩;have f2:y+1<=n9:=Z;have g9:GG h9 n9:=g5.ext X9.go f2;have I9:OU (zC p) (zk p) M N (B,zs) C:=w.iv;have a6:=F.szp I9;have el:∀v,v<O (zC p)+O (zk p)->d9.sc[v]?=ξ (KL (zC p) M v):=λv hv=>by rw[w.eq.sc];exact(c.sg hv).1
 have bn:h9 (3*(n+1)+2)=_:=(X9.go _ Z).trans cz;have f6:h9 (3*y+2)=_:=(X9.go _ Z).trans p5;have⟨b0,a0,u0,c0,ty,d2,i0⟩:=w.sm.st;have eb:=w.sm.bs.1;have⟨bv,c6,qv⟩:=w.sm.vaN w.sp n1;rw[w.sp.dn,w.sp.vl,w.sp.nl,w.sp.bl,w.sp.ls]at d2;obtain⟨c1,c2,ok,rfl,eg⟩:∃(c1 c2:Int) (ok:Bool),v9=Value.tuple #[CC .i64 c1,CC .i64 c2,U ok]/\(ok=φ/\(∀c u,c<O (zC p)->¬ent (O (zk p)) (loI p M N (B,zs)) (hiI p M N (B,zs)) C u c)\/ok=χ/\∃(e:Nat) (up:Bool),c1=(e:Int)/\c2=Ky up/\Ent (O (zC p)) (O (zk p)) (loI p M N (B,zs)) (hiI p M N (B,zs)) C e up/\∀r ρ,¬Li (O (zk p)) (loI p M N (B,zs)) (hiI p M N (B,zs)) C e up r ρ):=(by obtain⟨rfl,R⟩|⟨e,up,rfl,hE,R⟩:=af;exact⟨0,0,φ,ω,.inl ⟨ω,R⟩⟩;exact⟨(e:Int),Ky up,χ,ω,.inr ⟨ω,e,up,ω,ω,hE,R⟩⟩);apply(Zh);apply OE (b:=bv) (off:=0) (O (zC p)) R6 (by show Y A.va _ _=_;rw[c6]) ω ω Z;apply dC (OL _ g9 qv Z (m:=750) (λj hj=>a6.va j Z) zd);rintro _ G Z4⟨bX,rfl,oX⟩ ay V;have V:Exo n9 h9 G:=⟨V⟩;have b5:Exo (y+1) Z1 G:=⟨λb hb=>(V.go b Z).trans (X9.go b hb)⟩;have bj:G (3*(n+1)+2)=_:=(V.go _ Z).trans bn;have dg:G (3*y+2)=_:=(V.go _ Z).trans f6;have di:G bs=_:=(V.go _ eb).trans d2;have aj:GG G Z4:=g9.ext V.go ay;have a8:Ste (y+1) (O (zC p)) (O (zk p)) bs (aF (O (zC p)) (zI (N++[(B,zs)]))) (L0 (O (zC p)) (O (zk p)) (aF (O (zC p)) (zI (N++[(B,zs)])))) A (λi=>(La (N++[(B,zs)]) i).1) (solI (zC p) (zk p) M N (B,zs)) G Z4 d9 C:=⟨w.sm.ext V.go ay,w.sp,w.iv,w.ap,w.eq⟩;have ay:n9<=Z4:=ay;apply(zJ);obtain⟨rfl,R⟩|⟨rfl,e,up,rfl,rfl,hE,R⟩:=eg;rotate_left;.apply(zG);have eh:=rayP (k+2) aj a8 F zd hE.he (up:=up);apply sC eh;rintro _ a4 l⟨bR,rfl,oR⟩ az a7;have d7:=oX.ext a7 az;have da:a4 (3*(n+1)+2)=_:=(a7 _ Z).trans bj;have dk:Exo n h a4:=⟨λb hb=>(a7 b Z).trans ((b5.go b Z).trans (X5.go b hb))⟩;apply(zG);apply sT #[υ 3,CG ⟨⟨[]⟩⟩,Y (ξ ⟨bX,0,θ⟩) (O (zC p)) (O (zC p)),Y (ξ ⟨bR,0,θ⟩) (O (zC p)) (O (zC p)),η,η];apply sS (hb:=da) [υ 3,CG ⟨⟨[]⟩⟩,Y (ξ ⟨bX,0,θ⟩) (O (zC p)) (O (zC p)),Y (ξ ⟨bR,0,θ⟩) (O (zC p)) (O (zC p)),η,η];intro c8 cv av;have c3:Tr l a4 l c8:=FG av (Eg _ _);apply(zG);apply zq (hx:=⟨Z,λb hb=>(av.1 b Z).trans (dk.go b hb)⟩);exact .inr ⟨hv,M,N,(B,zs),s,C,⟨c,w.iv⟩,.inr (.inl ⟨e,up,bX,bR,ω,F9,hE,R,(d7.go c3 (av.1 _ (by have:=oX.lo;omega))).low Z,(oR.go c3 (av.1 _ (by have:=oR.lo;omega))).low Z⟩)⟩
 apply(zG);have ej:=qa (k+3) aj (bf.1.ext (n':=Z4) b5.go Z) be (P:=289) (by rw[bg];exact ca) zd Z;apply sC ej;rintro _ a4 l⟨B2,zs2,s2,dt,dm,l11,dw,dz,e2,e6,f8,rfl,_,_,_,_,ag,cm,cp⟩ az a7;have es:s2=s:=ag.ds.trans cg.ds.symm;subst es;apply(Zk);intro c8 cv d3;apply(zG);apply sS [U dt,Y dm l11 dw,U dz,Y e2 e6 f8];intro a1 cx cs;have cn:=cm.t (show Tr l a4 (l+1) a1 from zt);have cq:=cp.t (show Tr l a4 (l+1) a1 from zt);have ad:Exo Z4 G a1:=⟨λb hb=>(cs.1 b Z).trans ((d3 b Z).trans (a7 b hb))⟩;have az:Z4<=l:=az;have ah:a1 bs=_:=(ad.go bs Z).trans di;have bk:a1 (3*(n+1)+2)=_:=(ad.go _ Z).trans bj;have bo:a1 (3*y+2)=_:=(ad.go _ Z).trans dg;obtain⟨K,hK⟩:∃K,K=O (zC p)+O (zk p):=⟨_,ω⟩;rw[<-hK]at ah;apply(zG);refine NK (L:=K) [U χ,η,U χ,η] ?_ (a:=Z);intro H cy W;obtain⟨Bl,b9⟩:∃B,B=3*(l+1)+2:=⟨_,ω⟩;have gl:gro Bl=χ:=by rw[b9];exact zB _
 have f3:OR 4 ratP H (l+1+1) Bl (Ke K λ_=>0):=(by rw[b9,<-eE];exact OR.fill Z cy Ea ⟨_,_,_,_,_,_,_,_,ω,EN _ _,EN _ _⟩);rw[<-b9];have W:Exo (l+1) a1 H:=⟨W⟩;have dl:Exo Z4 G H:=⟨λb hb=>(W.go b Z).trans (ad.go b hb)⟩;have dj:H bs=_:=(W.go bs Z).trans ah;have db:H (3*(n+1)+2)=_:=(W.go _ Z).trans bk;have dh:H (3*y+2)=_:=(W.go _ Z).trans bo;have bu:H (3*l+2)=_:=(W.go _ Z).trans cx;have em:=cn.ext (n':=l+1+1) W.go Zq;have et:=cq.ext (n':=l+1+1) W.go Zq;have cb:=a8.iv.toPB.tab.dp;have bc:=a8.sp.de;have⟨r0,g0,_,e9⟩:=a8.sp.ta (O (zk p)) Cy;apply(zG);apply sF (α:=Nat) (λz=>[(2,ε (3*(n+1)+2)),(4,ε (3*y+2)),(6,ε bs),(14,Y (ξ ⟨bX,0,θ⟩) (O (zC p)) (O (zC p))),(16,ε (3*l+2)),(17,Y (ξ ⟨Bl,0,θ⟩) K K),(90,Y A.nb (O (zC p)) (O (zC p))),(91,υ (O (zC p):Int)),(92,υ (z:Int))]) (λz h' S w'=>w'=[]/\l+1+1<=S/\ExtB (l+1+1) [Bl] H h'/\Tr (l+1+1) H S h'/\OR 4 ratP h' S Bl (Ke K (optF C (O (zk p)) s2 z))/\z<=O (zC p)) (λz=>O (zC p)-z) 0 ⟨ω,Cy,Ed _ _ _,Eg _ _,f3,Cz⟩;rintro j t I Z3 _⟨rfl,d4,c4,a9,ax,hj⟩;(try dsimp only at d4 a9 ax hj);have a5:∀b,b<3*(l+1+1)->b≠Bl->I b=H b:=λb hb hn=>c4 b hb (by simpa using hn);have b6:Exo Z4 G I:=⟨λb hb=>(a5 b Z Z).trans (dl.go b hb)⟩;have b3:=a8.sm.ext (n':=Z3) b6.go Z;have br:I bs=_:=(a5 bs Z Z).trans dj;have bm:I (3*(n+1)+2)=_:=(a5 _ Z Z).trans db;have bp:I (3*y+2)=_:=(a5 _ Z Z).trans dh;have fd:I (3*l+2)=_:=(a5 _ Z Z).trans bu;have en:=em.t a9;have eu:=et.t a9;have b8:GG I Z3:=aj.ext b6.go Z;apply(zG);by_cases q15:(j:Int)<(O (zC p):Int);.apply(zG);have al:j<O (zC p):=Z;have fj:=w.iv.nv j al;have⟨ac,fk,e3,ez,d1,f7⟩:=natS.at b3.nb.rs (w.sp.nb j al);rw[w.sp.nl]at d1;apply sI e3 d1;apply sL f7 ez 0;apply(Zh);have cj:=a6.tO j al;have ba:=Nh (k+4) b8 b3 (i:=O (zk p)) (j:=j) g0 (e9 j al) (yU cj zd) (by rw[bc];exact yU a6.dd zd) (by rw[bc];omega);apply dC ba;rintro _ ea f0⟨du,dq,ew,dx,e0,e4,e7,f9,rfl,aa,ab⟩ ae a3;have sc:Sz 620 (Dw (C.T (O (zk p)) j) C.d):=xz cb cj (CS a6.dd (CQ zd zd));rw[bc]at aa ab;rw[Ev]at aa ab sc;apply(zH);apply dC (divQ _ (b8.ext a3 ae) aa ab (en.ext a3 ae) (eu.ext a3 ae) sc ag.sz zd);rintro _ ak an⟨dv,dr,ex,dy,e1,e5,e8,fa,rfl,eo,ev⟩ fc bt;apply dI ω (show C.nb j<K from Z);have Z0:Exo Z3 I ak:=⟨λb hb=>(bt b Z).trans (a3 b hb)⟩;apply PQ (n0:=n) (j:=C.nb j) (q:=(C.T (O (zk p)) j:Rat)/C.d/s2) [U dv,Y dr ex dy,U e1,Y e5 e8 fa] (ax.ext (n':=an) Ea Z0.go Z) Ea xd (C9 _) ⟨_,_,_,_,_,_,_,_,ω,eo,ev⟩ Z;rw[oV];intro fh f4 bw;apply(zG);exact sK (j+1) ⟨ω,Z,λb hb hn=>(bw.1 b (λe=>hn (CV.2 e))).trans ((Z0.go b Z).trans (a5 b hb (λe=>hn (CV.2 e)))),a9.trans (HR ⟨show Z3<=an by omega,λb hb=>.inl (Z0.go b hb)⟩ (FG bw (Eg _ _))),f4,kF⟩
 have ed:j=O (zC p):=Z;subst ed;apply(zG);have ee:=qV (k+2) (f:=optF C (O (zk p)) s2 (O (zC p))) (σ:=KL (zC p) M) (a:=910) (b:=290) b8 b3 hK ax gl Z (w.sp.ls.trans hK.symm) (λv hv=>el v Z) w.sp.dn n1 Z (λv _=>zmv cb a6 zd ag.sz _ Cy v) (λv hv=>ck v Z) zd;apply zF _ R5 ee;rintro _ J a2 fb⟨⟨b1,b2,rfl,o1,o2⟩,fo,c5,fg,d6⟩;rw[mY,my (show ∀c∈fb,3*n<=c from λc hc=>by have:=d6 c hc;omega)];have ac:∀b,b<3*Z3->b≠Bl->J b=I b:=λb hb hn=>c5 b hb (by simpa using hn);have ai:Exo Z4 G J:=⟨λb hb=>(ac b Z Z).trans (b6.go b hb)⟩;have b7:Exo (y+1) Z1 J:=⟨λb hb=>(ai.go b Z).trans (b5.go b hb)⟩;have ff:J bs=_:=(ac bs Z Z).trans br;have dc:J (3*(n+1)+2)=_:=(ac _ Z Z).trans bm;have fe:J (3*y+2)=_:=(ac _ Z Z).trans bp;have c7:GG J a2:=aj.ext ai.go Z;have bi:=oX.ext (n':=a2) ai.go Z;have bq:=qv.ext (n':=a2) (show J3 n9 h9 J from λb hb=>(ai.go b Z).trans (V.go b hb)) Z;rw[<-hK]at bq;apply(Zh);apply OE (b:=bv) (off:=0) (O (zC p)) R6 (by show Y A.va _ _=_;rw[c6]) ω ω Z;have⟨D,hD⟩:=SolI.vtx (p:=p) ⟨c,w.iv⟩ pr;have cc:∀j,j<=O (p.obj.map zj)->Sz 990 (dotR ((p.obj.map zj).take j) ((Ke (O (zC p)) C.x).take j)):=λj hj=>UF hD F.b.aM n1 n5 pr.lo.2 Z yo (λj hj=>wo hj) hj;have bd:=Ng (k+4) c7 (bf.1.ext (n':=a2) b7.go Z) bq be (b:=750) (λq hq=>by obtain⟨j,hj,rfl⟩:=kJ hq;exact a6.va j Z) xd cc zd Z;rw[CL (show(Ke (O (zC p)) C.x).length<=O (p.obj.map zj) by rw[yo];omega)]at bd;have bb:=cc _ Cy;rw[CL Cy,CL (show(Ke (O (zC p)) C.x).length<=O (p.obj.map zj) by rw[yo];omega)]at bb;have d5:dotR (p.obj.map zj) (Ke (O (zC p)) C.x)=Kb (O (zC p)) λj=>atR (p.obj.map zj) j*C.x j:=(by rw[rM xd (O (zC p)) bg];exact yg λj hj=>by rw[wg (wo hj)]);rw[d5]at bd bb;apply dC bd;rintro _ ea f0⟨du,dq,ew,dx,e0,e4,e7,f9,rfl,aa,ab⟩ ae a3;apply dC (SJ _ (c7.ext a3 ae) aa ab bb zd);rintro _ ak an rfl fc bt;have Z0:Exo a2 J ak:=⟨λb hb=>(bt b Z).trans (a3 b hb)⟩;have df:ak (3*(n+1)+2)=_:=(Z0.go _ Z).trans dc;apply(zJ);apply sT #[υ 1,CG ⟨⟨ratT (Kb (O (zC p)) λj=>atR (p.obj.map zj) j*C.x j)⟩⟩,Y (ξ ⟨bX,0,θ⟩) (O (zC p)) (O (zC p)),η,Y (ξ ⟨b1,0,θ⟩) (O (zk p)) (O (zk p)),Y (ξ ⟨b2,0,θ⟩) (O (zC p)) (O (zC p))];apply sS (hb:=df) [υ 1,CG ⟨⟨ratT (Kb (O (zC p)) λj=>atR (p.obj.map zj) j*C.x j)⟩⟩,Y (ξ ⟨bX,0,θ⟩) (O (zC p)) (O (zC p)),η,Y (ξ ⟨b1,0,θ⟩) (O (zk p)) (O (zk p)),Y (ξ ⟨b2,0,θ⟩) (O (zC p)) (O (zC p))];intro c9 fn ct;have b4:Tr a2 J an c9:=FG ct ⟨Z,λb hb=>.inl (Z0.go b hb)⟩;have am:∀b,b<3*a2->b≠3*(n+1)+2->c9 b=J b:=λb hb hn=>(ct.1 b hn).trans (Z0.go b hb);apply(zG);apply zq (hx:=⟨Z,λb hb=>(am b Z Z).trans ((b7.go b Z).trans (X5.go b hb))⟩);exact .inr ⟨hv,M,N,(B,zs),s2,C,⟨c,w.iv⟩,.inr (.inr ⟨bX,b1,b2,ω,F9,R,(bi.go b4 (am _ bi.o.1 (by have:=oX.lo;omega))).low Z,(o1.go b4 (am _ o1.o.1 (by have:=o1.lo;omega))).low Z,(o2.go b4 (am _ o2.o.1 (by have:=o2.lo;omega))).low Z⟩)⟩
def cq(p:LPD)(R C:List (List UInt8))(j i:Nat):Rat:=colQ (zk p) (R.map zj) (((C.map zj)[j]?).getD 0) j i
def sq(p:LPD)(R C X:List (List UInt8))(j:Nat):Rat:=dotR ((KB (zk p) (R.map zj) (C.map zj) (O (zk p)) 0).take j) ((X.map zj).take j)
section
variable{p:LPD}{R C X:List (List UInt8)}
end
section
variable{n:Nat}{p:LPD}
def zdg(k)(J:Sl h n 1 (Y ao lo co) (strs p.obj))(K:Kt h n (Y ar lr cr) p.rows)(M:Sl h n 1 (Y aw lw cw) (strs p.lower))(L:Sl h n 1 (Y au lu cu) (strs p.upper)):VF (J4 (k+2)) 4 [.agg #[Y ao lo co,Y ar lr cr,Y aw lw cw,Y au lu cu]] h n λv=>∃b:Bool,v=U b/\(b=φ->SmlP p):=by have ac:=z8 J;have ad:=K.len;have af:=z8 M;have ae:=z8 L;apply zO R4;apply(zG);apply sB [Y ao lo co,Y ar lr cr,Y aw lw cw,Y au lu cu];intro a4 am an;apply(zG);by_cases q12:(lo:Int)>5;exact Bx;apply(zG);by_cases q13:(lr:Int)>6;exact Bx;apply(zG);by_cases q14:(lw:Int)>7;exact Bx;apply(zG);by_cases q15:(lu:Int)>7;exact Bx;apply(zG);apply sC ((mI _ (8) J.x Z).cx);rintro _ a5 ag⟨Z3,rfl,C⟩ b0 ap;obtain⟨rfl,u⟩|⟨rfl,u⟩:=J7 C;exact Bx;apply(zG);apply sC ((mI _ (8) M.x Z).cx);rintro _ a6 ah⟨Z0,rfl,D⟩ b1 aq;obtain⟨rfl,w⟩|⟨rfl,w⟩:=J7 D;exact Bx;apply(zG);apply sC ((mI _ (8) L.x Z).cx);rintro _ I q⟨a0,rfl,F⟩ b2 av;obtain⟨rfl,y⟩|⟨rfl,y⟩:=J7 F;exact Bx;apply(zG);apply sF (α:=Nat) (λz=>[(1,ε (3*n+2)),(3,υ (z:Int))]) (λz P T Z4=>Z4=[]/\q<=T/\ExtB q [] I P/\z<=O p.rows/\∀r∈p.rows.take z,Qn r) (λz=>O p.rows-z) 0 ⟨ω,Cy,Ed _ _ _,Cz,(λs R=>Cu R eC)⟩;rintro i t a7 ai _⟨rfl,b3,V,hi,e⟩;(try dsimp only at hi e);apply(zG);by_cases q20:(i:Int)<(lr:Int);apply(Zh);obtain⟨l,m⟩:∃d,(p.rows)[i]?=ξ d:=⟨_,CD Z⟩;have⟨ab,al,W,N,a3,c,f,g,j,o⟩:=Kt.at K m;have S:=z8 o;apply dI c g;apply(zH);apply dL j f 0;apply(zH);by_cases q22:(N:Int)>7;exact Bx;apply(zH);apply dI c g;apply(zH);apply dL j f 0;apply dC ((mI _ (8) o.x Z).cx);rintro _ a8 aj⟨a1,rfl,G⟩ b4 ax;obtain⟨rfl,A⟩|⟨rfl,A⟩:=J7 G;exact Bx;apply(zH);apply dI c g;apply(zH);apply dL j f 1;apply(zH);apply dI c g;apply(zH);apply dL j f 2;refine Ub [CG ⟨⟨l.lo⟩⟩,CG ⟨⟨l.hi⟩⟩] R5 λa9 Z1 ay=>?_;apply dC ((mI _ (8) (zo8 Z1 Z) (by show 2<100000000;omega)).cx);rintro _ aa ak⟨a2,rfl,H⟩ b5 az;obtain⟨rfl,B⟩|⟨rfl,B⟩:=J7 H;exact Bx;apply(zJ);exact sK (i+1) ⟨ω,Z,zy,Z,(ot e m ⟨Z,A,B⟩)⟩;apply(zf);exact⟨_,ω,λ_=>⟨Z,Z,Z,Z,u,w,y,by have a:=e;rw[CL Z]at a;exact a⟩⟩
end
section
variable{n:Nat}{v:ψ}{p:LPD}
def NX(n:Nat)(v:ψ):Prop:=∀ad len cap,v=Y (ξ ad) len cap->ad.block<3*n
def Km.blt{L}(s:Km lo h n v L):NX n v:=by
 have⟨s,_⟩:=s;generalize strs L=c at s;intro j g f e;subst e;cases s with
 |nil a=>
  obtain a|⟨b,i,l,a,d⟩:=a;cases a;cases a;exact d
 |at_ d=>exact d
theorem zxr(k)(io:Sl h n 1 (Y ao lo co) (strs p.obj))(ir:Kt h n (Y ar lr cr) p.rows)(iw:Sl h n 1 (Y aw lw cw) (strs p.lower))(iu:Sl h n 1 (Y au lu cu) (strs p.upper))(hp:SmlP p):CX (J4 (k+3)) 6 [.agg #[Y ao lo co,Y ar lr cr,Y aw lw cw,Y au lu cu]] h n λv B C=>∃aO lO kO aR lR kR aL lL kL aU lU kU nA nB nC,v=.agg #[Y aO lO kO,Y aR lR kR,Y aL lL kL,Y aU lU kU]/\(n<=nA/\nA<=nB/\nB<=nC/\nC<=C)/\Km n B C (Y aO lO kO) p.obj/\GRW nC B C (Y aR lR kR) (vo p)/\Km nA B C (Y aL lL kL) (fitL p.lower (O p.obj) [])/\Km nB B C (Y aU lU kU) (fitL p.upper (O p.obj) [])/\NX nA (Y aO lO kO)/\NX nB (Y aL lL kL)/\NX nC (Y aU lU kU):=by
 have bo:=z8 io;have bp:=ir.len;have br:=z8 iw;have bq:=z8 iu;have⟨be,bf,bg,bh,bi,bj,bk,aj⟩:=hp;apply zw R4;apply(zG);apply sB [Y ao lo co,Y ar lr cr,Y aw lw cw,Y au lu cu];intro b7 bu c4;apply(sA);intro b8 bv c5;apply(Zh);apply dC (UD _ io.x Z);rintro _ b9 a5⟨u,y,w,rfl,a2⟩ cc c6;apply(zH);apply dC (bI _ iw.x Z (m:=lo) Z []);have ab:=a2.blt;rintro _ af V⟨j,q,rfl,S⟩ cd c7;have S:Km a5 af V (Y j lo q) (fitL p.lower (O p.obj) []):=by grind
 have ac:=S.blt;apply(zH);apply dC (bI _ iu.x Z (m:=lo) Z []);rintro _ ag a⟨o,s,rfl,T⟩ ce c8;have T:Km V ag a (Y o lo s) (fitL p.upper (O p.obj) []):=by grind
 have ae:NX (a+1) _:=λad len cap e=>CS (T.blt ad len cap e) Z;apply dT #[Y u y w,η,Y j lo q,Y o lo s];apply dB [η,η,η,η];intro ba bw c9;apply dS [Y u y w,η,Y j lo q,Y o lo s];intro ah av bs;apply(zG);apply sF (α:=Nat×Option Addr×Nat×Nat) (λz=>[(1,ε (3*n+2)),(2,ε (3*(n+1)+2)),(3,υ (lo:Int)),(4,ε (3*a+2)),(5,υ (z.1:Int))]) (λz B C w'=>w'=[]/\a+1<=C/\ExtB (a+1) [3*a+2] ah B/\B (3*a+2)=ξ (.row [Y u y w,Y z.2.1 z.2.2.1 z.2.2.2,Y j lo q,Y o lo s] 25)/\GRW (a+1) B C (Y z.2.1 z.2.2.1 z.2.2.2) ((vo p).take z.1)/\z.1<=O p.rows) (λz=>O p.rows-z.1) (0,θ,0,0) ⟨ω,Cy,Ed _ _ _,av,GRW.nil _ _ _,Cz⟩;rintro⟨i,Z0,lT,kT⟩ t P K _ ⟨rfl,cf,b3,L,b,hi⟩;dsimp only at L b hi;apply(zG);by_cases q19:(i:Int)<(lr:Int);apply(Zh);obtain⟨g,N⟩:∃d,(p.rows)[i]?=ξ d:=⟨_,CD Z⟩;have⟨bm,bt,b4,bn,b5,M,Z4,W,Z3,a3⟩:=Kt.at ir N;have b0:=z8 a3;apply dI M W;apply(zH);apply dL Z3 Z4 0;apply(zH);apply dC (bI _ a3.x (by have:=(aj _ (CE N)).1;omega) (m:=lo) Z [48]);rintro _ ai F⟨H,I,rfl,a4⟩ cg ca;have a4:Km K ai F (Y H lo I) (fitL g.A (O p.obj) [48]):=by grind
 apply(zH);apply dI M W;apply(zH);apply dL Z3 Z4 1;apply(zH);apply dI M W;apply(zH);apply dL Z3 Z4 2;apply dT #[Y H lo I,CG ⟨⟨g.lo⟩⟩,CG ⟨⟨g.hi⟩⟩];refine Ub [Y H lo I,CG ⟨⟨g.lo⟩⟩,CG ⟨⟨g.hi⟩⟩] (l:=1) (c:=1) R5 λR ax cb=>?_;have az:Ma (a+1) [Y H lo I,CG ⟨⟨g.lo⟩⟩,CG ⟨⟨g.hi⟩⟩] (Qo (O p.obj) g) R (F+1):=⟨_,_,_,ω,(a4.x).lo (show a+1<=K from Z)⟩;have⟨b1,f,a9⟩:=((b.x (h':=R) (n':=F+1) zx)).ex;have a8:R (3*F+2)=_:=ax;refine YM (lo:=(a+1)) (mm:=1) ω ω ω ω ω ω ω ω ⟨Da ω,Da ω⟩ ω ω ω f (yp a8 R2) Cy aD ω ω ⟨Bf,Z⟩ λc3 J b2 Z1 a6 D b6=>?_;have aa:=GRW.app f a9 az D Z1;have⟨a1,a7,_⟩:=Z1.shape;subst a7;replace a6:Exa (a+1) _ _:=⟨a6⟩;have bx:J (3*n+2)=_:=(D.blk f (zB _) Z).trans zp;have bz:J (3*(n+1)+2)=_:=(D.blk f (zB _) Z).trans zp;have c0:J (3*a+2)=_:=(D.blk f (zB _) Z).trans zp;have c1:J (3*F+2)=_:=(D.blk f (zB _) Z).trans zp;apply(zH);apply dS [Y u y w,Y a1 (O ((vo p).take i)+1) (O ((vo p).take i)+1),Y j lo q,Y o lo s];intro bb ay aq;have ak:=aa.sto aq Z;apply(zG);exact sK (i+1,a1,(O ((vo p).take i)+1),(O ((vo p).take i)+1)) ⟨ω,Z,zy,ay,((xa (zal N)).symm▸ak),Z⟩;apply(zG);have bd:i=O p.rows:=Z;have a0:GRW (a+1) P K (Y Z0 lT kT) (vo p):=by grind [rW,CL]
 apply(zG);apply sS [Y u y w,Y Z0 lT kT,Y j lo q,Y o lo s];intro bc c2 G;have al:=a2.x.sto G Z;have am:=S.x.sto G Z;have an:=T.x.sto G Z;have bl:=b.sto G Z;have ap:=a0.sto G Z;apply(zq);exact⟨_,_,_,_,_,_,_,_,_,_,_,_,a5,V,a+1,ω,⟨Z,Z,Z,Z⟩,(al).lo Z,ap,am,an,ab,ac,ae⟩
def zlw(k)(F:Sl h n 1 (Y ao lo co) (strs p.obj))(G:Kt h n (Y ar lr cr) p.rows)(I:Sl h n 1 (Y aw lw cw) (strs p.lower))(H:Sl h n 1 (Y au lu cu) (strs p.upper))(y:SmlP p):CX (J4 (k+3)) 6 [.agg #[Y ao lo co,Y ar lr cr,Y aw lw cw,Y au lu cu]] h n λv a b=>∃d q j f s l c o i g u m,v=.agg #[Y d q j,Y f s l,Y c o i,Y g u m]/\Km n a b (Y d q j) p.obj/\GRW n a b (Y f s l) (vo p)/\Km n a b (Y c o i) (fitL p.lower (O p.obj) [])/\Km n a b (Y g u m) (fitL p.upper (O p.obj) []):=
 (zxr k F G I H y).mono λv a b⟨d,q,j,f,s,l,c,o,i,g,u,m,L,M,N,e,⟨w,J,K,_⟩,A,B,C,D,_⟩=>⟨d,q,j,f,s,l,c,o,i,g,u,m,e,A,B.lo Z,C.lo w,D.lo Z⟩
end
section
variable{p:LPD}{X:List (List UInt8)}
theorem lF(hv:VLP p)(b:O X=O p.obj):valQ p X=Kb (O (zC p)) λj=>atR (p.obj.map zj) j*atR (X.map zj) j:=by have a:=hv.cols;grind [valQ,rM,CL,CN]
end
def OTN.ss{n0 n b}{h}{ss}(o:OTN n0 h n b ss){L}(a:O ss=L):Sl h n 1 (Y (ξ ⟨b,0,θ⟩) L L) (strs ss):=o.o.sl a.symm Cy
section
variable{r:Nat}{up:Bool}
theorem qu{q}:(Ke N λv=>ratT (q v)).map zj=Ke N q:=by grind [Ke,yb,Ip,D5]
def zgf{v}{q}(h:v<N):atR (Ke N q) v=q v:=wg (wo h)
def gK{n}{a}{x}{D}(h:Vtx n m a x nV D)(q:∀v,v<n+m->∀j,j<n->(a v j).natAbs<=10^32)(l:1<=n)(o:n<=5){v}(hv:v<n+m):Kg 822 (ratT (x v)):=by have⟨e,f,g,i,_⟩:=num8 l o;have d:=h.qb Z (q v hv);have u:=OV d g i zd zd;exact⟨Z,by rw[yb];exact(d.sz e (CS f cA)).mono zd⟩
def UR{st}:∀k,conF st r low k=Mv (Ka (λ_=>0) (st.bs r) (Kj low)) st.nb (λc=>(st.T r c:Rat)/st.d*Kj (!low)) k
 |0=>rfl
 |k+1=>congrArg (Ka · _ _) (UR k)
def US{st}{s}:∀k,optF st m s k=Mv (λ_=>0) st.nb (λc=>(st.T m c:Rat)/st.d/s) k
 |0=>rfl
 |k+1=>congrArg (Ka · _ _) (US k)
def UT{st}:∀k,rayF st c up k=Mv (Ka (λ_=>0) (st.nb c) (Kj up)) st.bs (λi=>(st.T i c:Rat)/st.d*Kj up) k
 |0=>rfl
 |k+1=>congrArg (Ka · _ _) (UT k)
section
variable{p:LPD}{ss:List Rat}{b:Nat->Rat}
structure PrZ (p:LPD):Prop where
 v:VLP p
 q:PrO (zC p) (zk p) (p.obj.map zj)
 o:∀q∈p.obj.map zj,NE (10^6) (10^8) q
def PrZ.n(z:PrZ p):O (zC p)=O p.obj:=z.v.cols
noncomputable abbrev rT (p:LPD) (ss:List Rat) (M:Nat->Rat):List (List UInt8):=Ke (O (zk p)) λi=>ratT (M (O (zC p)+i)*KL (zC p) ss (O (zC p)+i))
noncomputable abbrev cT (p:LPD) (ss:List Rat) (M:Nat->Rat):List (List UInt8):=Ke (O (zC p)) λv=>ratT (M v*KL (zC p) ss v)
theorem UU(e:SolI p ss bz y s st)(z:PrZ p)(J:990<=c):(∀t∈Ke (O (zC p)) λv=>ratT (st.x v),Kg 822 t)/\dotZ c p ((Ke (O (zC p)) λv=>ratT (st.x v)).map zj):=by have⟨D,a⟩:=e.vtx z.q;have f:=Mw e.c z.q;have A:=z.q.n1;have B:=z.q.n5;have C:∀l:List Rat,(∀q∈l,NE (10^6) (10^8) q)->O l<=O (zC p)->∀i,i<=O l->Sz c (dotR (l.take i) ((Ke (O (zC p)) st.x).take i)):=λl G u i F=>(UF a f A B (λq H=>(G q H).up) u yo (λv w=>wo w) F).mono Z;refine⟨λt I=>?_,?_,λd g j K=>?_⟩;obtain⟨v,w,rfl⟩:=kJ I;exact gK a f A B Z;rw[qu];exact C _ z.o (GU z.q.lo.1);rw[qu];have h:=z.q.lr d g;grind
def zx6(z:PrZ p){x:Nat->Rat}:valQ p (Ke (O (zC p)) λv=>ratT (x v))=Kb (O (zC p)) λj=>atR (p.obj.map zj) j*x j:=by rw[lF z.v (by rw[yo];exact z.n)];exact yg λj a=>by rw[qu,zgf a]
theorem oQ(A:SolI p ss bz y s st)(z:PrZ p){e}(G:e<O (zC p)):0<st.d.natAbs/\st.d.natAbs<=T0/\∀v,∃w:Int,((st.d.natAbs:Nat):Rat)*rayF st e up (O (zk p)) v=w/\w.natAbs<=T0:=by
 have f:=A.I;have l:=Mw A.c z.q;have Z1:=f.toPB.tab.dp;have B:=Qv z.q.n1 z.q.n5;have o:=CU (f.toPB.bD l) B.2;have F:((st.d.natAbs:Nat):Rat)=(st.d:Rat):=by rw[<-Dj];congr 1;omega
 have g:∀(x:Int) (u:Bool),x.natAbs<=T0->∃w:Int,(x:Rat)*Kj u=w/\w.natAbs<=T0:=λx u D=>by
  cases u with
  |true=>exact⟨x,FB _,D⟩
  |false=>exact⟨-x,by rw[Il];show(x:Rat)* -1=_;grind,by rw[E2];exact D⟩
 refine⟨Z,o,λv=>?_⟩;rw[UT];refine OY (P:=λq=>∃w:Int,((st.d.natAbs:Nat):Rat)*q=w/\w.natAbs<=T0) (λv=>?_) (λi C=>?_) _ Cy v;unfold Ka;split;rw[F];exact g st.d up o;exact B9;have J:=Fi (a:=(st.T i e:Rat)) f.toPB.d0;have⟨w,K,L⟩:=g (st.T i e) up (CU (f.toPB.bT l (DZ C) G λj H=>l _ (f.toPB.bv i C) j H) B.1);grind
def nz(j:SolI p ss bz y s st)(z:PrZ p){e}(l:e<O (zC p)){v}:QB T0 T0 (rayF st e up (O (zk p)) v):=by have⟨o,a,f⟩:=oQ (up:=up) j z l;have⟨w,g,i⟩:=f v;exact⟨w,st.d.natAbs,Z,by rw[Dj];exact g,i,by rw[CR];exact a⟩
theorem zz4(B:SolI p ss bz y s st)(z:PrZ p){e}(D:e<O (zC p))(R:1240<=c):(∀t∈Ke (O (zC p)) λv=>ratT (rayF st e up (O (zk p)) v),Kg 568 t)/\dotZ c p ((Ke (O (zC p)) λv=>ratT (rayF st e up (O (zk p)) v)).map zj):=by have Z4:=z.q.n5;have⟨g,P,T⟩:=oQ (up:=up) B z D;have J:∀l:List Rat,(∀q∈l,NE (10^6) (10^8) q)->O l<=O (zC p)->∀i,i<=O l->Sz c (dotR (l.take i) ((Ke (O (zC p)) (rayF st e up (O (zk p)))).take i)):=λl G H i F=>(by rw[Ql yo (λv I=>wo I) H F];have K:∀j,j<O l->PZ st.d.natAbs (10^6) (T0*10^8) (rayF st e up (O (zk p)) j*atR l j):=λj u=>(by have f:=G _ (Ft u);rw[wg (CD u)];exact PZ.mul g (T j) ⟨(l[j]).den,(l[j]).num,(l[j]).den_pos,f.den,LQ _,CU f.num (Ep _ (l[j]).den_pos)⟩);have w:=PZ.sum K i F;have L:Kb i (λj=>rayF st e up (O (zk p)) j*atR l j)=Kb i λj=>atR l j*rayF st e up (O (zk p)) j:=yg λj _=>FZ _ _;rw[L]at w;have Z1:=(w.mono (CQ zd (show i<=5 from Z)) (CM _ (show i<=5 from Z))).qb g;have A:=CM ((10^6)^5) P;exact(Z1.sz (a:=1240) (C7 (CM _ A) cA) (C7 A cA)).mono R);refine⟨λt S=>?_,?_,λd C j u=>?_⟩;obtain⟨v,I,rfl⟩:=kJ S;have f:=nz (up:=up) B z D (v:=v);have G:=OV (a:=163) (b:=163) f cA cA zd zd;exact⟨Z,by rw[yb];exact f.sz cA cA⟩;rw[qu];exact J _ z.o (GU z.q.lo.1);rw[qu];have h:=z.q.lr d C;grind
end
end
section
variable{n r:Nat}{up:Bool}
def ad(d:Rat)(k v:Nat):Rat:=if v=k then d else 0
def Lv(L:List (List UInt8))(k:Nat)(d:Rat):List (List UInt8):=L.set k (ratT (zj ((L[k]?).getD [])+d))
section
variable{d:Rat}{q:Nat->Rat}
theorem kj:Lv (Ke N λv=>ratT (q v)) k d=Ke N λv=>ratT (q v+ad d k v):=by
 refine Eh λv=>?_;have g:∀(f:Nat->List UInt8) (v:Nat),(Ke N f)[v]?=if v<N then ξ (f v)else θ:=λf v=>by
  by_cases h:v<N
  .rw[wo h,Cw h]
  rw[Dc xd,Cv h]
 unfold Lv ad;simp only[G3,g,yo];by_cases e:k=v
 .subst e;by_cases hv:k<N<;>simp[hv,yb]
 simp[e,Ne.symm e,FY]
def kh:Lv [] k d=[]:=rfl
def mS{L}:Lv L (O L) d=L:=List.set_eq_of_length_le Cy
def zz7{L}:O (Lv L k d)=O L:=DH
def NE.add{E F G}{x y}(hx:NE E P x)(e:NE F G y):NE (E*F) (P*F+G*E) (x+y):=
 ⟨by rw[ut];exact CU (Ei _ _) (C6 hx.den e.den),by
  rw[ur];refine CU (Int.natAbs_ediv_le_natAbs _ _) (CU (IU _ _) ?_);rw[Dl,Dl,CR,CR];exact Nat.add_le_add (C6 hx.num e.den) (C6 e.num hx.den)⟩
def NE.txt{E}{q}(h:NE E P q)(g:P<10^a)(f:E<10^b)(i:1<=a)(hb:1<=b)(o:a+b<498)(j:P<2^c)(e:E<2^c):Kg c (ratT q):=by have u:=OV (q:=q) ⟨q.num,q.den,AL,by rw[Dj];exact LQ _,h.num,by rw[CR];exact h.den⟩ g f i hb;exact⟨Z,by rw[yb];exact⟨C7 h.num j,C7 h.den e⟩⟩
variable (hd:NE (10^6) (10^8) d)
include hd
def O0{v}:NE (10^6) (10^8) (ad d k v):=by unfold ad;split;exact hd;exact⟨by decide,by decide⟩
theorem PZ.ad{E Q v}{p}(h:PZ E Q B p):PZ (E*d.den) Q (B+10^8) (p+ad d k v):=by
 have⟨q,i,j,w,f,o⟩:=h;obtain⟨z,e,g⟩:∃z:Int,(d.den:Rat)*Go.Proofs.YtdeaddceicfanaaGreatDoor.ad d k v=z/\z.natAbs<=10^8:=(by unfold Go.Proofs.YtdeaddceicfanaaGreatDoor.ad;split;exact⟨d.num,LQ _,hd.num⟩;exact B9);have u:=d.den_pos;refine⟨q,i,j,d.den*w+E*q*z,?_,?_⟩;simp only[Gi,Jv,Du,Dj]at f e⊢;rw[<-f,<-e];grind;refine CU (IU _ _) ?_;rw[Dl,Dl,Dl,CR,CR,CR];have A:=C4 d.den o;have C:=C6 (Ep (E*q) u) g;have D:E*d.den*q*(B+10^8)=d.den*(E*q*B)+d.den*(E*q)*10^8:=by grind
 omega
variable{p:LPD}
def UX{e}(z:PrZ p)(h:dotZ c p ((Ke (O (zC p)) λv=>ratT (q v)).map zj))(J:c+55<=e):dotZ e p ((Ke (O (zC p)) λv=>ratT (q v+ad d k v)).map zj):=by have g:∀l:List Rat,(∀q∈l,NE (10^6) (10^8) q)->O l<=O (zC p)->∀i,i<=O l->Sz c (dotR (l.take i) ((Ke (O (zC p)) q).take i))->Sz e (dotR (l.take i) ((Ke (O (zC p)) λv=>q v+ad d k v).take i)):=λl G H i F A=>(by rw[Ql yo (λv I=>wo I) H F]at A⊢;have D:(Kb i λj=>atR l j*(q j+ad d k j))=(Kb i λj=>atR l j*q j)+Kb i λj=>atR l j*ad d k j:=(by rw[<-zwv];exact yg λj _=>Rat.mul_add _ _ _);rw[D];refine(A.add (b:=54) ?_).mono Z;have u:∀x:Rat,NE (10^6) (10^8) x->Sz 27 x:=λx C=>⟨C7 C.num zd,C7 C.den zd⟩;by_cases hk:k<i;rw[Qa hk λj _ f=>by unfold ad;rw[Cv f,FJ]];refine(u _ ?_).mul (u _ (O0 hd));rw[wg (CD (l:=l) (i:=k) Z)];exact G _ (Ft _);rw[Ts λj f=>by unfold ad;rw[Cv Z,FJ]];exact H8 _ zd);rw[qu]at h⊢;refine⟨λj f=>g _ z.o (GU z.q.lo.1) j f (h.1 j f),λd hd j f=>?_⟩;have w:=z.q.lr d hd;exact g _ w.2.2.2.2 (GU w.2.2.2.1) j f (h.2 d hd j f)
variable{ss:List Rat}
def UY(e:SolI p ss bz y s st)(z:PrZ p):(∀t∈Ke (O (zC p)) λv=>ratT (st.x v+ad d k v),Kg 822 t)/\dotZ 1045 p ((Ke (O (zC p)) λv=>ratT (st.x v+ad d k v)).map zj):=by refine⟨λt o=>?_,UX hd z (UU e z Cy).2 zd⟩;obtain⟨v,C,rfl⟩:=kJ o;have⟨D,j⟩:=e.vtx z.q;have⟨w,A,g,i,_⟩:=num8 z.q.n1 z.q.n5;have f:=(j.qb Z (Mw e.c z.q v Z)).nd;have u:NE (10^208) (10^241) (st.x v):=⟨CU f.2 (DZ i),CU f.1 (DZ g)⟩;exact(u.add (O0 hd)).txt (a:=248) (b:=215) cA cA zd zd zd cA cA
def yac(f:SolI p ss bz y s st)(z:PrZ p){e}(g:e<O (zC p)):(∀t∈Ke (O (zC p)) λv=>ratT (rayF st e up (O (zk p)) v+ad d k v),Kg 568 t)/\dotZ 1300 p ((Ke (O (zC p)) λv=>ratT (rayF st e up (O (zk p)) v+ad d k v)).map zj):=by
 have h:=zz4 (up:=up) f z g Cy;refine⟨λt j=>?_,UX hd z h.2 zd⟩;obtain⟨v,o,rfl⟩:=kJ j;have i:=(nz (up:=up) f z g (v:=v)).nd;exact(NE.add ⟨i.2,i.1⟩ (O0 hd)).txt (a:=174) (b:=170) cA cA zd zd zd cA cA
noncomputable abbrev rTa (p:LPD) (ss:List Rat) (M:Nat->Rat) (k:Nat) (d:Rat):List (List UInt8):=Ke (O (zk p)) λi=>ratT (M (O (zC p)+i)*KL (zC p) ss (O (zC p)+i)+ad d k i)
noncomputable abbrev cTa (p:LPD) (ss:List Rat) (M:Nat->Rat) (k:Nat) (d:Rat):List (List UInt8):=Ke (O (zC p)) λv=>ratT (M v*KL (zC p) ss v+ad d k v)
def UZ{E}(c:ScI (zC p) (zk p) (p.obj.map zj) ss bz y s)(z:PrZ p)(u:E<=T0*10^30)(w:WZ (O (zC p)+O (zk p)) E (T0*10^8) M):(∀t∈rTa p ss M k d,Kg 700 t)/\(∀t∈cTa p ss M l d,Kg 700 t)/\sumZ 1760 (zk p) (zC p) ((rTa p ss M k d).map zj) ((cTa p ss M l d).map zj)/\Nl 1760 (zk p) ((rTa p ss M k d).map zj) ((cTa p ss M l d).map zj):=by have⟨f,g⟩:=c.szm z.q u w;have f:∀i,i<O (zk p)->_:=λi e=>f _ (CE (wo e));have g:∀i,i<O (zC p)->_:=λi e=>g _ (CE (wo e));have A:∀(q:Rat) (k v:Nat),QB (T0*10^38) (T0*10^38) q->Kg 700 (ratT (q+ad d k v)):=λq k v h=>(NE.add ⟨h.nd.2,h.nd.1⟩ (O0 hd)).txt (a:=209) (b:=207) cA cA zd zd zd cA cA;rw[qu,qu];refine⟨λt o=>?_,λt o=>?_,z.q.szs (Et w.1 d.den_pos) (CU (C6 u hd.den) cA) (λq j=>?_) λq j=>?_⟩;obtain⟨i,e,rfl⟩:=kJ o;exact A _ _ _ (f i e).2;obtain⟨i,e,rfl⟩:=kJ o;exact A _ _ _ (g i e).2;obtain⟨i,e,rfl⟩:=kJ j;exact((f i e).1.ad hd).mono zd cA;obtain⟨i,e,rfl⟩:=kJ j;exact((g i e).1.ad hd).mono Cy cA
end
section
variable{p:LPD}{ss:List Rat}
def O1(p:LPD)(X Z3 R C:List (List UInt8)):Prop:=∀d,NE (10^6) (10^8) d->∀i j k l V,O V<1000000->CkZ p V (Lv X i d) (Lv Z3 j d) (Lv R k d) (Lv C l d)
def zr0(e:SolI p ss bz y s st)(z:PrZ p):O1 p (Ke (O (zC p)) λv=>ratT (st.x v)) [] (rT p ss (optF st (O (zk p)) s (O (zC p)))) (cT p ss (optF st (O (zk p)) s (O (zC p)))):=λd hd i j k l V u=>by
 have⟨E,g,f⟩:=zzj e.c z.q z.o e.I;rw[<-US]at f;have⟨w,A,C⟩:=UZ hd (k:=k) (l:=l) e.c z g f;have⟨D,F⟩:=UY hd (k:=i) e z;have J:=z.q.n1;have K:=z.q.n5;have H:=z.q.m6;have G:=z.n;rw[kj,kj,kj,kh];refine⟨D,λt h=>Aa,w,A,⟨?_,?_,?_,?_,u⟩,λ_=>F,λh=>?_,λ_ _=>C⟩
 .rw[yo];omega
 .decide
 .rw[yo];omega
 .rw[yo];omega
 have h:0=O p.obj:=h;omega
def zr1(e:SolI p ss bz y s st)(z:PrZ p)(u:r<O (zk p)):O1 p [] [] (rT p ss (conF st r low (O (zC p)))) (cT p ss (conF st r low (O (zC p)))):=λd hd i j k l V o=>by
 have⟨E,g,f⟩:=zzs (low:=low) e.c z.q e.I u;rw[<-UR]at f;have⟨v,w,A⟩:=UZ hd (k:=k) (l:=l) e.c z g f;have F:=z.q.n1;have G:=z.q.n5;have D:=z.q.m6;have C:=z.n;rw[kj,kj,kh,kh];refine⟨λt h=>Aa,λt h=>Aa,v,w,⟨?_,?_,?_,?_,o⟩,λh=>?_,λh=>?_,λ_ _=>A⟩
 .decide
 .decide
 .rw[yo];omega
 .rw[yo];omega
 .have h:0=O p.obj:=h;omega
 have h:0=O p.obj:=h;omega
def zrz(f:SolI p ss bz y s st)(z:PrZ p){e}(o:e<O (zC p)):O1 p (Ke (O (zC p)) λv=>ratT (st.x v)) (Ke (O (zC p)) λv=>ratT (rayF st e up (O (zk p)) v)) [] []:=λd hd i j k l V g=>by
 have⟨u,w⟩:=UY hd (k:=i) f z;have⟨A,C⟩:=yac hd (k:=j) (up:=up) f z o;have F:=z.q.n1;have G:=z.q.n5;have D:=z.n;rw[kj,kj,kh,kh];refine⟨u,A,λt h=>Aa,λt h=>Aa,⟨?_,?_,?_,?_,g⟩,λ_=>w,λ_=>C,λ_ h=>?_⟩
 .rw[yo];omega
 .rw[yo];omega
 .decide
 .decide
 have h:0=O p.obj:=h;omega
end
def U1{q}(h:Sz a q)(f:2^a<10^m)(e:1<=m):O (ratT q)<=m+m+2:=OV ⟨q.num,q.den,AL,by rw[Dj];exact LQ _,DZ h.1,by rw[CR];exact DZ h.2⟩ f f e e
def SolR.tam{p}{w}(r:SolR p n0 w h n)(I:SmlP p):∃oc V aX lX aY lY aR lR aC lC X Z3 R C e,w=.tuple #[.agg #[υ oc,CG ⟨⟨V⟩⟩,Y aX lX lX,Y aY lY lY,Y aR lR lR,Y aC lC lC],υ e]/\(Sl h n 1 (Y aX lX lX) (strs X)/\Sl h n 1 (Y aY lY lY) (strs Z3)/\Sl h n 1 (Y aR lR lR) (strs R)/\Sl h n 1 (Y aC lC lC) (strs C))/\(¬VLP p/\e=1\/VLP p/\e=0/\(O X<=6/\O Z3<=6/\O R<=6/\O C<=6)/\TL V/\Sz 1000 (zj V)/\O V<1000000/\O1 p X Z3 R C):=by
 have f:Sl h n 1 (η) (strs []):=.nil (.inl ω);obtain⟨g,rfl⟩|⟨g,ss,bz,y,s,st,F,S⟩:=r;exact⟨_,_,_,_,_,_,_,_,_,_,[],[],[],[],_,ω,⟨f,f,f,f⟩,.inl ⟨g,ω⟩⟩;have z:PrZ p:=⟨g,UE g I.q,λq o=>by
  obtain⟨t,T,rfl⟩:=DL.1 o;exact Mr (I.ob t T)⟩
 have n5:=z.q.n5;have m6:=z.q.m6;have i:TL []/\Sz 1000 (zj [])/\O ([]:List UInt8)<1000000:=⟨TL.of zd,by rw[xX so];exact H8 _ zd,by decide⟩;have v:∀{q:Nat->List UInt8},(Ke (O (zC p)) q).length<=6:=by intro q;rw[yo];omega
 have J:∀{q:Nat->List UInt8},(Ke (O (zk p)) q).length<=6:=by intro q;rw[yo];omega
 have u:O ([]:List (List UInt8))<=6:=by decide
 obtain⟨r,low,q,K,L,rfl,G,H,A,D⟩|⟨e,up,Z1,W,rfl,G,H,Z0,A,D⟩|⟨Z1,K,L,rfl,G,H,A,D,Z4⟩:=S;exact⟨_,_,_,_,_,_,_,_,_,_,[],[],_,_,_,ω,⟨f,f,A.ss yo,D.ss yo⟩,.inr ⟨g,ω,⟨u,u,J,v⟩,i.1,i.2.1,i.2.2,zr1 F z G.hr⟩⟩;exact⟨_,_,_,_,_,_,_,_,_,_,_,_,[],[],_,ω,⟨A.ss yo,D.ss yo,f,f⟩,.inr ⟨g,ω,⟨v,v,u,u⟩,i.1,i.2.1,i.2.2,zrz F z H.he⟩⟩;have o:Sz 1000 (Kb (O (zC p)) λj=>atR (p.obj.map zj) j*st.x j):=(by rw[<-zx6 z];exact(UU (c:=1000) F z zd).2.val);have hl:=U1 o (m:=302) cA zd;exact⟨_,_,_,_,_,_,_,_,_,_,_,[],_,_,_,ω,⟨A.ss yo,f,D.ss yo,Z4.ss yo⟩,.inr ⟨g,ω,⟨v,u,J,v⟩,TL.ratT (o.mono zd),by rw[yb];exact o,Z,zr0 F z⟩⟩
end
section
variable{ss:List Rat}
end
section
variable{n:Nat}
end
def modM(k)(h)(n){x}{m:Nat}(hx: -9223372036854775808<=x/\x<9223372036854775808)(e:1<=m)(g:m<=6):VF (J4 (k+1)) 9 [υ x,υ (m:Int)] h n λv=>∃r:Nat,r<m/\v=υ (r:Int):=by
 have f:(x.tmod m).natAbs<m:=by rw[Int.natAbs_tmod,CR];exact Nat.mod_lt _ e
 obtain⟨r,hr⟩:∃r,r=x.tmod m:=⟨_,ω⟩;rw[<-hr]at f;have c:m=1\/m=2\/m=3\/m=4\/m=5\/m=6:=Z;apply zO R4;apply(zG);apply st_I (ik:=.i64) (a:=r) ⟨ω,ω,ω,ω,(by rw[hr];obtain rfl|rfl|rfl|rfl|rfl|rfl:=c<;>rfl)⟩;apply(zG);by_cases q:r<0;apply(zG);apply(zf);exact⟨(r+m).toNat,Z,by rw[JT Z];rfl⟩;apply(zG);apply(zf);exact⟨r.toNat,Z,by rw[JT Z];rfl⟩
structure MB (h:HF)(n b cap:Nat)(L:List (List UInt8)):Prop where
 ex:∃T,OR 1 strP h n b T/\T.take (O L)=L/\O L<=O T
 cp:O L<=cap
 ty:KR h b 9
section
variable{n len:Nat}{L:List (List UInt8)}
def U5(h)(n):∀T:List (List UInt8),Rec 1 (λc s=>strP c s h n) (strs T) T
 |[]=>.nil
 |s::T=>.cons (c:=[CG ⟨⟨s⟩⟩]) ω ω (U5 h n T)
def Km.mb{a}(s:Km lo h n (Y a len cap) L)(l:len≠0):∃b,a=ξ ⟨b,0,θ⟩/\3*lo<=b/\len=O L/\MB h n b cap L:=by have c:=z8 s.1;obtain⟨b,A,x,B,rfl,v,_⟩:=s.1.inv l;have⟨p,q⟩:=s.2 _ _ _ rfl;have⟨T,e,u,f,g,j⟩:=q l;rw[c]at f g j;refine⟨b,congrArg ξ u,p,c,⟨T,⟨v,_,_,e,?_,U5 _ _ T⟩,f,g⟩,j,⟨_,e⟩⟩;rw[E3];intro x y;obtain⟨s,_,rfl⟩:=DL.1 y;rfl
def MB.go(o:MB h n b cap L)(t:Tr n h n' h')(e:h' b=h b):MB h' n' b cap L:=by have⟨⟨T,o,a,c⟩,f,C,g⟩:=o;exact⟨⟨T,o.go ad0 t e,a,c⟩,f,C,e.trans g⟩
theorem MB.lt(o:MB h n b cap L):b<3*n:=by
 obtain⟨⟨T,o,_⟩,_⟩:=o;exact o.1
def MB.ext(o:MB h n b cap L)(x:J3 n h h')(e:n<=n'):MB h' n' b cap L:=o.go ⟨e,λc a=>.inl (x c a)⟩ (x b o.lt)
theorem MB.sl(o:MB h n b cap L):Sl h n 1 (Y (ξ ⟨b,0,θ⟩) (O L) cap) (strs L):=by
 obtain⟨⟨T,⟨l,C,e,c,_,f⟩,g,p⟩,j⟩:=o;have a:=f.strsE;subst a;refine .at_ l c rfl j (by rw[Qm];omega) ?_;rw[Dy,DD];show(T.map _).take _=L.map _;rw[<-F2,g]
def MB.sse(o:MB h n b cap L)(hb:3*lo<=b):Km lo h n (Y (ξ ⟨b,0,θ⟩) (O L) cap) L:=by have s:=o.sl;have⟨⟨T,⟨_,C,e,a,_,g⟩,j,l⟩,p,q,c⟩:=o;have f:=g.strsE;subst f;rw[a]at c;cases c;exact⟨s,λu len cap e=>by cases e;exact⟨hb,λ_=>⟨T,a,ω,j,l,p⟩⟩⟩
def MB.slL(o:MB h n b cap L)(e:O L=len):Sl h n 1 (Y (ξ ⟨b,0,θ⟩) len cap) (strs L):=e▸o.sl
def MB.as{a}(o:MB h n b cap L)(e:L=a):MB h n b cap a:=e▸o
end
section
variable{X:CtxF}{t:TF}{n:Nat}
end
theorem zou{C}{o}{x y z w}(h:(C.drop o).take 3=[x,y,z]):zu C o [w]=zu C o [w,y,z]:=by grind [zu,DP,Ey]
def zkx{C}{o}{x y z}(h:o+3<=O C):O (zu C o [x,y,z])=O C:=by unfold zu;simp;omega
def U6{lo n}{h}{C}{e}(r:Rec 3 (λc d=>Ma lo c d h n) C e):C.all nu=φ/\ones C=φ:=by
 induction r with
 |nil=>exact⟨ω,ω⟩
 |cons _ hp _ ih=>
  obtain⟨a,l,k,rfl,_⟩:=hp;exact⟨(Hv).trans (by rw[ih.1];rfl),yZ ω ih.2⟩
def GRW.old{lo n n'}{h h':HF}{v}{f}(g:GRW lo h n v f)(u:∀b,3*lo<=b->b<3*n->h' b=h b)(A:n<=n'):GRW lo h' n' v f:=by
 have⟨C,p,y⟩:=g.ex;refine⟨C,?_,y.mono λc d⟨a,l,k,e,s⟩=>⟨a,l,k,e,s.go (λb _ j q _=>u b j q) A⟩⟩;generalize (O f)=m at p;cases p with
 |nil=>exact .nil
 |at_ hg hlo j hr hl ho=>exact .at_ hg hlo Z ((u _ hlo j).trans hr) hl ho
def GRW.put{lo}{h}{n}{u}{f H j}{p}{d}(g:GRW lo h n (Y u f H) p)(hj:p[j]?=ξ d):∃bR C,u=ξ ⟨bR,0,θ⟩/\gro bR=φ/\3*lo<=bR/\bR<3*n/\f=O p/\h bR=ξ (.row C 41)/\C.all nu=φ/\O C=f*3/\∀h' a l k L,Km lo h n (Y a l k) L->h' bR=ξ (.row (zu C (j*3) [Y a l k]) 41)->Only bR h h'->GRW lo h' n (Y u f H) (p.set j ⟨L,d.lo,d.hi⟩):=by
 have⟨C,v,y⟩:=g.ex;have q:=v;obtain⟨m,A⟩:∃m,m=O p:=⟨_,ω⟩;rw[<-A]at v;cases v with
 |nil=>
  have:=(CK.1 hj).1;omega
 | @at_ b _ _ hg hlo hb hr hl ho=>
  refine⟨b,C,ω,hg,hlo,hb,A,hr,(U6 y).1,hl,λh' a l k L J D G=>?_⟩;have⟨c,Z4,M,N,Z1⟩:=y.get hj;obtain⟨P,T,S,rfl,_⟩:=M;rw[zou N]at D;have K:Keep (Y (ξ ⟨b,0,θ⟩) f f) n h h':=λc R F=>G c λe=>(by subst e;exact F _ _ _ ω);have I:∀c d,Ma lo c d h n->Ma lo c d h' n:=λc d⟨a,l,k,e,s⟩=>⟨a,l,k,e,s.keep q K Cy⟩;have B:=(y.mono I).set2 (c:=[Y a l k,CG ⟨⟨d.lo⟩⟩,CG ⟨⟨d.hi⟩⟩]) (d:=⟨L,d.lo,d.hi⟩) ω ⟨a,l,k,ω,J.keep q K Cy⟩ (CK.1 hj).1;refine⟨_,?_,B⟩;rw[DH,<-A];exact .at_ hg hlo hb D ((zkx Z1).trans hl) (U6 B).2
section
variable{n:Nat}{p:LPD}{R:List (List UInt8)}
theorem zyx(k)(w:Sl h n 1 (Y ao lo co) (strs p.obj))(F:Kt h n (Y ar lr cr) p.rows)(H:Sl h n 1 (Y aw lw cw) (strs p.lower))(G:Sl h n 1 (Y au lu cu) (strs p.upper))(hp:LPB 27 p)(hv:VLP p){o}{V}{lm cm}{X Z3 C}(ix:Sl h n 1 (Y ax lx cx) (strs X))(iy:Sl h n 1 (Y ay ly cy) (strs Z3))(iz:Sl h n 1 (Y az lz cz) (strs R))(im:Sl h n 1 (Y am lm cm) (strs C))(hz:CkZ p V X Z3 R C):VF (J4 (k+11)) 38 [.agg #[Y ao lo co,Y ar lr cr,Y aw lw cw,Y au lu cu],.agg #[υ o,CG ⟨⟨V⟩⟩,Y ax lx cx,Y ay ly cy,Y az lz cz,Y am lm cm]] h n λv=>∃t:Bool,v=U t/\(t=φ↔Mb p o V X Z3 R C):=by
 have c:=hp;have g4:=z8 w;have g5:=F.len;have g7:=z8 H;have g6:=z8 G;have⟨fn,fj,fo,aa,bd,fk,fl,fm⟩:=hp;have g8:=z8 ix;have g9:=z8 iy;have ga:=z8 iz;have g3:=z8 im;have fh:=hv.ll;have fi:=hv.lu;have⟨hX,hY,hR,hC,⟨c4,c5,c3,c2,fg⟩,zX,zY,zS⟩:=hz;have ha:27+27<=2000:=by decide
 have eh:O (Z3.map zj)=O Z3:=by rw[CN]
 apply zO R4;apply(zG);apply sB [Y ao lo co,Y ar lr cr,Y aw lw cw,Y au lu cu];intro eo i1 ij;apply sB [υ o,CG ⟨⟨V⟩⟩,Y ax lx cx,Y ay ly cy,Y az lz cz,Y am lm cm];intro ep i2 il;apply(zG);apply sC (OS _ ix.x (λs hs=>(hX s hs).1) c4);rintro _ eq gb⟨d9,ft,dt,ea,rfl,e⟩ jm ip;apply(zG);apply sC (OS _ iy.x (λs hs=>(hY s hs).1) c5);rintro _ er gc⟨b9,bf,ba,eb,rfl,B⟩ jn iq;apply(zG);apply sC (OS _ iz.x (λs hs=>(hR s hs).1) c3);rintro _ es gd⟨da,fu,du,ec,rfl,f⟩ jo it;apply(zG);apply sC (OS _ im.x (λs hs=>(hC s hs).1) c2);rintro _ et ge⟨db,fv,dv,ed,rfl,g⟩ jp iv;apply(zG);by_cases q17:o=1;apply(zG);obtain⟨rfl,e⟩|⟨rfl,e,b2⟩|⟨rfl,e,b2,A⟩:=e;apply(zf);exact J8 λb=>have y:=(KK q17).1 b;Cu y.ax e;apply(zf);exact J8 λb=>have y:=(KK q17).1 b;by have:=y.len;omega
 have b6:=A.len;rw[CN]at b6;apply(zG);obtain⟨rfl,f⟩|⟨rfl,f,b3⟩|⟨rfl,f,b3,m⟩:=f;apply(zf);exact J8 λb=>have y:=(KK q17).1 b;Cu y.ar f;apply(zf);exact J8 λb=>have y:=(KK q17).1 b;by have:=y.len;omega
 have b7:=m.len;rw[CN]at b7;apply(zG);obtain⟨rfl,g⟩|⟨rfl,g,b4⟩|⟨rfl,g,b4,u⟩:=g;apply(zf);exact J8 λb=>have y:=(KK q17).1 b;Cu y.ac g;apply(zf);exact J8 λb=>have y:=(KK q17).1 b;by have:=y.len;omega
 have b8:=u.len;rw[CN]at b8;apply(zG);by_cases q18:(ly:Int)>0;apply(zf);exact J8 λb=>have y:=(KK q17).1 b;by have:=y.len;omega
 apply(zG);apply sC ((Uy _ w.x F.x H.x G.x c ha A.x (Kg.nums hX) aD (λr hr=>GU (hv.rw r hr).2.2) eH (zX Z).2 zd zd).cx);rintro _ eu gf⟨di,rfl,bn⟩ jq j0;obtain⟨rfl,al⟩|⟨rfl,al⟩:=J7 bn;apply(zf);exact J8 λb=>have y:=(KK q17).1 b;Cu y.fx al;apply(zG);apply sC (OC _ w.x (λs hs=>(c.ob s hs).1) c.n1);rintro _ ev gg⟨dc,fw,dw,d4,rfl,cg,ck⟩ jr j1;have c6:=ck (cg.2 hv.ob);apply(zG);apply sC (Uz _ w.x F.x H.x G.x c ha m.x u.x (Kg.nums hR) (Kg.nums hC) eH aD (zS Z Z).1 zd zd);rintro _ bb bg⟨P,N,ag,T,W,a0,a3,a5,d5,rfl,bl,cl⟩ js j2;obtain⟨rfl,ai⟩|⟨rfl,ai⟩:=J7 bl;apply(Zk);intro ew i3 j3;apply sS [U P,Y N ag T,U W,Y a0 a3 a5];intro ex i4 gt;apply(Zd);apply(zf);exact J8 λb=>have y:=(KK q17).1 b;Cu y.bo ai;have⟨ab,ae⟩:=cl rfl;have ab:UI bb bg P N ag T (bndQ p R C).num:=ab;have ae:UI bb bg W a0 a3 a5 (denZ (bndQ p R C)):=ae;apply(Zk);intro ey i5 j4;apply sS [U P,Y N ag T,U W,Y a0 a3 a5];intro ez i6 gu;apply(Zh);apply dC (show CX _ _ _ _ _ (NQ (valQ p X))from OP _ w.x A.x (λs hs=>CS (c.ob s hs).1 zd) (Kg.nums c.ob) (Kg.nums hX) eH (zX Z).1 zd bd);rintro _ f0 gh⟨dj,dd,fy,dx,e3,ee,ei,el,rfl,c7,cc⟩ jt j5;apply dC ((Su _ c7 cc (zX Z).val zd).cx);rintro _ f1 gi rfl ju j6;by_cases q28:V=ratT (valQ p X);apply Ln φ R6 (by simp[q28]);apply(zH);apply dC ((Su _ ab.t ae.t (zS Z Z).1.bnd zd).cx);rintro _ f2 gk rfl jv j7;by_cases q30:V=ratT (bndQ p R C);apply Ln φ R6 (by simp[q30]);apply(zH);apply dC ((UO _ w.x F.x H.x G.x c ha hv m.x u.x c6.x (Kg.nums hR) (Kg.nums c.ob) eH eH (by rw[CN]) (zS Z Z).2 zd zd).cx);rintro _ f3 gl⟨dk,rfl,bp⟩ jw j8;obtain⟨rfl,an⟩|⟨rfl,an⟩:=J7 bp;apply(zf);exact J8 λb=>have y:=(KK q17).1 b;Cu y.co an;apply(zf);exact Ki ((KK q17).2 ⟨e,Z,al,f,Z,g,Z,Z,q28.symm,ai,q30.symm,an⟩);apply Ln χ R6 (by simp[q30]);apply(zf);exact J8 λb=>have y:=(KK q17).1 b;Cu y.vb.symm q30;apply Ln χ R6 (by simp[q28]);apply(zf);exact J8 λb=>have y:=(KK q17).1 b;Cu y.vx.symm q28;apply(zG);by_cases q32:o=2;apply(zG);obtain⟨rfl,f⟩|⟨rfl,f,b3⟩|⟨rfl,f,b3,m⟩:=f;apply(zf);exact J8 λb=>have y:=(KS q32).1 b;Cu y.ar f;apply(zf);exact J8 λb=>have y:=(KS q32).1 b;by have:=y.len;omega
 have b7:=m.len;rw[CN]at b7;apply(zG);obtain⟨rfl,g⟩|⟨rfl,g,b4⟩|⟨rfl,g,b4,u⟩:=g;apply(zf);exact J8 λb=>have y:=(KS q32).1 b;Cu y.ac g;apply(zf);exact J8 λb=>have y:=(KS q32).1 b;by have:=y.len;omega
 have b8:=u.len;rw[CN]at b8;apply(zG);apply st_I (ik:=.i64) (a:=(O V:Int)) R5;apply(zG);by_cases q33:(((lx:Int)+(ly:Int))+(O V:Int))>0;apply(zf);exact J8 λb=>have y:=(KS q32).1 b;by have:=y.len;omega
 apply(zG);apply sC (Uz _ w.x F.x H.x G.x c ha m.x u (Kg.nums hR) (Kg.nums hC) eH aD (zS Z Z).1 zd zd);rintro _ bc bh⟨S,Z1,ah,Z4,Z0,a1,a4,a6,d6,rfl,bm,cn⟩ jx j9;obtain⟨rfl,aj⟩|⟨rfl,aj⟩:=J7 bm;apply(Zk);intro f4 i7 ja;apply sS [U S,Y Z1 ah Z4,U Z0,Y a1 a4 a6];intro f5 i8 gv;apply(Zd);apply(zf);exact J8 λb=>have y:=(KS q32).1 b;Cu y.bo aj;have⟨ad,af⟩:=cn rfl;have ad:UI bc bh S Z1 ah Z4 (bndQ p R C).num:=ad;have af:UI bc bh Z0 a1 a4 a6 (denZ (bndQ p R C)):=af;apply(Zk);intro f6 i9 jb;apply sS [U S,Y Z1 ah Z4,U Z0,Y a1 a4 a6];intro f7 ia gw;apply(Zh);apply dC (LC _ ad.t af.t);rintro _ f8 bi⟨ic,rfl,I⟩ jy jc;obtain⟨rfl,I⟩|⟨rfl,I⟩|⟨rfl,I⟩:=I;apply(zf);exact J8 λb=>have y:=(KS q32).1 b;by have:=y.sb;omega
 apply(zf);exact J8 λb=>have y:=(KS q32).1 b;by have:=y.sb;omega
 apply(zH);apply dM (L:=lo);intro bz ib jd;have c8:NS bz (bi+1) (Y (ξ ⟨3*(bi)+2,0,θ⟩) lo lo) (CI (O p.obj) 0):=by grind [NS.zeros,CI]
 apply dC ((UO _ w.x F.x H.x G.x c ha hv m.x u.x c8 (Kg.nums hR) (λq b=>by rw[(aa9.1 b).2];exact H8 27 Z) eH eH (by rw[Dk]) (zS Z Z).2 zd zd).cx);rintro _ f9 gm⟨dl,rfl,bq⟩ jz je;obtain⟨rfl,ap⟩|⟨rfl,ap⟩:=J7 bq;apply(zf);exact J8 λb=>have y:=(KS q32).1 b;Cu y.co ap;apply(zf);exact Ki ((KS q32).2 ⟨f,Z,g,Z,Z,Z,CT.1 Z,aj,I,ap⟩);apply(zG);by_cases q42:o=3;apply(zG);obtain⟨rfl,e⟩|⟨rfl,e,b2⟩|⟨rfl,e,b2,A⟩:=e;apply(zf);exact J8 λb=>have y:=(KM q42).1 b;Cu y.ax e;apply(zf);exact J8 λb=>have y:=(KM q42).1 b;by have:=y.len;omega
 have b6:=A.len;rw[CN]at b6;apply(zG);obtain⟨rfl,B⟩|⟨rfl,B,ct⟩|⟨rfl,B,ct,M⟩:=B;apply(zf);exact J8 λb=>have y:=(KM q42).1 b;Cu y.ay B;apply(zf);exact J8 λb=>have y:=(KM q42).1 b;by have:=y.len;omega
 have d2:=M.len;rw[CN]at d2;apply(zG);apply st_I (ik:=.i64) (a:=(O V:Int)) R5;apply(zG);by_cases q43:(((lz:Int)+(lm:Int))+(O V:Int))>0;apply(zf);exact J8 λb=>have y:=(KM q42).1 b;by have:=y.len;omega
 apply(zG);apply sC ((Uy _ w.x F.x H.x G.x c ha A.x (Kg.nums hX) aD (λr hr=>GU (hv.rw r hr).2.2) eH (zX Z).2 zd zd).cx);rintro _ fa gn⟨dm,rfl,br⟩ k0 jf;obtain⟨rfl,aq⟩|⟨rfl,aq⟩:=J7 br;apply(zf);exact J8 λb=>have y:=(KM q42).1 b;Cu y.fx aq;apply(zG);apply sC (show CX _ _ _ _ _ (NQ (valQ p Z3))from OP _ w.x M.x (λs hs=>CS (c.ob s hs).1 zd) (Kg.nums c.ob) (Kg.nums hY) eH (zY Z).1 zd bd);rintro _ fb go⟨dn,de,fz,dz,e4,ef,ej,em,rfl,c9,cd⟩ k1 jg;apply sC (LC _ c9 cd);rintro _ c0 bj⟨id,rfl,J⟩ k2 jh;obtain⟨rfl,J⟩|⟨rfl,J⟩|⟨rfl,J⟩:=J;apply(zG);apply sF (α:=Nat) (λz=>[(2,ε (3*n+2)),(5,υ (lo:Int)),(8,Y b9 bf ba),(20,υ (z:Int))]) (λz h' n' w'=>w'=[]/\bj<=n'/\ExtB bj [] c0 h'/\z<=O p.obj/\hT (λd q=>dirB q d.lo d.hi) (zC p) (Z3.map zj) z) (λz=>O p.obj-z) 0 ⟨ω,Cy,Ed _ _ _,Cz,(hT.zero _ _)⟩;rintro j t c1 bk _⟨rfl,k3,d7,hj,K⟩;have hj:j<=O p.obj:=hj;have K:hT (λd q=>dirB q d.lo d.hi) (zC p) (Z3.map zj) j:=K;apply(zG);by_cases q48:(j:Int)<(lo:Int);apply(Zh);obtain⟨e5,a7⟩:∃d,(Z3.map zj)[j]?=ξ d:=⟨_,CD Z⟩;have⟨fp,gx,dp,df,g0,e0,ie,ig,ii,ji,bv,ch,cp,cv,ca,ce⟩:=NS.at M a7;apply dI bv cp;apply dL cv ch 0;apply(zH);obtain⟨e6,a8⟩:∃d,(p.lower)[j]?=ξ d:=⟨_,CD Z⟩;have⟨fq,gy,bw,ci,cq,d0⟩:=vM H a8;apply dI bw cq;apply dL d0 ci 0;apply(zH);obtain⟨e7,a9⟩:∃d,(p.upper)[j]?=ξ d:=⟨_,CD Z⟩;have⟨fr,gz,bx,cj,cs,d1⟩:=vM G a9;apply dI bx cs;apply dL d1 cj 0;apply dC ((UM _ ca.x ce.x).cx);rintro _ fc gp⟨dq,rfl,bs⟩ k4 jj;obtain⟨rfl,av⟩|⟨rfl,av⟩:=J7 bs;apply(zf);exact J8 λb=>have y:=(KM q42).1 b;Cu (y.dy.1 _ _ _ (gj a8 a9) a7) av;apply(zJ);exact sK (j+1) ⟨ω,Z,zy,Z,(K.step (gj a8 a9) a7 av)⟩;apply(zG);have bu:=K.all (.inr eH);apply(zG);apply sF (α:=Nat) (λz=>[(2,ε (3*n+2)),(8,Y b9 bf ba),(21,υ (z:Int))]) (λz h' n' w'=>w'=[]/\bk<=n'/\ExtB bk [] c1 h'/\z<=O p.rows/\∀r∈p.rows.take z,rowH dirB (Z3.map zj) (rowS r)) (λz=>O p.rows-z) 0 ⟨ω,Cy,Ed _ _ _,Cz,(λr hr=>Cu hr eC)⟩;rintro i t fd gq _⟨rfl,k5,d8,hi,D⟩;have hi:i<=O p.rows:=hi;have D:∀r∈p.rows.take i,rowH dirB (Z3.map zj) (rowS r):=D;apply(zG);by_cases q54:(i:Int)<(lr:Int);apply(Zh);obtain⟨e8,l⟩:∃d,(p.rows)[i]?=ξ d:=⟨_,CD Z⟩;have⟨fs,i0,dg,g1,e1,a2,ak,b1,b5,be⟩:=Kt.at F l;have d3:=z8 be;apply dI a2 b1;apply(zH);apply dL b5 ak 0;apply(zH);apply dC (OP _ be.x M.x (λs hs=>CS ((aa _ (CE l)).2.2.2 s hs).1 zd) (Kg.nums (aa _ (CE l)).2.2.2) (Kg.nums hY) (by rw[CN,(hv.rw _ (CE l)).2.2];omega) ((zY Z).2 _ (CE (LF l))) zd (aa _ (CE l)).2.2.1);rintro _ fe gr⟨dr,dh,g2,e2,e9,eg,ek,en,rfl,cb,cf⟩ k6 jk;apply(zH);apply dI a2 b1;apply(zH);apply dL b5 ak 1;apply(zH);apply dI a2 b1;apply(zH);apply dL b5 ak 2;apply dC ((UM _ cb cf).cx);rintro _ ff gs⟨ds,rfl,bt⟩ k7 jl;obtain⟨rfl,b0⟩|⟨rfl,b0⟩:=J7 bt;apply(zf);exact J8 λb=>have y:=(KM q42).1 b;Cu (y.dy.2 _ (CE (LF l))) b0;apply(zJ);exact sK (i+1) ⟨ω,Z,zy,Z,(ot D l b0)⟩;apply(zf);exact Ki ((KM q42).2 ⟨e,Z,aq,B,Z,Z,Z,CT.1 Z,J,⟨bu,λd hd=>by obtain⟨r,hr,rfl⟩:=DL.1 hd;rw[CL Z]at D;exact D r hr⟩⟩);apply(zf);exact J8 λb=>have y:=(KM q42).1 b;by have:=y.sy;omega
 apply(zf);exact J8 λb=>have y:=(KM q42).1 b;by have:=y.sy;omega
 apply(zf);exact J8 λb=>by obtain b|b|b:=b<;>omega
end
section
variable{n:Nat}{p:LPD}{R:List (List UInt8)}
theorem zyy(k)(g:GG h n)(f:QS h n (Y ao lo co) (p.obj.map zj))(B:Kx h n (Y ar lr cr) (zk p))(w:Kx h n (Y ac lc cc) (zC p))(hv:VLP p)(c:LPB 27 p){o}{V}{lm cm}{X Z3 C}(ix:Sl h n 1 (Y ax lx cx) (strs X))(iy:Sl h n 1 (Y ay ly cy) (strs Z3))(iz:Sl h n 1 (Y az lz cz) (strs R))(im:Sl h n 1 (Y am lm cm) (strs C))(hz:CkZ p V X Z3 R C):VF (J4 (k+14)) 37 [.agg #[Y ao lo co,Y ar lr cr,Y ac lc cc],.agg #[υ o,CG ⟨⟨V⟩⟩,Y ax lx cx,Y ay ly cy,Y az lz cz,Y am lm cm]] h n λv=>∃t:Bool,v=U t/\(t=φ↔Mb p o V X Z3 R C):=by
 have c4:=f.len;have c5:=B.len;have b7:=w.len;have ec:=z8 ix;have ed:=z8 iy;have ee:=z8 iz;have eb:=z8 im;rw[CN]at c4;rw[jJ]at c5;rw[hv.cols]at b7;have b6:∀d∈zk p,O d.A=O (zC p):=λd hd=>(by obtain⟨r,hr,rfl⟩:=DL.1 hd;rw[hv.cols];show(r.A.map zj).length=_;rw[CN];exact(hv.rw r hr).2.2);have b4:=c.n1;have b5:=c.n2;have⟨hX,hY,hR,hC,⟨bu,bv,bt,bs,e6⟩,zX,zY,zS⟩:=hz;apply zO R4;apply(zG);apply sB [Y ao lo co,Y ar lr cr,Y ac lc cc];intro df ew fa;apply sB [υ o,CG ⟨⟨V⟩⟩,Y ax lx cx,Y ay ly cy,Y az lz cz,Y am lm cm];intro dg ex fb;apply(zG);apply sC (rC _ g.x ix.x (λs hs=>(hX s hs).1) bu);rintro _ dh ef⟨al,D,au,ci,rfl,bf,c7⟩ fz fc;apply(zG);apply sC (rC _ g.x iy.x (λs hs=>(hY s hs).1) bv);rintro _ di eg⟨an,l,av,cj,rfl,bg,c8⟩ g0 fd;apply(zG);apply sC (rC _ g.x iz.x (λs hs=>(hR s hs).1) bt);rintro _ dj eh⟨ap,F,aw,ck,rfl,bh,c9⟩ g1 fe;apply(zG);apply sC (rC _ g.x im.x (λs hs=>(hC s hs).1) bs);rintro _ br b8⟨aq,G,b0,cl,rfl,bi,ca⟩ g2 ff;apply(zG);obtain⟨rfl,H⟩|⟨rfl,H⟩:=J7 bf;apply(zf);exact J8 λa=>Cu (OX a).1 H;have a6:=c7 rfl;have ce:=a6.1.len;rw[CN]at ce;apply(zG);obtain⟨rfl,af⟩|⟨rfl,af⟩:=J7 bg;apply(zf);exact J8 λa=>Cu (OX a).2.1 af;have a7:=c8 rfl;have cf:=a7.1.len;rw[CN]at cf;apply(zG);obtain⟨rfl,I⟩|⟨rfl,I⟩:=J7 bh;apply(zf);exact J8 λa=>Cu (OX a).2.2.1 I;have i:=c9 rfl;have cg:=i.1.len;rw[CN]at cg;apply(zG);obtain⟨rfl,J⟩|⟨rfl,J⟩:=J7 bi;apply(zf);exact J8 λa=>Cu (OX a).2.2.2 J;have j:=ca rfl;have ch:=j.1.len;rw[CN]at ch;apply(zG);refine UG (α:=Bool) (λz=>[(2,ε (3*n+2)),(3,ε (3*(n+1)+2)),(5,Y al D au),(7,Y an l av),(9,Y ap F aw),(11,Y aq G b0),(13,υ (lc:Int)),(14,U z)]) (λz h' n' w'=>w'=[]/\b8<=n'/\J3 b8 br h'/\(z=φ↔O X=O p.obj/\feaP p X)) ?_ ?_;by_cases q17:(D:Int)=(lc:Int);apply(zG);apply sC ((zr3 _ g.x f.x B.x w.x a6.x.1 (LPB.rows c) (LPB.cols c) (hv.rwb c) (Kg.nums hX) nP eH ⟨AB,AY⟩ c.n1 (zX Z).2 zd zd).cx);rintro _ b1 b9⟨bq,rfl,bl⟩ be bd;apply(zG);exact NT bq ⟨ω,be,bd,bl.trans ⟨λq=>⟨Z,q⟩,λq=>q.2⟩⟩;apply(zG);exact NT χ ⟨ω,Cy,J3.refl _ _,⟨λq=>by(cases q),λq=>Cu q.1 Z⟩⟩;rintro z18 f8 b1 b9 _⟨rfl,be,bd,P⟩;apply(zG);refine UG (α:=Bool) (λz=>[(2,ε (3*n+2)),(3,ε (3*(n+1)+2)),(5,Y al D au),(7,Y an l av),(9,Y ap F aw),(11,Y aq G b0),(13,υ (lc:Int)),(14,U z18),(15,U z)]) (λz h' n' w'=>w'=[]/\b1=h'/\b9=n'/\(z=φ↔O R=O p.rows/\O C=O p.obj)) ?_ ?_;by_cases q19:(F:Int)=(lr:Int);apply(zG);by_cases b:(G:Int)=(lc:Int);apply(zG);exact NT φ ⟨ω,ω,ω,⟨λ_=>⟨Z,Z⟩,λ_=>rfl⟩⟩;apply(zG);exact NT χ ⟨ω,ω,ω,⟨λq=>by(cases q),λq=>Cu q.2 Z⟩⟩;apply(zG);exact NT χ ⟨ω,ω,ω,⟨λq=>by(cases q),λq=>Cu q.1 Z⟩⟩;rintro z20 f9 _ _ _⟨rfl,rfl,rfl,S⟩;apply(zG);by_cases q21:o=1;apply(Zh);obtain⟨rfl,e⟩|⟨rfl,e⟩:=J7 P;apply(zf);exact J8 λa=>have y:=(KK q21).1 a;Cu ⟨y.lx,y.fx⟩ e;apply(zH);obtain⟨rfl,b⟩|⟨rfl,b⟩:=J7 S;apply(zf);exact J8 λa=>have y:=(KK q21).1 a;Cu ⟨y.lr,y.lc⟩ b;apply(zH);by_cases q22:(l:Int)>0;apply(zf);exact J8 λa=>have y:=(KK q21).1 a;by have:=y.len;omega
 apply(zH);apply dC (show CX _ _ _ _ _ (QV (valQ p X))from Ng _ g.x f.x a6.x.1 (Kg.nums c.ob) (Kg.nums hX) aD (zX e.1).1 zd eH);rintro _ dk ei⟨cv,cq,e7,d3,d7,d9,db,dd,rfl,bw,c2⟩ g3 fg;apply dC ((OG _ g.x.1 g.x.2 bw c2 (zX e.1).val zd).cx);rintro _ dl ej rfl g4 fh;apply(zH);by_cases q25:ratT (valQ p X)=V;apply Nm χ R6 (by simp[q25]);apply(zJ);apply sC (Ur _ g.x f.x B.x w.x i.x.1 j.x.1 (LPB.rows c) (LPB.cols c) (Kg.nums hR) (Kg.nums hC) An nP (zS b.1 b.2).1 zd zd (by rw[jJ,hv.cols];exact⟨b5,b4⟩));rintro _ b2 ba⟨N,K,ad,T,W,a0,a2,a4,cn,rfl,bj,cb⟩ g5 fi;obtain⟨rfl,ag⟩|⟨rfl,ag⟩:=J7 bj;apply(Zk);intro dm ey fj;apply sS [U N,Y K ad T,U W,Y a0 a2 a4];intro dn ez es;apply(Zd);apply(zf);exact J8 λa=>have y:=(KK q21).1 a;Cu y.bo ag;have⟨a8,aa⟩:=cb rfl;have a8:IW b2 ba N K ad T (bndQ p R C).num:=a8;have aa:IW b2 ba W a0 a2 a4 (denZ (bndQ p R C)):=aa;apply(Zk);intro dp f0 fk;apply sS [U N,Y K ad T,U W,Y a0 a2 a4];intro dq f1 et;apply(Zh);apply dC ((OG _ g.x.1 g.x.2 a8.t aa.t (zS b.1 b.2).1.bnd zd).cx);rintro _ dr ek rfl g6 fl;apply(zH);by_cases q32:ratT (bndQ p R C)=V;apply Ln φ R6 (by simp[q32]);apply(zH);apply dC (UK _ g.x f.x B.x w.x i.x.1 j.x.1 (λd hd=>(hv.rwb c d hd).1) (Kg.nums hR) (Kg.nums hC) b6 An nP ⟨AB,AY⟩ (zS b.1 b.2).2 zd);rintro _ ds el⟨cs,e8,d4,rfl,bx⟩ g7 fm;apply(zH);apply dC ((UJ _ bx f.x (Qj (zS b.1 b.2).2 (.inr ⟨Cy,ω⟩)) (Kg.nums c.ob) (by grind [mN,CN]) (by rw[mN,CN];omega) zd).cx);rintro _ dt em⟨cw,rfl,bm⟩ g8 fn;obtain⟨rfl,ai⟩|⟨rfl,ai⟩:=J7 bm;apply(zf);exact J8 λa=>have y:=(KK q21).1 a;Cu y.co ai;apply(zf);exact Ki ((KK q21).2 ⟨H,e.1,e.2,I,Z,J,Z,Z,q25,ag,q32,ai⟩);apply Ln χ R6 (by simp[q32]);apply(zf);exact J8 λa=>have y:=(KK q21).1 a;Cu y.vb q32;apply Nm φ R6 (by simp[q25]);apply(zf);exact J8 λa=>have y:=(KK q21).1 a;Cu y.vx q25;apply(zG);by_cases q35:o=2;apply(zG);obtain⟨rfl,b⟩|⟨rfl,b⟩:=J7 S;apply(zf);exact J8 λa=>have y:=(KS q35).1 a;Cu ⟨y.lr,y.lc⟩ b;apply(zG);by_cases q36:(D:Int)>0;apply(zf);exact J8 λa=>have y:=(KS q35).1 a;by have:=y.len;omega
 apply(zG);by_cases q37:(l:Int)>0;apply(zf);exact J8 λa=>have y:=(KS q35).1 a;by have:=y.len;omega
 apply(zG);by_cases q38:V=[];apply NI χ R6 (by simp[q38]);apply(zG);apply sC (Ur _ g.x f.x B.x w.x i.x.1 j.x.1 (LPB.rows c) (LPB.cols c) (Kg.nums hR) (Kg.nums hC) An nP (zS b.1 b.2).1 zd zd (by rw[jJ,hv.cols];exact⟨b5,b4⟩));rintro _ b3 bb⟨Z1,M,ae,Z4,Z0,a1,a3,a5,cp,rfl,bk,cd⟩ g9 fo;obtain⟨rfl,ah⟩|⟨rfl,ah⟩:=J7 bk;apply(Zk);intro du f2 fp;apply sS [U Z1,Y M ae Z4,U Z0,Y a1 a3 a5];intro dv f3 eu;apply(Zd);apply(zf);exact J8 λa=>have y:=(KS q35).1 a;Cu y.bo ah;have⟨a9,ab⟩:=cd rfl;have a9:IW b3 bb Z1 M ae Z4 (bndQ p R C).num:=a9;have ab:IW b3 bb Z0 a1 a3 a5 (denZ (bndQ p R C)):=ab;apply(Zk);intro dw f4 fq;apply sS [U Z1,Y M ae Z4,U Z0,Y a1 a3 a5];intro dx f5 ev;apply(Zh);apply dC (fD _ a9.t ab.t);rintro _ dz en⟨f6,rfl,m⟩ ga fr;obtain⟨rfl,m⟩|⟨rfl,m⟩|⟨rfl,m⟩:=m;apply(zf);exact J8 λa=>have y:=(KS q35).1 a;by have:=y.sb;omega
 apply(zf);exact J8 λa=>have y:=(KS q35).1 a;by have:=y.sb;omega
 apply(zH);apply dC (UK _ g.x f.x B.x w.x i.x.1 j.x.1 (λd hd=>(hv.rwb c d hd).1) (Kg.nums hR) (Kg.nums hC) b6 An nP ⟨AB,AY⟩ (zS b.1 b.2).2 zd);rintro _ e0 c6⟨ct,e9,d5,rfl,bz⟩ gb fs;apply(zH);apply dM (L:=lc);intro e1 bc ft;rw[b7]at bc;have c0:=(OQ.zeros (n:=c6+1) Z bc).sl (len:=lc) (cap:=lc) aD Cy;apply dC ((UJ _ bz.x c0 (Qj (zS b.1 b.2).2 (.inr ⟨Cy,ω⟩)) (λq a=>by rw[(aa9.1 a).2];exact H8 27 Z) (by rw[mN,CN,Dk];omega) (by rw[mN,CN];omega) zd).cx);rintro _ e2 eo⟨d0,rfl,bn⟩ gc fu;obtain⟨rfl,aj⟩|⟨rfl,aj⟩:=J7 bn;apply(zf);exact J8 λa=>have y:=(KS q35).1 a;Cu y.co aj;apply(zf);exact Ki ((KS q35).2 ⟨I,Z,J,Z,Z,Z,q38,ah,m,aj⟩);apply NI φ R6 (by simp[q38]);apply(zf);exact J8 λa=>have y:=(KS q35).1 a;Cu y.v0 q38;apply(zG);by_cases q48:o=3;apply(zG);obtain⟨rfl,e⟩|⟨rfl,e⟩:=J7 P;apply(zf);exact J8 λa=>have y:=(KM q48).1 a;Cu ⟨y.lx,y.fx⟩ e;apply(zG);by_cases q49:(l:Int)=(lc:Int);apply(zG);by_cases q50:(F:Int)>0;apply(zf);exact J8 λa=>have y:=(KM q48).1 a;by have:=y.len;omega
 apply(zG);by_cases q51:(G:Int)>0;apply(zf);exact J8 λa=>have y:=(KM q48).1 a;by have:=y.len;omega
 apply(zG);by_cases q52:V=[];apply NI χ R6 (by simp[q52]);apply(zG);apply sC (show CX _ _ _ _ _ (QV (valQ p Z3))from Ng _ g.x f.x a7.x.1 (Kg.nums c.ob) (Kg.nums hY) aD (zY Z).1 zd eH);rintro _ e3 ep⟨d1,cu,ea,d6,d8,da,dc,de,rfl,c1,c3⟩ gd fv;apply sC (fD _ c1 c3);rintro _ e4 eq⟨f7,rfl,u⟩ ge fw;obtain⟨rfl,u⟩|⟨rfl,u⟩|⟨rfl,u⟩:=u;apply(zG);apply sC ((zz6 _ g.x f.x B.x w.x a7.x.1 (LPB.rows c) (LPB.cols c) (hv.rwb c) (Kg.nums hY) nP eH ⟨AB,AY⟩ c.n1 (zY Z).2 zd).cx);rintro _ e5 er⟨d2,rfl,bp⟩ gf fy;obtain⟨rfl,ak⟩|⟨rfl,ak⟩:=J7 bp;apply(zf);exact J8 λa=>have y:=(KM q48).1 a;Cu y.dy ak;apply(zf);exact Ki ((KM q48).2 ⟨H,e.1,e.2,af,Z,Z,Z,q52,u,ak⟩);apply(zf);exact J8 λa=>have y:=(KM q48).1 a;by have:=y.sy;omega
 apply(zf);exact J8 λa=>have y:=(KM q48).1 a;by have:=y.sy;omega
 apply NI φ R6 (by simp[q52]);apply(zf);exact J8 λa=>have y:=(KM q48).1 a;Cu y.v0 q52;apply(zf);exact J8 λa=>have y:=(KM q48).1 a;by have:=y.len;omega
 apply(zf);exact J8 λa=>by obtain a|a|a:=a<;>omega
end
section
variable{n:Nat}
open Classical in
def chkI(p:LPD)(o:Int)(V:List UInt8)(X Z3 R C:List (List UInt8)):Int:=if VLP p then(if Mb p o V X Z3 R C then 0 else 13)else 1
section
variable{p:LPD}{o:Int}{X Z3 R C:List (List UInt8)}
def chk1(h:¬VLP p):υ 1=υ (chkI p o V X Z3 R C):=by unfold chkI;rw[Cv h]
def U7(h:VLP p)(a:¬Mb p o V X Z3 R C):υ 13=υ (chkI p o V X Z3 R C):=by unfold chkI;rw[Cw h,Cv a]
def chk0(h:VLP p)(a:Mb p o V X Z3 R C):υ 0=υ (chkI p o V X Z3 R C):=by unfold chkI;rw[Cw h,Cw a]
end
def zzw(k)(g:GG h n){p}(G:Sl h n 1 (Y ao lo co) (strs p.obj))(H:Kt h n (Y ar lr cr) p.rows)(J:Sl h n 1 (Y aw lw cw) (strs p.lower))(I:Sl h n 1 (Y au lu cu) (strs p.upper))(F:LPB 27 p){o}{V}{D w}{X Z3 R C}(N:Sl h n 1 (Y ax lx cx) (strs X))(Z1:Sl h n 1 (Y ay ly cy) (strs Z3))(P:Sl h n 1 (Y az lz cz) (strs R))(M:Sl h n 1 (Y am D w) (strs C))(L:CkZ p V X Z3 R C):VF (J4 (k+15)) 12 [.agg #[Y ao lo co,Y ar lr cr,Y aw lw cw,Y au lu cu],.agg #[υ o,CG ⟨⟨V⟩⟩,Y ax lx cx,Y ay ly cy,Y az lz cz,Y am D w]] h n λv=>v=υ (chkI p o V X Z3 R C):=by have a5:=z8 G;have a6:=H.len;have a8:=z8 J;have a7:=z8 I;apply zO R4;apply(zG);apply sB [Y ao lo co,Y ar lr cr,Y aw lw cw,Y au lu cu];intro Z4 ad aj;apply sB [υ o,CG ⟨⟨V⟩⟩,Y ax lx cx,Y ay ly cy,Y az lz cz,Y am D w];intro W ae ak;apply(zG);apply sC (SL _ g.x G.x H.x J.x I.x F zd);rintro _ Z0 a9⟨c,l,f,d,m,i,b,j,e,S,rfl,s,K⟩ av al;obtain⟨rfl,a⟩|⟨rfl,a⟩:=J7 s;apply(Zk);intro a0 af an;apply sS [Y c l f,Y d m i,Y b j e];intro a1 ag ab;apply(zf);exact chk1 a;have⟨A,B,y⟩:=K rfl;apply(Zk);intro a2 ah ap;apply sS [Y c l f,Y d m i,Y b j e];intro a3 ai ac;apply(zG);apply sC ((zyy _ g.x A.x.1 B.x.sds y.x.sds a F N.x Z1.x P.x M.x L).cx);rintro _ a4 aa⟨T,rfl,u⟩ b0 aq;obtain⟨rfl,q⟩|⟨rfl,q⟩:=J7 u;apply(zf);exact U7 a q;apply(zf);exact chk0 a q
def yaa(k){p}(f:Sl h n 1 (Y ao lo co) (strs p.obj))(g:Kt h n (Y ar lr cr) p.rows)(j:Sl h n 1 (Y aw lw cw) (strs p.lower))(i:Sl h n 1 (Y au lu cu) (strs p.upper))(m:LPB 27 p){o}{V}{l e}{X Z3 R C}(u:Sl h n 1 (Y ax lx cx) (strs X))(w:Sl h n 1 (Y ay ly cy) (strs Z3))(y:Sl h n 1 (Y az lz cz) (strs R))(s:Sl h n 1 (Y am l e) (strs C))(q:CkZ p V X Z3 R C):VF (J4 (k+12)) 13 [.agg #[Y ao lo co,Y ar lr cr,Y aw lw cw,Y au lu cu],.agg #[υ o,CG ⟨⟨V⟩⟩,Y ax lx cx,Y ay ly cy,Y az lz cz,Y am l e]] h n λv=>v=υ (chkI p o V X Z3 R C):=by have I:=z8 f;have J:=g.len;have L:=z8 j;have K:=z8 i;apply zO R4;apply(zG);apply sB [Y ao lo co,Y ar lr cr,Y aw lw cw,Y au lu cu];intro D Z1 S;apply sB [υ o,CG ⟨⟨V⟩⟩,Y ax lx cx,Y ay ly cy,Y az lz cz,Y am l e];intro F P T;apply(zG);apply sC ((Uw _ f.x g.x j.x i.x m zd).cx);rintro _ G M⟨A,rfl,c⟩ Z0 Z4;obtain⟨rfl,a⟩|⟨rfl,a⟩:=J7 c;apply(zf);exact chk1 a;apply(zG);apply sC ((zyx _ f.x g.x j.x i.x m a u.x w.x y.x s.x q).cx);rintro _ H N⟨B,rfl,d⟩ a0 W;obtain⟨rfl,b⟩|⟨rfl,b⟩:=J7 d;apply(zf);exact U7 a b;apply(zf);exact chk0 a b
end
section
set_option maxRecDepth 100000
variable{len:Nat}{v:ψ}{s:List UInt8}{p:LPD}
section
variable{X:CtxF}{t:TF}{n:Nat}
def sZs{a}{L}(s)(B:MB h n b cap L)(hj:j<L.length)(f:off=j*1)(e:3*n0<=b)(u:zh ops t o=φ:=by rfl)(hd:o.dst=θ:=by rfl)(ho:o.op=.store ty a x:=by rfl)(hi:X.E.inf ty=ξ (1,bt,z):=by rfl)(ha:J2 t a=.pointer (ξ ⟨b,off,θ⟩):=by rfl)(hx:zn (J2 t x)=[.string ⟨⟨s⟩⟩]:=by rfl)(hX:X.n0=n0:=by rfl)(k:∀c,MB c n b cap (L.set j s)->Kp b h c->EO X ops r ⟨t,c,n,w⟩ Q):EO X ops (o::r) ⟨t,h,n,w⟩ Q:=by have⟨⟨T,A,g,i⟩,l,m⟩:=B;exact NL (n0:=n0) (q:=s) [.string ⟨⟨s⟩⟩] A strP.kp Z f ω e (k:=λc y C D=>k c ⟨⟨_,y,by rw[List.length_set,List.take_set,g],by rw[List.length_set,List.length_set];exact i⟩,by rw[List.length_set];exact l,D _ m⟩ C) u hd ho hi ha hx hX
end
def lI(k){h}{n}(g:GG h n){a}{L}(W:Sl h n 1 (.slice a len cap) (strs L))(hl:L.length<=6){z}(Z4:∀s∈L,Kg z s){i}(hi: -9223372036854775808<=i/\i<9223372036854775808)(V:(s.length:Int)<=8)(hz:z<=822:=by decide):CX (J4 (k+12)) 10 [.slice a len cap,.int .i64 i,.string ⟨⟨s⟩⟩] h n λv T B=>∃a' l' c' j,v=.slice a' l' c'/\Km n T B (.slice a' l' c') (Lv L j (zj s)):=by
 apply zw R4;apply(zG);apply sC (UD _ W.x Z);rintro _ a0 a4⟨Z3,l11,Z0,rfl,c⟩ a8 a7;have u:=z8 c.1;apply(zG);by_cases q12:(l11:Int)>0;apply(zG);obtain⟨b,rfl,S,e1,R⟩:=c.mb Z;apply sC ((modM _ _ _ (m:=l11) hi Z Z).cx);rintro _ G q⟨j,hj,rfl⟩ Z1 M;have e:=R.ext (n':=q) M Z1;apply(zG);have l:j<L.length:=Z;have hd:=List.getElem?_eq_getElem l;have⟨a3,a5,D,H,J,K⟩:=vM (e.slL u.symm) hd;apply sI D J;apply sL K H 0;have A:=Z4 _ (List.mem_of_getElem? hd);have y:=txt8 V;have ha:=addS k (g.x:GG G q) (TL.of A.1) (TL.of y.1) A.2 y.2 Z (A.2.add y.2) Z;apply(zG);apply sC ha.cx;rintro _ a1 I rfl P N;apply sI ω (show j<l11 from Z);apply sZs (n0:=n) (j:=j) _ (e.ext (n':=I) N P) l (Nat.zero_add _) Z;intro a2 C a6;apply(zq);have F:L.set j (ratT (zj L[j]+zj s))=Lv L j (zj s):=by unfold Lv;rw[hd];rfl
 have f:=(C.as F).sse S;rw[zz7,<-u]at f;exact⟨_,_,_,j,ω,f⟩;apply(zG);apply(zq);obtain rfl:L=[]:=List.length_eq_zero_iff.1 Z;exact⟨_,_,_,0,ω,c⟩
def TamS(P:LPD)(oc:Int)(b:Nat)(h:HF)(n:Nat):Prop:=∃V v1 v2 v3 v4 X Z3 R C e,h b=ξ (.row [υ oc,CG ⟨⟨V⟩⟩,v1,v2,v3,v4] e)/\(Sl h n 1 v1 (strs X)/\Sl h n 1 v2 (strs Z3)/\Sl h n 1 v3 (strs R)/\Sl h n 1 v4 (strs C))/\CkZ P V X Z3 R C
def Sl.sh{h}{n}{c}(s:Sl h n sz v c):∃a l k,v=Y a l k:=by cases s<;>exact⟨_,_,_,ω⟩
def simplexTampered_ok(k){h}{n}(g:GG h n)(io:Sl h n 1 (Y ao lo co) (strs p.obj))(ir:Kt h n (Y ar lr cr) p.rows)(iw:Sl h n 1 (Y aw lw cw) (strs p.lower))(iu:Sl h n 1 (Y au lu cu) (strs p.upper)){f i}(hf: -9223372036854775808<=f/\f<9223372036854775808)(hi: -9223372036854775808<=i/\i<9223372036854775808)(c):VF (J4 (k+17)) 3 [.agg #[Y ao lo co,Y ar lr cr,Y aw lw cw,Y au lu cu],υ f,υ i,CG ⟨⟨c⟩⟩] h n λv=>v=U φ:=by
 have cj:=z8 io;have ck:=ir.len;have cm:=z8 iw;have cl:=z8 iu;apply zO R4;apply(zG);apply sB [Y ao lo co,Y ar lr cr,Y aw lw cw,Y au lu cu];intro c8 bz c1;apply(zG);apply sC ((zdg _ io.x ir.x iw.x iu.x).cx);rintro _ c9 cn⟨bq,rfl,N⟩ cy c2;cases bq;exact B5;have N:=N rfl;have cf:=N.n1;have cg:=N.n2;have ch:=N.n3;have ci:=N.n4;apply(zG);apply st_I (ik:=.i64) (a:=(O c:Int)) R5;apply(zG);by_cases q13:8<(O c:Int);exact B5;apply(zG);apply sC (zlw _ io.x ir.x iw.x iu.x N);rintro _ ca H⟨am,b9,b5,an,ba,b6,al,b8,b4,ap,bb,b7,rfl,ay,b0,av,b2⟩ c6 c4;apply sS [Y am b9 b5,Y an ba b6,Y al b8 b4,Y ap bb b7];intro I bi ae;have az:=ay.sto ae Z;have b1:=b0.sto ae Z;have ax:=av.sto ae Z;have b3:=b2.sto ae Z;have T:Exo n h I:=⟨(show Tx n h H I from zx).2⟩;have c6:n+1<=H:=Z;have af:GG I H:=g.ext T.go Z;obtain⟨P,hP⟩:∃P,P=UC p:=⟨_,ω⟩;have hs:SmlP P:=by rw[hP];exact N.tidy
 have jO:Sl I H 1 (Y am b9 b5) (strs P.obj):=by rw[hP];exact az.ss
 have jR:Kt I H (Y an ba b6) P.rows:=by rw[hP];exact b1.rws
 have jL:Sl I H 1 (Y al b8 b4) (strs P.lower):=by rw[hP];exact ax.ss
 have jU:Sl I H 1 (Y ap bb b7) (strs P.upper):=by rw[hP];exact b3.ss
 apply(zG);have bg:=zo6 (k+0) af jO jR jL jU hs.q;apply sC bg;rintro _ bf u hR bn bk;obtain⟨oc,V,aX,lX,aY,lY,aR,lR,aC,lC,X,Z3,R,C,e,rfl,⟨iX,iY,iR,iC⟩,hE⟩:=hR.tam hs;apply(Zk);intro cb c0 bl;apply(zG);apply sS [υ oc,CG ⟨⟨V⟩⟩,Y aX lX lX,Y aY lY lY,Y aR lR lR,Y aC lC lC];intro G ah bh;have bn:H<=u:=bn;have bm:Exo u bf G:=⟨λb hb=>(bh.1 b Z).trans (bl b hb)⟩;have M:Exo H I G:=⟨λb hb=>(bm.go b Z).trans (bk b hb)⟩;have ag:G (3*n+2)=_:=(M.go _ Z).trans bi;(try dsimp only at ah);have gO:=jO.ext (n':=u+1) M.go Z;have gR:=jR.ext (n':=u+1) M.go Z;have gL:=jL.ext (n':=u+1) M.go Z;have gU:=jU.ext (n':=u+1) M.go Z;have aq:GG G (u+1):=af.ext M.go Z;have hp:=hs.lpb;apply(zG);obtain⟨hv,rfl⟩|⟨hv,rfl,⟨nX,nY,nR,nC⟩,tV,zV,lV,hz⟩:=hE;apply(zG);have bw:=Uw (k+6) gO gR gL gU hp zd;apply sC bw.cx;rintro _ a6 a4⟨bd,rfl,bp⟩ ak bc;obtain rfl:bd=χ:=(by cases bd;rfl;exact Cu (bp.1 ω) hv);apply(zG);apply sC ((wz _ aq.x).cx);rintro _ D ad rfl y B;apply(zf);exact rfl;apply(zG);have bv:=modM (k+15) G (u+1) (m:=5) hf zd zd;apply sC bv.cx;rintro _ a6 a4⟨r,hr,rfl⟩ ak bc;have ak:u+1<=a4:=ak;have a9:Exo (u+1) G a6:=⟨bc⟩;have a8:a6 (3*u+2)=_:=(a9.go _ Z).trans ah;have A:∀{a:Option Addr} {l n':Nat} {L:List (List UInt8)} {h':HF},Sl bf u 1 (Y a l l) (strs L)->Exo u G h'->a4<=n'->Sl h' n' 1 (Y a l l) (strs L):=λs w hn=>s.ext (λb hb=>(w.go b hb).trans (bm.go b hb)) Z;have aj:Exo u G a6:=⟨λb hb=>a9.go b Z⟩;have ab:∀{D Z0:HF},J3 a4 a6 D->Kp (3*u+2) D Z0->Exo u G Z0:=λx o=>⟨λb hb=>(o.1 b Z).trans ((x b Z).trans (a9.go b Z))⟩;have a5:GG a6 a4:=aq.ext a9.go ak;have d0:NE (10^6) (10^8) (0:Rat):=⟨by decide,by decide⟩;have J:(O c:Int)<=8:=Z;have hd:NE (10^6) (10^8) (zj c):=Mr J;have z0:CkZ P V X Z3 R C:=(by simpa only[mS]using hz 0 d0 (O X) (O Z3) (O R) (O C) V lV);simp only[yu,xg,zK,yY];refine yj (λ_:Unit=>[(4,ε (3*n+2)),(9,ε (3*u+2))]) (λ_ h' n' w'=>w'=[]/\a4<=n'/\Exo u G h'/\TamS P oc (3*u+2) h' n') ?_ ?_;obtain rfl|rfl|rfl|rfl|rfl:r=0\/r=1\/r=2\/r=3\/r=4:=Z;apply(zG);have a0:=lI (k+4) a5 (A iX aj Cy) nX z0.tX hi J;apply sC a0;rintro _ D ad⟨Z4,a3,W,a2,rfl,a1⟩ y B;have ai:D (3*u+2)=_:=(B _ Z).trans a8;apply(zG);apply sS [υ oc,CG ⟨⟨V⟩⟩,Y Z4 a3 W,Y aY lY lY,Y aR lR lR,Y aC lC lC];intro Z0 K F;have w:=ab B F;apply(zG);exact zA () (by(repeat (first|exact trivial|refine⟨ω,?_⟩))) ⟨ω,y,w,_,_,_,_,_,_,_,_,_,_,K,⟨(a1.sto F Z).ss,A iY w y,A iR w y,A iC w y⟩,by simpa only[mS]using hz _ hd a2 (O Z3) (O R) (O C) V lV⟩;apply(zG);have a0:=lI (k+4) a5 (A iY aj Cy) nY z0.tY hi J;apply sC a0;rintro _ D ad⟨Z4,a3,W,a2,rfl,a1⟩ y B;have ai:D (3*u+2)=_:=(B _ Z).trans a8;apply(zG);apply sS [υ oc,CG ⟨⟨V⟩⟩,Y aX lX lX,Y Z4 a3 W,Y aR lR lR,Y aC lC lC];intro Z0 K F;have w:=ab B F;apply(zG);exact zA () (by(repeat (first|exact trivial|refine⟨ω,?_⟩))) ⟨ω,y,w,_,_,_,_,_,_,_,_,_,_,K,⟨A iX w y,(a1.sto F Z).ss,A iR w y,A iC w y⟩,by simpa only[mS]using hz _ hd (O X) a2 (O R) (O C) V lV⟩;apply(zG);have a0:=lI (k+4) a5 (A iR aj Cy) nR z0.tR hi J;apply sC a0;rintro _ D ad⟨Z4,a3,W,a2,rfl,a1⟩ y B;have ai:D (3*u+2)=_:=(B _ Z).trans a8;apply(zG);apply sS [υ oc,CG ⟨⟨V⟩⟩,Y aX lX lX,Y aY lY lY,Y Z4 a3 W,Y aC lC lC];intro Z0 K F;have w:=ab B F;apply(zG);exact zA () (by(repeat (first|exact trivial|refine⟨ω,?_⟩))) ⟨ω,y,w,_,_,_,_,_,_,_,_,_,_,K,⟨A iX w y,A iY w y,(a1.sto F Z).ss,A iC w y⟩,by simpa only[mS]using hz _ hd (O X) (O Z3) a2 (O C) V lV⟩;apply(zG);have a0:=lI (k+4) a5 (A iC aj Cy) nC z0.tC hi J;apply sC a0;rintro _ D ad⟨Z4,a3,W,a2,rfl,a1⟩ y B;have ai:D (3*u+2)=_:=(B _ Z).trans a8;apply(zG);apply sS [υ oc,CG ⟨⟨V⟩⟩,Y aX lX lX,Y aY lY lY,Y aR lR lR,Y Z4 a3 W];intro Z0 K F;have w:=ab B F;apply(zG);exact zA () (by(repeat (first|exact trivial|refine⟨ω,?_⟩))) ⟨ω,y,w,_,_,_,_,_,_,_,_,_,_,K,⟨A iX w y,A iY w y,A iR w y,(a1.sto F Z).ss⟩,by simpa only[mS]using hz _ hd (O X) (O Z3) (O R) a2 V lV⟩;apply(zG);have ha:=addS (k+5) a5 tV (TL.of (txt8 J).1) zV (txt8 J).2 zd (zV.add (txt8 J).2) zd;apply sC ha.cx;rintro _ D ad rfl y B;have ai:D (3*u+2)=_:=(B _ Z).trans a8;apply(zG);apply sS [υ oc,CG ⟨⟨ratT (zj V+zj c)⟩⟩,Y aX lX lX,Y aY lY lY,Y aR lR lR,Y aC lC lC];intro Z0 K F;have w:=ab B F;have hl:=U1 (zV.add (txt8 J).2) (m:=310) cA zd;apply(zG);exact zA () (by(repeat (first|exact trivial|refine⟨ω,?_⟩))) ⟨ω,y,w,_,_,_,_,_,_,_,_,_,_,K,⟨A iX w y,A iY w y,A iR w y,A iC w y⟩,by simpa only[mS]using hz 0 d0 (O X) (O Z3) (O R) (O C) (ratT (zj V+zj c)) Z⟩;rintro _ t ac a7 _⟨rfl,bo,aa,V',v1,v2,v3,v4,X',Y',R',C',e',bj,⟨iX,iY,iR,iC⟩,hz⟩;obtain⟨aX,lX,cX,rfl⟩:=iX.sh;obtain⟨aY,lY,cY,rfl⟩:=iY.sh;obtain⟨aR,lR,cR,rfl⟩:=iR.sh;obtain⟨aC,lC,cC,rfl⟩:=iC.sh;(try dsimp only at bo bj aa);have T:Exo H I ac:=⟨λb hb=>(aa.go b Z).trans (M.go b hb)⟩;have c7:ac (3*n+2)=_:=(aa.go _ Z).trans ag;have gO:=jO.ext (n':=a7) T.go Z;have gR:=jR.ext (n':=a7) T.go Z;have gL:=jL.ext (n':=a7) T.go Z;have gU:=jU.ext (n':=a7) T.go Z;have be:GG ac a7:=af.ext T.go Z;apply(Zh);have bs:=zzw (k+1) be gO gR gL gU hp (o:=oc) iX iY iR iC hz;apply dC bs.cx;rintro _ cc cp rfl S Z1;apply(zH);have bu:=yaa (k+4) (gO.ext Z1 S) (gR.ext Z1 S) (gL.ext Z1 S) (gU.ext Z1 S) hp (o:=oc) (iX.ext Z1 S) (iY.ext Z1 S) (iR.ext Z1 S) (iC.ext Z1 S) hz;apply dC bu.cx;rintro _ cd cq rfl cz ct;apply(zH);apply dC ((wz _ be.x).cx);rintro _ ce cs rfl d1 cv;apply(zf);exact rfl
end
section
variable{n:Nat}
def upFn(nm:Nat->Nat):Fn->Fn
 | .yield l=>.yield (nm l)
 |f=>f
mutual
def up(nm:Nat->Nat):ψ->ψ
 | CH (ξ a)=>CH (ξ ⟨nm a.block,a.off,a.spot⟩)
 | Y (ξ a) l c=>Y (ξ ⟨nm a.block,a.off,a.spot⟩) l c
 | .func f a b=>.func (upFn nm f) (No nm a) (No nm b)
 | .agg cs=>.agg (No nm cs)
 | .tuple cs=>.tuple (No nm cs)
 |v=>v
def No(nm:Nat->Nat):Array ψ->Array ψ
 |⟨l⟩=>⟨O2 nm l⟩
def O2(nm:Nat->Nat):List ψ->List ψ
 |[]=>[]
 |v::r=>up nm v::O2 nm r
end
mutual
def dl{g:Nat->Nat}(hb:∀b,ρ.b (g b)=b)(hx:∀b,ρ.x (g b)=0)(d:∀b,gro (g b)=χ):∀v:ψ,conc ρ (up g v)=v
 | CH θ=>rfl
 | CH (ξ a)=>by simp[up,conc,aj4,hb]
 | Y θ _ _=>rfl
 | Y (ξ a) l c=>by
  simp only[up,conc];rw[ρ.adrS_old (d a.block),hx];simp[aj4,hb]
 | .func f a b=>by
  have h1:ρ.fn (upFn g f)=f:=by cases f<;>simp[upFn,Ren.fn,hb]
  simp only[up,conc,h1,pJ hb hx d a,pJ hb hx d b]
 | .agg cs=>by simp only[up,conc,pJ hb hx d cs]
 | .tuple cs=>by simp only[up,conc,pJ hb hx d cs]
 | U _=>by simp[up,conc]
 | CC _ _=>by simp[up,conc]
 | .float _ _=>by simp[up,conc]
 | .complex _ _ _=>by simp[up,conc]
 | CG _=>by simp[up,conc]
 | .map _=>by simp[up,conc]
 | .chan _=>by simp[up,conc]
 | .nilFunc=>by simp[up,conc]
 | .nilIface=>by simp[up,conc]
 | .iface _ _=>by simp[up,conc]
def pJ{nm:Nat->Nat}(hb:∀b,ρ.b (nm b)=b)(hx:∀b,ρ.x (nm b)=0)(hg:∀b,gro (nm b)=χ):∀a:Array ψ,nw ρ (No nm a)=a
 |⟨l⟩=>by simp only[No,nw,an hb hx hg l]
def an{nm:Nat->Nat}(hb:∀b,ρ.b (nm b)=b)(hx:∀b,ρ.x (nm b)=0)(hg:∀b,gro (nm b)=χ):∀l:List ψ,mg ρ (O2 nm l)=l
 |[]=>rfl
 |v::r=>by simp only[O2,mg,dl hb hx hg v,an hb hx hg r]
end
def bdFn:Fn->Nat
 | .yield l=>l+1
 |_=>0
mutual
def bd:ψ->Nat
 | CH (ξ a)=>a.block+1
 | Y (ξ a) _ _=>a.block+1
 | .func f a b=>bdFn f+Np a+Np b
 | .agg cs=>Np cs
 | .tuple cs=>Np cs
 |_=>0
def Np:Array ψ->Nat
 |⟨l⟩=>LV l
def LV:List ψ->Nat
 |[]=>0
 |v::r=>bd v+LV r
end
def zjl(d:Kv m ρ ρ'){a}(h:a.block<m):ρ'.addr a=ρ.addr a:=by unfold aj4;rw[(d _ h).1]
def zjk(d:Kv m ρ ρ'){a}(h:a.block<m):ρ'.adrS a l c=ρ.adrS a l c:=by
 unfold Ren.adrS aj4;rw[(d _ h).1,(d _ h).2]
mutual
def Qw:∀(v:ψ) (m:Nat),bd v<=m->Nb m v
 | CH θ,m,_=>λρ ρ' _=>by simp
 | CH (ξ a),m,h=>λρ ρ' d=>by
  simp only[bd]at h;simp only[conc,zjl d (show a.block<m from Z)]
 | Y θ _ _,m,_=>λρ ρ' _=>by simp
 | Y (ξ a) l c,m,h=>λρ ρ' d=>by
  simp only[bd]at h;simp only[conc,zjk d (show a.block<m from Z),(d _ (show a.block<m from Z)).2]
 | .func f a b,m,h=>λρ ρ' d=>by
  simp only[bd]at h;have h1:ρ'.fn f=ρ.fn f:=by
   cases f<;>simp[Ren.fn];rename_i l;exact(d l (by simp only[bdFn]at h;omega)).1
  simp only[conc,h1,cU a m Z ρ ρ' d,cU b m Z ρ ρ' d]
 | .agg cs,m,h=>λρ ρ' d=>by
  simp only[bd]at h;simp only[conc,cU cs m h ρ ρ' d]
 | .tuple cs,m,h=>λρ ρ' d=>by
  simp only[bd]at h;simp only[conc,cU cs m h ρ ρ' d]
 | U _,m,_=>λρ ρ' _=>by simp[conc]
 | CC _ _,m,_=>λρ ρ' _=>by simp[conc]
 | .float _ _,m,_=>λρ ρ' _=>by simp[conc]
 | .complex _ _ _,m,_=>λρ ρ' _=>by simp[conc]
 | CG _,m,_=>λρ ρ' _=>by simp[conc]
 | .map _,m,_=>λρ ρ' _=>by simp[conc]
 | .chan _,m,_=>λρ ρ' _=>by simp[conc]
 | .nilFunc,m,_=>λρ ρ' _=>by simp[conc]
 | .nilIface,m,_=>λρ ρ' _=>by simp[conc]
 | .iface _ _,m,_=>λρ ρ' _=>by simp[conc]
def cU:∀(a:Array ψ) (m:Nat),Np a<=m->∀ρ ρ':Ren,Kv m ρ ρ'->nw ρ' a=nw ρ a
 |⟨l⟩,m,h=>λρ ρ' ha=>by
  simp only[Np]at h;simp only[nw,U8 l m h ρ ρ' ha]
def U8:∀(l:List ψ) (m:Nat),LV l<=m->∀ρ ρ':Ren,Kv m ρ ρ'->mg ρ' l=mg ρ l
 |[],m,_=>λρ ρ' _=>rfl
 |v::r,m,h=>λρ ρ' ha=>by
  simp only[LV]at h;simp only[mg,Qw v m Z ρ ρ' ha,U8 r m Z ρ ρ' ha]
end
def aK:∀{l:List ψ} {v:ψ},v∈l->bd v<=LV l:=by
 intro l;induction l with
 |nil=>intro v d;cases d
 |cons a l ih=>
  intro v d;simp only[LV];obtain rfl|d:=De.1 d;omega;have:=ih d;omega
def uW(W:World)(b:Nat):Option (List ψ):=match W.heap[b]? with|some (.cells c _ _)=>ξ c.toList|_=>θ
def wh(nm:Nat->Nat)(W:World):Nat->Hp
 |0=>.lf
 |k+1=>match uW W k with|some c=>Tr.put (wh nm W k) (nm k) (ξ (.ro (c.map (up nm))))|none=>wh nm W k
def NY{d:Nat->Nat}(hi:∀a b,d a=d b->a=b)(W):∀k x y,(wh d W k).at x=ξ y↔∃b,b<k/\x=d b/\∃c,uW W b=ξ c/\y=.ro (c.map (up d)):=by
 intro k;induction k with
 |zero=>
  intro x y;constructor;intro h;cases h;rintro⟨b,g,_⟩;omega
 |succ k ih=>
  intro x y;unfold wh;cases hc:uW W k with
  |none=>
   simp only;rw[ih];constructor;rintro⟨b,g,h⟩;exact⟨b,Z,h⟩;rintro⟨b,g,rfl,c,f,i⟩;have:b≠k:=λe=>by rw[e,hc]at f;cases f
   exact⟨b,Z,ω,c,f,i⟩
  |some c=>
   simp only;show Tr.get θ (Tr.put (wh d W k) (d k) _) x=ξ y↔_;rw[Tr.get_put θ rfl];by_cases hx:x=d k;rw[Cw hx];constructor;intro h;injection h with h;exact⟨k,Z,hx,c,hc,h.symm⟩;rintro⟨b,g,e,p,f,i⟩;have j:b=k:=hi _ _ (e.symm.trans hx);rw[j,hc]at f;injection f with f;rw[i,f];rw[Cv hx];show(wh d W k).at x=ξ y↔_;rw[ih];constructor;rintro⟨b,g,h⟩;exact⟨b,Z,h⟩;rintro⟨b,g,e,h⟩;have:b≠k:=λo=>hx (by rw[e,o]);exact⟨b,Z,e,h⟩
def nm(b:Nat):Nat:=if b=1\/b=0\/b=4 then 3*b else 3*b+2
def ij(a b)(h:nm a=nm b):a=b:=by unfold nm at h;split at h<;>split at h<;>omega
def ren0:Ren:=⟨λx=>x/3,λ_=>0,λ_ _=>rfl,λg=>by simp⟩
def oD(b):ren0.b (nm b)=b:=by unfold nm ren0;split<;>simp<;>omega
def zrr(h:b<n):nm b<3*n:=by unfold nm;split<;>omega
def U9(b):gro (nm b)=χ:=by unfold nm gro;split;rw[Nat.mul_mod_right];rfl;rw[Nat.mul_add_mod];rfl
def wH(W:World):Hp:=wh nm W W.heap.size
def zos(W):Sim MS ren0 (wH W) W:=by
 refine⟨λx y h=>?_,λx o h f e=>?_⟩;obtain⟨b,j,rfl,c,a,rfl⟩:=(NY ij W _ _ _).1 h;unfold uW at a;split at a;rename_i c' e fz hW;injection a with a;subst a;refine⟨_,by rw[oD];exact hW,e,fz,?_⟩;rw[Ip];have:(c'.toList.map (conc ren0 ∘ up nm))=c'.toList:=by
  conv=>rhs;rw[<-HB c'.toList]
  exact D5 λv _=>dl oD (λ_=>rfl) U9 v
 rw[this];cases a;have⟨y,g⟩:=Do.1 h;have⟨p,d⟩:=Do.1 f;obtain⟨b,_,rfl,_⟩:=(NY ij W _ _ _).1 g;obtain⟨i,_,rfl,_⟩:=(NY ij W _ _ _).1 d;rw[oD,oD]at e;rw[e]
structure Wn (W:World)(n:Nat):Prop where
 sz:W.heap.size<=n
 le:∀(b:Nat) (c:Array ψ) (e:TypeId) (fz:Nat×Nat),W.heap[b]?=ξ (Obj.cells c e fz)->∀v∈c.toList,bd (up nm v)<=3*n
theorem zrb(W)(d:List ψ):∃n,20<=n/\Wn W n/\Kq (3*n) (wH W)/\∀v∈d,bd v<=3*n:=by
 have p:∀k,∃m,∀b,b<k->∀c,uW W b=ξ c->LV (c.map (up nm))<=m:=by
  intro k;induction k with
  |zero=>exact⟨0,λb a=>Z⟩
  |succ k ih=>
   have⟨m,g⟩:=ih;cases i:uW W k with
   |none=>exact⟨m,λb a c h=>g b (by(have:b≠k:=λe=>by rw[e,i]at h;cases h);omega) c h⟩
   |some c'=>
    refine⟨m+LV (c'.map (up nm)),λb a c h=>?_⟩;by_cases hbk:b=k;rw[hbk,i]at h;injection h with h;subst h;omega;have:=g b Z c h;omega
 have⟨m,g⟩:=p W.heap.size;refine⟨20+W.heap.size+m+LV d,Z,⟨Z,λb c e s q v o=>?_⟩,λx y h=>?_,λv j=>by have:=aK j;omega⟩;have a:b<W.heap.size:=by grind
 have u:=g b a c.toList (by unfold uW;rw[q]);have w:=aK (FT (f:=up nm) o);omega;obtain⟨b,a,rfl,c,i,rfl⟩:=(NY ij W _ _ _).1 h;exact⟨zrr Z,λv j=>Qw v _ (by have:=aK j;have:=g b a c i;omega)⟩
theorem Va{W}{c}{fz}(h:W.heap[b]?=ξ (.cells c e fz)):hv (wH W) (nm b)=ξ (.ro (c.toList.map (up nm))):=by
 have a:b<W.heap.size:=by grind
 exact Pe ((NY ij W _ _ _).2 ⟨b,a,ω,_,by unfold uW;rw[h],ω⟩)
def zb3{W}(f)(a:List ψ)(k)(u:∀n,20<=n->Wn W n->(∀v∈a.map (up nm),bd v<=3*n)->VF (J4 k) f (a.map (up nm)) (hv (wH W)) n λv=>v=U φ):
  Calls Db f a.toArray W λe C=>e=.returned (U φ)/\RowKit.Below W.heap.size W C:=by
 have⟨n,J,K,B,o⟩:=zrb W (a.map (up nm));have F:∀v∈a.map (up nm),Nb (3*n) v:=λv hv=>Qw v _ (o v hv);have⟨v,R,S,w,A,p,y,q,s⟩:=u n J K o;rw[p,y,q,s]at A;have⟨⟨Z1,D,N,P⟩,L,M⟩:=(W0 k).call f (a.map (up nm)) (wH W) n _ A;obtain⟨p,y,q,s⟩:Z1=U φ/\hv D=hv (wH W)/\N=n/\P=[]:=(by simpa [rv]using M);subst p q s;have⟨_,d⟩:=(WY k).call _ _ _ _ _ _ _ _ L 0 ren0 W (zos W) B F;have i:((a.map (up nm)).map (conc ren0))=a:=by
  rw[Ip];conv=>rhs;rw[<-HB a]
  exact D5 λv _=>dl oD (λ_=>rfl) U9 v
 rw[i]at d;refine(callsIn_wide.1 d).mono λe C⟨ρ',H,g⟩=>⟨by rw[H];simp,?_⟩;exact⟨g.os,g.tape,g.out,g.size,λj I=>g.fr j I λb G=>Cu G CO⟩
end
end
section
open Go Go.GL Go.ChangeShapes Go.WideShapes Go.RowKit
variable{fuel n sz g c i l:Nat}{cs cells:List ψ}{held:Bool}{H α D:Type}{e t:TypeId}{v:ψ}{W:World}{h:HF}
section
set_option maxRecDepth 100000
def em{enc}{P}{w}{a}{f}{b}{k}{c}{y:DataW H×List MemPlace}
  (d:P.underlying t=ξ (.int k))(h:E0 enc P w a f b fuel t [c]=ξ y):∃n,c=CC k n/\y=(.lit (.int k n),[]):=by
 cases fuel with
 |zero=>simp[E0]at h
 |succ fuel=>
  cases c<;>simp[E0,d]at h;rename_i k' n;obtain⟨⟨rfl,_⟩,rfl⟩:=h;exact⟨n,ω,ω⟩
def jf{enc:TypeId×ψ->H}{P}{w}{f}{G}{j}{k}{l:List Int}{p}
  (D:P.underlying t=ξ (.array n e))(C:P.underlying e=ξ (.int k))(s:P.cellsOf e=1)(u:P.cellsOf t=n)
  (h:E0 enc P w f G j fuel t cs=ξ (.agg (l.map λz=>.lit (.int k z)),p)):cs=l.map λz=>CC k z:=by
 cases fuel with
 |zero=>simp[E0]at h
 |succ fuel=>
  simp only[E0,D]at h;split at h;rename_i hl;rw[u]at hl;rw[En]at h;have⟨A,v,a⟩:=h;simp only[Prod.mk.injEq,DataW.agg.injEq]at a;have⟨a,_⟩:=a;have o:=mapM_some_length v;rw[Ff]at o;have I:O l=n:=(by have:=congrArg O a;simp at this;omega);apply Eh;intro i;by_cases hi:i<n;have m:=mapM_some_get v i i (by simp[hi]);obtain⟨y,c⟩:∃y,A[i]?=ξ y:=⟨A[i]'Z,CD Z⟩;rw[c,s,DD]at m;have B:(cs.drop i).take 1=[cs[i]'Z]:=(by rw[EG Z];rfl);rw[B]at m;obtain⟨z,F,rfl⟩:=em C m;have b:=congrArg (λq=>q[i]?) a;simp only[Dx,c,ah5]at b;obtain⟨z',d⟩:∃z',l[i]?=ξ z':=⟨l[i]'Z,CD Z⟩;rw[d]at b;simp only[ah5,HJ,DataW.lit.injEq,Lit.int.injEq,true_and]at b;rw[CD Z,F,Dx,d,b];rfl;rw[Dc Z,Dc eP];cases h
def zcm{P}{W:World}{a}{cs}(b:P.globalNamed a=ξ g)(hv:W.var? P a=ξ cs):∃e fz,W.heap[g]?=ξ (.cells cs e fz):=by unfold World.var? at hv;rw[b]at hv;simp only[Option.bind_some]at hv;split at hv;rename_i cs' e fz h;injection hv with hv;subst hv;exact⟨e,fz,h⟩;cases hv
def up_u(a)(k)(l):(GK.u k l).map (up a)=GK.u k l:=by unfold GK.u;rw[Ip];exact D5 λz _=>rfl
def Nq:List (String×DataW Unit):=Rows.simplexTamperedRow.laid
def ky (i:Nat):String:=match Nq[i]? with|some x=>x.1|none=> ""
def g32:Db.globalNamed (ky 0)=ξ 4:=by kernel_rfl
def g64:Db.globalNamed (ky 1)=ξ 1:=by kernel_rfl
def g10:Db.globalNamed (ky 2)=ξ 0:=by kernel_rfl
def O3(t:TypeId)(n:Nat)(k:IntKind):Prop:=∃e,Db.underlying t=ξ (.array n e)/\Db.underlying e=ξ (.int k)/\Db.cellsOf e=1/\Db.cellsOf t=n
def pV{W}{a}{t:Nat}{k}{l}{cs}{p}(s:Db.globalNamed a=ξ g)(b:W.var? Db a=ξ cs)(j:O3 t n k)
  (q:E0 (λ_=>()) Db W 0 (λ_=>φ) χ fuel t cs.toList=ξ (.agg (l.map λz=>.lit (.int k z)),p)):hv (wH W) (nm g)=ξ (.ro (GK.u k l)):=by have⟨e,c,d,f,i⟩:=j;have o:=jf c d f i q;have⟨v,w,m⟩:=zcm s b;have:=Va m;rw[this,o];show ξ (BF.ro ((GK.u k l).map (up nm)))=_;rw[up_u]
def ty32:(Db.globals[4]?).map (·.type)=ξ 248:=by kernel_rfl
def ty64:(Db.globals[1]?).map (·.type)=ξ 242:=by kernel_rfl
def ty10:(Db.globals[0]?).map (·.type)=ξ 228:=by kernel_rfl
def zrg:O3 248 32 .u8:=⟨5,by kernel_rfl,by kernel_rfl,by kernel_rfl,by kernel_rfl⟩
def zrf:O3 242 64 .u8:=⟨5,by kernel_rfl,by kernel_rfl,by kernel_rfl,by kernel_rfl⟩
def zrh:O3 228 20 .u64:=⟨152,by kernel_rfl,by kernel_rfl,by kernel_rfl,by kernel_rfl⟩
def zgv{W}(h:laidMet Db Nq W):GK.G (hv (wH W)):=by have⟨L,a,_,_⟩:=h;have⟨C,P,u,y,I,M,b,l,p,f,a,_⟩:=a;have⟨D,R,v,A,J,N,c,m,q,i,a,_⟩:=a;have⟨F,S,w,B,K,Z1,d,o,s,j,_,_⟩:=a;obtain rfl:=Eb (g32.symm.trans b);obtain rfl:=Eb (g64.symm.trans c);obtain rfl:=Eb (g10.symm.trans d);obtain rfl:=Eb (ty32.symm.trans l);obtain rfl:=Eb (ty64.symm.trans m);obtain rfl:=Eb (ty10.symm.trans o);exact⟨pV c q zrf i,pV d s zrh j,pV b p zrg f⟩
end
section
set_option maxRecDepth 100000
mutual
def zje{H:Type}:∀d:DataW H,1<=Rows.uptoBulk d
 | .lit (.string b)=>by simp[Rows.uptoBulk]
 | .lit (.bool b)=>by simp[Rows.uptoBulk]
 | .lit (.int k b)=>by simp[Rows.uptoBulk]
 | .lit (.float k b)=>by simp[Rows.uptoBulk]
 | .lit .nil=>by simp[Rows.uptoBulk]
 | .nil=>by simp[Rows.uptoBulk]
 | .ptr d=>by simp[Rows.uptoBulk]
 | .slice _ _=>by simp[Rows.uptoBulk]
 | .agg _=>by simp[Rows.uptoBulk]
 | .iface _ d=>by simp[Rows.uptoBulk]
 | .map _=>by simp[Rows.uptoBulk]
 | .held _=>by simp[Rows.uptoBulk]
end
def dw{H}:∀l:List (DataW H),O l<=Rows.uptoBulkAll l:=by
 intro l;induction l with
 |nil=>simp
 |cons d l ih=>have:=zje d;simp only[DJ,Rows.uptoBulkAll];omega
def Vb{H}{d}:∀{l:List (DataW H)},d∈l->Rows.uptoBulk d<=Rows.uptoBulkAll l:=by
 intro l;induction l with
 |nil=>intro h;cases h
 |cons e l ih=>
  intro h;simp only[Rows.uptoBulkAll];obtain rfl|h:=De.1 h;omega;have:=ih h;omega
def zjg{a}(h:bd (up nm (Y (ξ a) l c))<=3*n):nm a.block<3*n:=by simp only[up,bd]at h;omega
def gD(a:Addr)(i):(a.add i).block=a.block:=by unfold FF;split<;>rfl
theorem Vc(a:Addr)(i):(a.add i).off=a.off+i:=by unfold FF;split<;>simp_all
def gA(a:Addr):a.add 0=a:=by unfold FF;simp
section
variable{enc:TypeId×ψ->H}
def mH{d}{p}(hW:Wn W n)(ht:Db.underlying t=ξ (.slice e))(a3:Db.cellsOf e=sz)(h0:0<sz)(h:E0 enc Db W 0 (λ_=>φ) held fuel t [v]=ξ (d,p))(hb:bd (up nm v)<=3*n):
  ∃(a:Option Addr) (l c:Nat) (cells:List ψ),v=Y a l c/\Sl (hv (wH W)) n sz (up nm v) (cells.map (up nm))/\O cells=l*sz/\l<=Rows.uptoBulk d/\(∀x∈cells,bd (up nm x)<=3*n)/\
   ∀i,i<l->∃C D q,E0 enc Db W 0 (λ_=>φ) held C e ((cells.drop (i*sz)).take sz)=ξ (D,q)/\Rows.uptoBulk D<=Rows.uptoBulk d:=by
 obtain⟨hv,T⟩|⟨a,f,V,m,C,D,Z1,hv,_,N,_,hm,w,M⟩:=Go.Deep.open_slice ht h;injection hv with hv;injection T with T;subst hv T;exact⟨θ,0,0,[],ω,.nil (.inl ω),eC,Cz,(λx w=>by cases w),λi s=>Cu s (DM i)⟩;injection hv with hv;injection w with w _;subst hv w;have a2:m=V:=by rw[hm];rfl
 subst a2;rw[a3]at M;have I:nm a.block<3*n:=zjg hb;have a1:f<=Rows.uptoBulk (ap8 ((DO f).map D) ((DO (m-f)).map λj=>D (f+j))):=(by have:=dw ((DO f).map D);rw[CN,Ff]at this;simp only[Rows.uptoBulk];omega);have Z4:∀i,i<f->Rows.uptoBulk (D i)<=Rows.uptoBulk (ap8 ((DO f).map D) ((DO (m-f)).map λj=>D (f+j))):=λi s=>(by have:=Vb (l:=(DO f).map D) (FT (GI.2 s));simp only[Rows.uptoBulk];omega);by_cases hc0:m=0;have a0:f=0:=Z;subst a0;refine⟨ξ a,0,m,[],ω,.nil (.inr ⟨_,_,_,ω,I⟩),eC,Cz,(λx w=>by cases w),λi s=>Cu s (DM i)⟩;have A:∀i,i<m->∃cs,E0 enc Db W 0 (λ_=>φ) held C e cs=ξ (D i,Z1 i)/\O cs=sz/\∀j,j<sz->W.cell? ((a.add (i*sz)).add j)=cs[j]?:=λi s=>(by have⟨cs,o,u⟩:=M i s;have⟨_,F,G⟩:=World.cells?_some o;exact⟨cs,u,F,G⟩);have S:a.spot=θ/\∃c P R,W.heap[a.block]?=ξ (.cells c P R):=(by have⟨cs,_,u,o⟩:=A 0 Z;have o:=o 0 h0;rw[DU,gA,gA,CD Z]at o;unfold IL at o;split at o;split at o;cases o;rename_i hs;exact⟨by simpa using hs,_,_,_,gY⟩;cases o);have⟨B,c,P,R,y⟩:=S;have⟨b,g,sp⟩:=a;simp only at B y I;subst B;have J:∀i,i<m->∃cs,E0 enc Db W 0 (λ_=>φ) held C e cs=ξ (D i,Z1 i)/\O cs=sz/\∀j,j<sz->c[g+i*sz+j]?=cs[j]?:=λi s=>by
  have⟨cs,u,G,F⟩:=A i s;refine⟨cs,u,G,λj K=>?_⟩;rw[<-F j K];have e1:((FF ⟨b,g,θ⟩ (i*sz)).add j).block=b:=by rw[gD,gD]
  have e2:((FF ⟨b,g,θ⟩ (i*sz)).add j).off=g+i*sz+j:=by rw[Vc,Vc]
  have e3:((FF ⟨b,g,θ⟩ (i*sz)).add j).spot=θ:=(by unfold FF;split;split<;>rfl;rfl);unfold IL;rw[e1,y];simp only[e2,e3];rfl
 have a4:g+m*sz<=c.size:=by
  have⟨cs,_,F,u⟩:=J (m-1) Z;have u:=u (sz-1) Z;rw[CD Z]at u;obtain Z3|Z3:=Nat.lt_or_ge (g+(m-1)*sz+(sz-1)) c.size;have:(m-1)*sz+sz=m*sz:=by rw[<-EI];congr 1;omega
  omega;rw[Array.getElem?_eq_none Z3]at u;cases u
 have a6:f*sz<=m*sz:=CM _ N;have L:O ((c.toList.drop g).take (f*sz))=f*sz:=(by rw[DA,Ek,Array.length_toList];omega);refine⟨ξ ⟨b,g,θ⟩,f,m,(c.toList.drop g).take (f*sz),ω,.at_ I (Va y) ω N (by show g+f*sz<=O (c.toList.map (up nm));simp;omega) (by rw[F2,List.map_drop]),L,a1,λx w=>hW.le b c P R y x (ET (Dp w)),λi s=>?_⟩;have⟨cs,o,F,G⟩:=J i Z;have Z0:(((c.toList.drop g).take (f*sz)).drop (i*sz)).take sz=cs:=by
  have a5:i*sz+sz<=f*sz:=by rw[<-EI];exact CM _ s
  apply Eh;intro j;by_cases K:j<sz;rw[Es K,DX,Es Z,DX,Array.getElem?_toList,<-G j K,Gs];rw[Dc (by rw[DA,Ek,L];omega),Dc Z]
 exact⟨C,D i,Z1 i,by rw[Z0];exact o,Z4 i s⟩
def Vd{g}{Q:α->Prop}:∀{l:Nat} {cells:List ψ},O cells=l*sz->(∀i,i<l->∃x,(cells.drop (i*sz)).take sz=g x/\Q x)->∃b:List α,O b=l/\cells=b.flatMap g/\∀x∈b,Q x:=by
 intro l;induction l with
 |zero=>intro cells j _;exact⟨[],ω,CT.1 (by rw[j,DU]),λx d=>by cases d⟩
 |succ l ih=>
  intro cells j h;have⟨x,d,f⟩:=h 0 Z;rw[DU,Dy]at d;have⟨b,m,o,p⟩:=ih (cells:=cells.drop sz) aD (λi q=>by
   have⟨y,a,f⟩:=h (i+1) Z;exact⟨y,by rw[Ey,<-a,EI,D6],f⟩)
  refine⟨x::b,by rw[DJ,m],?_,λy a=>?_⟩;rw[HS,<-d,<-o,DP];obtain rfl|a:=De.1 a;exact f;exact p y a
def lM{c}{y}(a:Db.underlying t=ξ .string)(h:E0 enc Db W 0 (λ_=>φ) held fuel t [c]=ξ y):∃s:List UInt8,c=CG ⟨⟨s⟩⟩:=by
 cases fuel with
 |zero=>simp[E0]at h
 |succ fuel=>
  cases c<;>simp[E0,a]at h;rename_i s;exact⟨s.data.toList,ω⟩
def zh0(a:O cells=l*1)(hi:i<l):∃v,(cells.drop (i*1)).take 1=[v]:=by rw[DD]at a⊢;exact⟨cells[i]'Z,by rw[EG Z];rfl⟩
theorem uL{d}{p}(B:Wn W n)(F:Db.underlying t=ξ (.slice e))(C:Db.underlying e=ξ .string)(o:Db.cellsOf e=1)(h:E0 enc Db W 0 (λ_=>φ) held fuel t [v]=ξ (d,p))(hb:bd (up nm v)<=3*n):
  ∃S:List (List UInt8),Sl (hv (wH W)) n 1 (up nm v) (strs S)/\O S<=Rows.uptoBulk d:=by
 obtain⟨a,l,c,cells,rfl,u,b,I,_,w⟩:=mH B F o zd h hb;have⟨L,y,f,A⟩:=Vd (g:=λs:List UInt8=>[CG ⟨⟨s⟩⟩]) (Q:=λ_=>True) b (λi m=>by
  have⟨v,hv⟩:=zh0 b m;have⟨G,D,q,j,_⟩:=w i m;rw[hv]at j⊢;obtain⟨z,rfl⟩:=lM C j;exact⟨z,rfl,Cx⟩)
 refine⟨L,?_,Z⟩;have:cells.map (up nm)=strs L:=by
  rw[f];clear A f y;induction L with
  |nil=>rfl
  |cons z L ih=>rw[HS,Eu,ih];rfl
 rw[<-this];exact u
def parts(t:TypeId):Option (List (TypeId×Nat)):=match Db.underlying t with|some (.struct fs)=>ξ (fs.toList.map λf=>(f.type,f.offset))|_=>θ
theorem pW{L}{d}{p}(a:parts t=ξ L)(h:E0 enc Db W 0 (λ_=>φ) held fuel t cs=ξ (d,p)):
  (O cs)=Db.cellsOf t/\∃fu b,d=.agg b/\∀(i:Nat) (f:TypeId×Nat),L[i]?=ξ f->∃D q,E0 enc Db W 0 (λ_=>φ) held fu f.1 ((cs.drop f.2).take (Db.cellsOf f.1))=ξ (D,q)/\D∈b:=by
 cases fuel with
 |zero=>simp[E0]at h
 |succ fuel=>
  unfold parts at a;split at a;rename_i fs hfs;injection a with a;simp only[E0,hfs]at h;split at h;rename_i hl;refine⟨hl,?_⟩;rw[En]at h;have⟨b,u,m⟩:=h;injection m with m _;refine⟨fuel,b.map (·.1),m.symm,λi f s=>?_⟩;subst a;rw[Dx,En]at s;obtain⟨g,w,rfl⟩:=s;have A:=mapM_some_length u;have B:i<O fs.toList:=by grind
  have o:=mapM_some_get u i g w;obtain⟨y,j⟩:∃y,b[i]?=ξ y:=⟨b[i]'Z,CD Z⟩;rw[j]at o;exact⟨y.1,y.2,o,FT (CE j)⟩;cases h;cases a
def zod{a}{D:DataW H}(h:D∈a):Rows.uptoBulk D<=Rows.uptoBulk (.agg a):=by have:=Vb h;simp only[Rows.uptoBulk];omega
end
end
section
set_option maxRecDepth 100000
def zrt{l:List α}(h:O l=4):∃a b c d,l=[a,b,c,d]:=by
 match l,h with
 |[a,b,c,d],_=>exact⟨a,b,c,d,ω⟩
def zru{l:List α}(h:O l=3):∃a b c,l=[a,b,c]:=by
 match l,h with
 |[a,b,c],_=>exact⟨a,b,c,ω⟩
def gV:Db.underlying 9=ξ .string:=by kernel_rfl
def O4:Db.underlying 22=ξ (.slice 9):=by kernel_rfl
def zox:Db.underlying 23=ξ (.slice 41):=by kernel_rfl
def NZ:Db.cellsOf 9=1:=by kernel_rfl
def Ve:Db.cellsOf 22=1:=by kernel_rfl
def zqw:Db.cellsOf 23=1:=by kernel_rfl
def Vf:Db.cellsOf 41=3:=by kernel_rfl
def c_lp:Db.cellsOf 25=4:=by kernel_rfl
def zro:parts 41=ξ [(22,0),(9,1),(9,2)]:=by kernel_rfl
def p_lp:parts 25=ξ [(22,0),(23,1),(22,2),(22,3)]:=by kernel_rfl
def Rec.flat{P}{g}:∀{l:List D},(∀x∈l,O (g x)=sz/\P (g x) x)->Rec sz P (l.flatMap g) l:=by
 intro l;induction l with
 |nil=>intro _;exact .nil
 |cons x l ih=>
  intro h;rw[HS];exact .cons (h x D4).1 (h x D4).2 (ih λy a=>h y (EV _ a))
def Rec.map{E}{P}{a:List ψ->E->Prop}{f:D->E}{l}(r:Rec sz P cs l)(h:∀c d,P c d->a c (f d)):Rec sz a cs (l.map f):=by
 induction r with
 |nil=>exact .nil
 |cons hl hp hr ih=>exact .cons hl (h _ _ hp) ih
section
variable{enc:TypeId×ψ->H}
theorem zdp{d}{p}(G:Wn W n)(h:E0 enc Db W 0 (λ_=>φ) held fuel 23 [v]=ξ (d,p))(hb:bd (up nm v)<=3*n):
  ∃rs,Kt (hv (wH W)) n (up nm v) rs/\O rs<=Rows.uptoBulk d/\∀r∈rs,O r.A<=Rows.uptoBulk d:=by
 obtain⟨a,l,c,b,rfl,K,M,h3,N,Z1⟩:=mH G zox Vf zd h hb;obtain⟨L,P,C,m⟩:=Vd (α:=RowD×ψ) (g:=λx=>[x.2,CG ⟨⟨x.1.lo⟩⟩,CG ⟨⟨x.1.hi⟩⟩]) (Q:=λx=>Sl (hv (wH W)) n 1 (up nm x.2) (strs x.1.A)/\O x.1.A<=Rows.uptoBulk d) M (λi T=>by
  obtain⟨fu,D,q,F,a0⟩:=Z1 i T;have j:∀x∈(b.drop (i*3)).take 3,bd (up nm x)<=3*n:=λx f=>N x (ET (Dp f));generalize (b.drop (i*3)).take 3=cs at F j⊢;obtain⟨I,Z0,xs,rfl,f⟩:=pW zro F;rw[Vf]at I;obtain⟨u,c1,c2,rfl⟩:=zru I;obtain⟨D0,_,w,V⟩:=f 0 _ rfl;obtain⟨_,_,y,_⟩:=f 1 _ rfl;obtain⟨_,_,B,_⟩:=f 2 _ rfl;simp only[Ve,NZ]at w y B;have b0:=zod V;obtain⟨S,Z3,s2⟩:=uL G O4 gV NZ w (j u eC);obtain⟨s,rfl⟩:=lM gV y;obtain⟨t,rfl⟩:=lM gV B;exact⟨(⟨S,s,t⟩,u),rfl,Z3,by show O S<=_;omega⟩)
 refine⟨L.map (·.1),⟨b.map (up nm),K,?_⟩,eH,λr Z4=>?_⟩
 .have e:b.map (up nm)=L.flatMap λx=>[up nm x.2,CG ⟨⟨x.1.lo⟩⟩,CG ⟨⟨x.1.hi⟩⟩]:=by
   rw[C];clear m C P;induction L with
   |nil=>rfl
   |cons z L ih=>rw[HS,Eu,ih];rfl
  rw[e];refine(Rec.flat (sz:=3) λx f=>⟨rfl,?_⟩).map λc d R=>R;obtain⟨o,_⟩:=m x f;obtain⟨a2,l2,k2,J⟩:=o.sh;rw[J]at o⊢;exact⟨_,_,_,rfl,o⟩
 obtain⟨x,f,rfl⟩:=DL.1 Z4;exact(m x f).2
def zm6{d}{p}(s:Wn W n)(T:∃cs,v=.agg cs)(h:DataW.Trod enc Db W 0 (λ_=>φ) held 25 v d p)(hb:bd (up nm v)<=3*n):
  ∃(ao:Option Addr) (lo co:Nat) (ar:Option Addr) (lr cr:Nat) (aw:Option Addr) (lw cw:Nat) (au:Option Addr) (lu cu:Nat) (q:LPD),up nm v=.agg #[Y ao lo co,Y ar lr cr,Y aw lw cw,Y au lu cu]/\Sl (hv (wH W)) n 1 (Y ao lo co) (strs q.obj)/\Kt (hv (wH W)) n (Y ar lr cr) q.rows/\Sl (hv (wH W)) n 1 (Y aw lw cw) (strs q.lower)/\Sl (hv (wH W)) n 1 (Y au lu cu) (strs q.upper):=by obtain⟨cs,rfl⟩:=T;have⟨fuel,h⟩:=h;obtain⟨R,fu,xs,rfl,a⟩:=pW p_lp h;rw[c_lp]at R;have⟨c,g,i,j,m⟩:=zrt R;have C:cs=#[c,g,i,j]:=(by cases cs;simp[Value.cells]at m;simp[m]);subst C;have b:∀x∈[c,g,i,j],bd (up nm x)<=3*n:=λx a=>(by have:=aK (FT (f:=up nm) a);have e:bd (up nm (.agg #[c,g,i,j]))=LV ([c,g,i,j].map (up nm)):=rfl;omega);rw[m]at a;have⟨V,_,L,m0⟩:=a 0 _ rfl;have⟨Z3,_,M,m1⟩:=a 1 _ rfl;have⟨Z0,_,N,m2⟩:=a 2 _ rfl;have⟨D3,_,P,m3⟩:=a 3 _ rfl;simp only[Ve,zqw]at L M N P;have⟨Z1,u,_⟩:=uL s O4 gV NZ L (b c eC);have⟨Z4,S,_⟩:=zdp s M (b g eC);have⟨A,w,_⟩:=uL s O4 gV NZ N (b i eC);have⟨B,y,_⟩:=uL s O4 gV NZ P (b j eC);have⟨_,_,_,G⟩:=u.sh;have⟨o,l,F⟩:=S;have⟨_,_,_,I⟩:=l.sh;have⟨_,_,_,J⟩:=w.sh;have⟨_,_,_,K⟩:=y.sh;rw[G]at u;rw[I]at l;rw[J]at w;rw[K]at y;refine⟨_,_,_,_,_,_,_,_,_,_,_,_,⟨Z1,Z4,A,B⟩,?_,u,⟨o,l,F⟩,w,y⟩;show Value.agg #[up nm c,up nm g,up nm i,up nm j]=_;rw[G,I,J,K]
end
end
section
set_option maxRecDepth 100000
def own:ownKnob Db.godebug=θ:=by kernel_rfl
def ei:laidOutB Db=φ:=by kernel_rfl
def kw(c:Array ψ):Obj->Obj
 | .cells _ t frozen=>.cells c t frozen
 |o=>o
def iH(os:Os):World:=
 {al4 Db os ⟨#[],#[],[]⟩with heap:=(((al4 Db os ⟨#[],#[],[]⟩).heap.modify 1 (kw GK.d64.toArray)).modify 0 (kw GK.p10.toArray)).modify 4 (kw GK.d32.toArray)}
def kx(os)(a):laidMet Db Nq ((iH os).forCall (λ_ _=>0) ⟨#[],a,[]⟩).memory:=
 laidMet_of_run' 8 (by kernel_rfl) (by kernel_rfl)
end
end
end Go.Proofs.YtdeaddceicfanaaGreatDoor
