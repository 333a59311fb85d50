import Derived.Below
import Derived.Test.YtfajmfoofmienaaGreatDoorRows
import Derived.ChangeSame
import Derived.ChangeVars
import Derived.ChangeSlices
import Derived.JoinedOf
import Derived.RowKit
import Derived.RowKitTokens
import Derived.LaidLaws
import Derived.Carry
import Derived.Handed
import Derived.Deep.Slices
import Derived.Test.YtfajmfoofmienaaGreatDoorTie
import Derived.Test.YtfajmfoofmienaaGreatDoorCards
import Derived.Test.YtfajmfoofmienaaGreatDoorDuaE
open Array renaming getElem?_eq_none→BH
open Classical renaming byContradiction→An
open Go.Addr renaming add→CB
open Go.Cell renaming okWide→HH
open Go.DataW renaming trod→EN
open Go.Value renaming bool→kz,cells→BA,int→jy,okWide→Fq,pointer→kS,slice→jx,string→kF
open List renaming append_assoc→Aq,append_nil→A3,ext_getElem?→Bn,getElem?_append_left→AZ,getElem?_append_right→AE,getElem?_eq_getElem→k4,getElem?_eq_none→Ad,getElem?_eq_none_iff→FJ,getElem?_eq_some_iff→oc,getElem?_map→sr,getElem?_range→AL,getElem?_set→Cc,getElem?_take_of_lt→Ce,getElem_mem→FY,length→gP,length_append→nn,length_cons→Au,length_drop→Ak,length_map→oo,length_range→Aj,length_replicate→Ah,length_set→AY,length_take→Af,length_zipWith→Fi,map_congr_left→Ba,map_id→Da,map_map→DA,mem_append→Al,mem_append_left→CE,mem_cons→sP,mem_cons_of_mem→AV,mem_cons_self→As,mem_map→Ay,mem_of_getElem?→ns,mem_range→Cf,mem_singleton→nP,not_mem_nil→nN,pairwise_append→E0,range→AC,replicate→pl,take_append_drop→Bf,take_length→Ax,take_zero→Bj,zipWith→C4
open Nat renaming beq→AG,le_refl→AK,le_succ→ux,lt_irrefl→BK,lt_of_lt_of_le→tv,lt_or_ge→Ci,lt_succ_self→Dt,mul_comm→vT,mul_le_mul→AD,mul_one→AO,mul_pos→CQ,mul_succ→Ch,not_lt_zero→Bp,one_mul→Bs,sub_self→A7,zero_add→AA
open Ne renaming symm→DN
open Option renaming isSome_iff_exists→AB,map_some→Gc
open Option.some renaming inj→A0,injEq→C6
open Rat renaming add_assoc→Cx,add_zero→A2,den_intCast→DI,mul_comm→BO,mul_zero→Br,neg_num→Em,num_eq_zero→B7,num_intCast→CZ,one_mul→Dv,zero_add→C3,zero_mul→Cg
set_option maxHeartbeats 8000000
set_option linter.unusedVariables false
set_option linter.unusedSimpArgs false
namespace Go.Proofs.YtfajmfoofmienaaGreatDoor
open Go Go.GL
variable {n lB cB lF cF cE lE least n' F lO cO m BR n0 bp ep N b sz lX cX lU cU bS cap K lY cY ts bg l D lo' c' m' bt tm bx ex cR P:Nat}{h h':HF}{aB aF aE aO aX aU aY ar aR a:Option Addr}{vO vF y5 vB vE y6 y9 z46 z47 y3 y7 y13 v':Value}{E:List Ent}{qs qs':List Eqn}{ce c args cs:List Value}{ds:List MD}{us ys rs:List Rat}{t:TF}{tbs bs rt ms rm W w:List Nat}{rbs:List (List Nat)}{T:TapeI}{e:TypeId}{s:List UInt8}{q g0:Rat}{Y:List (List UInt8)}{ρ' ρ:Ren}{ops r:List Oper}{al ld:List (Nat×Nat)}{X:CtxF}{Q:SV→Prop}{o:Oper}{d:Tmp}{L:Nat→Rat}
variable {i j k:Nat}{Ns:List Nat}{v u:Value}
theorem zgr {e:Ent}(h:EntF Ns e)(a:coE e k i j≠0):e.b=(k:Int)∧(e.r=(i:Int)∧e.c=(j:Int)∨e.r=(j:Int)∧e.c=(i:Int))∧e.r≤e.c:=by
 obtain ⟨l,N,d,f,v,rfl,_,g,_⟩:=h;unfold coE at a;split at a
 ·rename_i hc;exact ⟨hc.1,hc.2,by show (d:Int)≤(f:Int);omega⟩
 exact cA rfl a
theorem zjy (h:∀e∈E,coE e k i j=0):coL E k i j=0:=by
 induction E with
 |nil=>rfl
 |cons e E ih=>
  show coE e k i j+coL E k i j=0;rw [h e As,ih fun x a=>h x (AV _ a),A2]
theorem zqt (a:∀e∈E,EntF Ns e)(o:E.Pairwise ltE)(k i j:Nat):FN 2 4 (coL E k i j):=by
 induction E with
 |nil=>exact FN.zero _ _
 |cons e E ih=>
  obtain ⟨d,g⟩:=List.pairwise_cons.1 o;show FN 2 4 (coE e k i j+coL E k i j);by_cases h0:coE e k i j=0
  ·rw [h0,C3];exact ih (fun x q=>a x (AV _ q)) g
  have u:=zgr (a e As) h0;rw [zjy (E:=E) fun f c=>An fun p=>?_,A2]
  ·exact zlo (a e As) k i j
  have s:=zgr (a f (AV _ c)) p;have l:=d f c;unfold ltE ltP at l;omega
structure EW (Ns:List Nat)(E:List Ent)(b r c:Nat):Prop where
 d:∀e∈E,EntD 24 3840 Ns e
 v:∀e∈E,e.v≠[48]
 asc:E.Pairwise ltE
 lt:∀e∈E,ltP e (b:Int) (r:Int) (c:Int)
theorem EW.nil (Ns:List Nat):EW Ns [] 0 0 0:=⟨fun e h=>(by cases h),fun e h=>(by cases h),.nil,fun e h=>(by cases h)⟩
theorem EW.mono {r c a f:Nat}(h:EW Ns E b r c)(h':b<a∨(b=a∧(r<f∨(r=f∧c≤c')))):EW Ns E a f c':=⟨h.d,h.v,h.asc,fun e g=>oZ (h.lt e g) zo⟩
theorem EW.snoc {r c:Nat}{x:Rat}(h:EW Ns E b r c)(o:Ns[b]?=some N)(g:r≤c)(q:c<N)(s:FN 24 3840 x)(h0:x≠0):EW Ns (E++[⟨(b:Int),(r:Int),(c:Int),ratT x⟩]) b r (c+1):=by
 refine ⟨fun e f=>?_,fun e f=>?_,?_,fun e f=>?_⟩
 ·rcases Al.1 f with f|f
  ·exact h.d e f
  rw [nP.1 f];exact ⟨b,N,r,c,x,rfl,o,g,q,s⟩
 ·rcases Al.1 f with f|f
  ·exact h.v e f
  rw [nP.1 f];exact fun l=>h0 (uU (l.trans wf.symm))
 ·rw [E0];refine ⟨h.asc,List.pairwise_singleton _ _,fun a p e f=>?_⟩;rw [nP.1 f];exact h.lt a p
 rcases Al.1 f with f|f
 ·exact oZ (h.lt e f) zo
 rw [nP.1 f];unfold ltP;show _∨((b:Int)=b∧((r:Int)<r∨((r:Int)=r∧(c:Int)<((c+1:Nat):Int))));omega
theorem EW.listV {r c:Nat}{B:List Int}(h:EW Ns E b r c)(l:Ns=B.map Int.toNat)(p:∀d∈B,1≤d):fa B E:=fun j e g=>by
 obtain ⟨k,N,i,m,x,rfl,hk,him,hm,_⟩:=h.d e (ns g);have hkl:=(oc.1 hk).1;rw [l,oo] at hkl;have hN:B[k]?=some (N:Int):=by
  rw [l,sr] at hk;rw [k4 hkl] at hk ⊢;have:=p _ (FY hkl);have o:(B[k]'hkl).toNat=N:=A0 hk;rw [←o];congr 1;omega
 refine ⟨⟨⟨by show (0:Int)≤(k:Int);omega,by show (k:Int)<_;omega⟩,⟨by show (0:Int)≤(i:Int);omega,by show (i:Int)≤(m:Int);omega⟩,fun d a=>?_⟩,fun f u q=>?_,⟨x,rfl⟩,h.v _ (ns g)⟩
 ·have a:B[((k:Int)).toNat]?=some d:=a;rw [Int.toNat_natCast,hN] at a;cases a;show (m:Int)<(N:Int);omega
 have s:=(oc.1 g).1;have:=List.pairwise_iff_getElem.1 h.asc (j-1) j zo s zo;rw [(oc.1 g).2,(oc.1 q).2] at this;exact this
abbrev Bef (k r c b i m:Nat):Prop:=k<b∨k=b∧(r<i∨r=i∧c<m)
def CoI (Ns:List Nat)(D:Nat→Nat→Nat→Rat)(E:List Ent)(b i m:Nat):Prop:=∀k N r c,Ns[k]?=some N→r≤c→c<N→coL E k r c=if Bef k r c b i m then D k r c else 0
theorem CoI.nil (Ns:List Nat)(D:Nat→Nat→Nat→Rat):CoI Ns D [] 0 0 0:=fun k N r c _ _ _=>by
 rw [cC (by unfold Bef;omega)];rfl
theorem CoI.same {D:Nat→Nat→Nat→Rat}{f l:Nat}(h:CoI Ns D E b i m)(g:∀k N r c,Ns[k]?=some N→r≤c→c<N→(Bef k r c f l m'↔Bef k r c b i m)):CoI Ns D E f l m':=fun k N r c a d e=>by
 rw [h k N r c a d e];by_cases hb:Bef k r c b i m
 ·rw [eN hb,eN ((g k N r c a d e).2 hb)]
 rw [cC hb,cC fun h=>hb ((g k N r c a d e).1 h)]
theorem CoI.row {D:Nat→Nat→Nat→Rat}(h:CoI Ns D E b i N)(d:Ns[b]?=some N):CoI Ns D E b (i+1) (i+1):=h.same fun k e r c a f g=>by
 unfold Bef;by_cases hk:k=b
 ·subst hk;rw [d] at a;cases a;omega
 omega
theorem CoI.blk {D:Nat→Nat→Nat→Rat}(h:CoI Ns D E b N N)(d:Ns[b]?=some N):CoI Ns D E (b+1) 0 0:=h.same fun k e r c a f g=>by
 unfold Bef;by_cases hk:k=b
 ·subst hk;rw [d] at a;cases a;omega
 omega
theorem CoI.step {D:Nat→Nat→Nat→Rat}(h:CoI Ns D E b i m)(g:i≤m){P:List Ent}(f:∀k r c,r≤c→coL P k r c=if k=b∧r=i∧c=m then D b i m else 0):CoI Ns D (E++P) b i (m+1):=fun k N r c d a e=>by
 rw [kP,h k N r c d a e,f k r c a];by_cases he:k=b∧r=i∧c=m
 ·obtain ⟨rfl,rfl,rfl⟩:=he;rw [cC (by unfold Bef;omega),eN ⟨rfl,rfl,rfl⟩,eN (by unfold Bef;omega),C3]
 rw [cC he,A2];by_cases hb:Bef k r c b i m
 ·rw [eN hb,eN (by unfold Bef at*;omega)]
 rw [cC hb,cC (by unfold Bef at*;omega)]
noncomputable def cv (D:Nat→Nat→Nat→Rat)(b i m:Nat):Rat:=if i<m then 2*D b i m else D b i m
theorem znx {D:Nat→Nat→Nat→Rat}(h:cv D b i m=0):D b i m=0:=by
 unfold cv at h;split at h
 ·grind
 exact h
theorem CoI.skip {D:Nat→Nat→Nat→Rat}(h:CoI Ns D E b i m)(a:i≤m)(h0:cv D b i m=0):CoI Ns D E b i (m+1):=by
 have:=h.step a (P:=[]) fun k r c _=>by rw [znx h0];split<;>rfl
 rwa [A3] at this
theorem CoI.snoc {D:Nat→Nat→Nat→Rat}(h:CoI Ns D E b i m)(a:i≤m):CoI Ns D (E++[⟨(b:Int),(i:Int),(m:Int),ratT (cv D b i m)⟩]) b i (m+1):=by
 refine h.step a fun k r c d=>?_;show coE _ k r c+0=_;rw [A2];by_cases he:k=b∧r=i∧c=m
 ·obtain ⟨rfl,rfl,rfl⟩:=he;rw [eN ⟨rfl,rfl,rfl⟩,oa];unfold cv;by_cases hrc':r=c
  ·rw [eN hrc',cC zo]
  rw [cC hrc',eN zo]
  grind
 rw [cC he];exact rW zo
theorem CoI.all {D:Nat→Nat→Nat→Rat}(h:CoI Ns D E (gP Ns) 0 0)(f:∀k i j,D k i j=D k j i)(c:Ns[k]?=some N)(d:i<N)(e:j<N):coL E k i j=D k i j:=by
 have g:=(oc.1 c).1;rcases Nat.le_total i j with a|a
 ·rw [h k N i j c a e,eN (by unfold Bef;omega)]
 rw [qJ,h k N j i c a d,eN (by unfold Bef;omega),f]
section
variable {i:Nat}
section
variable {p:Sdp}{M:Nat→Nat→Nat→Rat}
structure EqD (p:Sdp)(i:Nat)(q:Eqn)(BR:Nat)(x:Rat):Prop where
 es:eqEs p i=q.es
 fs:eqFs p i=q.fr
 rh:numOf (eqRh p i)=x
 ee:∀e∈q.es,EntD 1 2 (dimN p) e
 el:gP q.es≤256
 fl:gP q.fr=p.free
 f2:∀s∈q.fr,TxF 1 2 s
 s2:∀s∈q.fr,wn 2 s
 r:q.rhs=ratT x
 sx:FN 12 BR x
theorem SdpW.eqd (f:SdpW F p BR){q:Eqn}(a:p.eqs[i]?=some q):∃x,EqD p i q BR x:=by
 have g:=ns a;obtain ⟨j,l,m,c,x,b,v⟩:=f.eqo q g;refine ⟨x,?_,?_,?_,fun e o=>(j e o).d,l,m,fun s u=>(c s u).tx zd,c,b,v⟩
 ·unfold eqEs;rw [a];rfl
 ·unfold eqFs;rw [a];rfl
 unfold eqRh;rw [a];show numOf q.rhs=_;rw [b];exact zn _
theorem PtB.lz (B:PtB p ds M us){q:Eqn}{x:Rat}(a:EqD p i q BR x)(f:p.free≤100):Sz 28 (fm M q.es+dt q.fr us p.free):=by
 have c:=(zb3 B.b a.ee).up 12;have d:=zb5 a.f2 (fun u e=>B.uf e) p.free;refine FN.sz (D:=12) (c.add d) zd zd ?_;have:=a.el;omega
theorem zpb (k:Nat)(g:GG h n)(hF:F≤100)(hp:SdpR h n (jx aB lB cB) (jx aO lO cO) (jx aF lF cF) (jx aE lE cE) p)(ad:BR≤131072)(w:SdpW F p BR)(hx:PtR h n (jx aX lX cX) (jx aU lU cU) p ds M us)(B:PtB p ds M us):
  CX (cal (k+15)) 59 [.agg #[jx aB lB cB,jy .i64 (p.free:Int),jx aO lO cO,jx aF lF cF,jx aE lE cE],.agg #[jx aX lX cX,jx aU lU cU]] h n fun v R U=>∃b,v=.tuple #[jx (some ⟨b,0,none⟩) (gP p.eqs) (gP p.eqs),jy .i64 0]∧OT R U b ((AC (gP p.eqs)).map fun i=>ratT (rsQ p M us i)):=by
 have b1:=w.free;have b0:=w.eql;have ae:∀N∈dimN p,N≤8:=fun N hN=>by
  obtain ⟨d,hd,rfl⟩:=Ay.1 hN;have:=w.b3 d hd;omega
 have ai:lE=gP p.eqs:=by
  obtain ⟨ce,hE,S⟩:=hp.eqs;exact hE.lenEq zo S.len
 subst ai;refine zu (fn:=Tryz.f59) R4 ?_;refine zG ?_;refine sB [jx aB lB cB,jy .i64 (p.free:Int),jx aO lO cO,jx aF lF cF,jx aE (gP p.eqs) cE] ?_;intro h1 p1 x1;refine sB [jx aX lX cX,jx aU lU cU] ?_;intro h2 p2 x2;refine zG ?_;have O:Ex0 n h h2:=⟨(zx:Tx n h (n+1+1) h2).2⟩;have hv:=cd k (g.ext O.e (show n≤n+1+1 by omega)) hF (hp.ext0 O.e zo) ad w (hx.ext O.e zo) B;refine sC hv.cx ?_;rintro _ h3 A rfl y3 x3;refine zG ?_;refine sMk (L:=gP p.eqs) [kF ⟨⟨[]⟩⟩] ?_ zo;intro h4 p4 x4;have o4:OT h4 (A+1) (3*A+2) (pl (gP p.eqs) []):=OR.fill zo p4 strP.kp rfl;obtain ⟨e2,q2⟩:∃e,h4 (3*(n+1)+2)=some (.row [jx aX lX cX,jx aU lU cU] e):=⟨_,zp⟩;have X4:Ex0 n h h4:=⟨fun c hc=>(x4 c zo).trans ((x3 c zo).trans (O.e c hc))⟩;refine zG ?_;obtain ⟨K,af⟩:∃b,b=3*A+2:=⟨_,rfl⟩;rw [←af] at o4 ⊢;have av:3*A≤K∧K<3*(A+1):=zo;clear x1 x2 x3 x4 p1 p2 p4 O;refine sF (α:=Nat) (fun z=>[(3,kS (some ⟨3*(n+1)+2,0,none⟩)),(6,jx (some ⟨K,0,none⟩) (gP p.eqs) (gP p.eqs)),(19,jx aE (gP p.eqs) cE),(20,jy .i64 (gP p.eqs:Int)),(21,jy .i64 (z:Int))])
  (fun z R U w'=>w'=[]∧A+1≤U∧Ex0 n h R∧R (3*(n+1)+2)=some (.row [jx aX lX cX,jx aU lU cU] e2)∧OT R U K (((AC (gP p.eqs)).take z).map (fun i=>ratT (rsQ p M us i))++pl ((AC (gP p.eqs)).length-z) [])∧z≤gP p.eqs) (fun z=>gP p.eqs-z) 0 ⟨rfl,eT,X4,q2,o4.as (by rw [Bj,Nat.sub_zero,Aj];rfl),eU⟩ ?_
 rintro i t W f _ ⟨rfl,y8,E8,q8,Z,hi⟩;have hi:i≤gP p.eqs:=hi;have y8:A+1≤f:=y8;have Z:OT W f K (((AC (gP p.eqs)).take i).map (fun i=>ratT (rsQ p M us i))++pl ((AC (gP p.eqs)).length-i) []):=Z;clear o4 q2 X4;refine zG ?_;by_cases qi:(i:Int)<(gP p.eqs:Int)
 ·obtain ⟨q,hq⟩:∃q,p.eqs[i]?=some q:=⟨_,k4 zo⟩;obtain ⟨x,hd⟩:=w.eqd hq;have ah:rsQ p M us i=fm M q.es+dt q.fr us p.free-x:=by
   unfold rsQ;rw [hd.es,hd.fs,hd.rh]
  obtain ⟨ce,hE,S⟩:=hp.eqs;obtain ⟨ve,vf,ec,s1,s2⟩:=S.get hq;obtain ⟨a1,l1,c1,rfl,a3⟩:=s1.len;obtain ⟨a2,l2,c2,rfl,b2⟩:=s2.len;have a0:=hd.el;have a3:l1=gP q.es:=s1.lenEq zo (xk _);subst a3;rw [hd.r] at ec;refine zG ?_;obtain ⟨b9,o9,e9,aj,r9,t9⟩:=uP (hE.ext E8.e (show n≤f by omega)) ec rfl zd;refine sI e9 r9 ?_;refine sL t9 aj 0 ?_;refine sA ?_;intro aw ao ar;refine zG ?_;refine sS [jx a1 (gP q.es) c1,jx a2 l2 c2,kF ⟨⟨ratT x⟩⟩] ?_;intro H b7 al;have C:Ext f W H:=(zx:Tx f W (f+1) H).2;have ap:=(C (3*(n+1)+2) zo).trans q8;have o:Ex0 n h H:=⟨fun c hc=>(C c zo).trans (E8.e c hc)⟩;have a8:=Z.ext strP.kp C zs;have J:n≤f+1:=zo;have G:=g.ext o.e J;have T:=hx.ext o.e J;clear ar ao al C;refine zG ?_;refine zm [0,1,0,4,15,0,32,0,128,511,1023,2047] rfl ?_;refine zH ?_;have Y:=zqf k G T.m B.d ae (s1.ext o.e J) zd hd.ee zo (fun k i j=>(B.mz k i j).mono zd) (fun P Q e=>(B.fz (fun x hx=>hd.ee x (by rw [e];exact CE _ hx)) zd (by rw [e,nn] at a0;omega)).mono zd);refine dC Y.cx ?_;rintro _ ax b4 rfl y a;refine zH ?_;have a7:=dotX (k+6) (G.x ⟨y,a⟩) ((s2.ext o.e J).ext a y) (T.u.ext a y) (by rw [B.l,hd.fl]) (fun s hs=>(hd.f2 s hs).t12 zd) (fun u hu=>B.uz hu) (fun j hj=>(B.tz hd.f2 zd (by have:=hd.fl;omega)).mono zd) (by have:=hd.fl;omega);refine dC a7.cx ?_;rintro _ ay b5 rfl a6 I;rw [hd.fl];refine dC (addT (k+7) ((G.x ⟨y,a⟩).x ⟨a6,I⟩) ((B.fz hd.ee zd a0).mono zd) ((B.tz hd.f2 zd (j:=p.free) zo).mono zd)).cx ?_;rintro _ az b6 rfl au V;have aa:=((G.x ⟨y,a⟩).x ⟨a6,I⟩).x ⟨au,V⟩;refine zH ?_;refine zG ?_;refine sC (subT (k+7) aa ((B.lz hd zo).mono zd) (hd.sx.sz (P:=29) zd zd zo)).cx ?_;rintro _ ab ak rfl b8 a5;rw [←ah];have D:Ext (f+1) H ab:=fun c hc=>(a5 c zo).trans ((V c zo).trans ((I c zo).trans (a c hc)));have am:=a8.ext (n':=ak) strP.kp D zo;refine sI (j:=i) (len:=gP p.eqs) rfl zo ?_;refine sZn (n0:=n) (j:=i) (q:=ratT (rsQ p M us i)) [kF ⟨⟨ratT (rsQ p M us i)⟩⟩] am strP.kp (by rw [nn,oo,Af,Ah,Aj];omega) (show (0:Nat)+i*1=i*1 by omega) rfl zo ?_;intro ac an a4;have aq:=(a4.1 (3*(n+1)+2) zo).trans ((D _ zo).trans ap);have a9:Ex0 n h ac:=⟨fun c hc=>(a4.1 c zo).trans ((D c zo).trans (o.e c hc))⟩;clear a I V a5 D;refine zG ?_;exact sK (i+1) ⟨rfl,zo,a9,aq,an.as (aI (AC (gP p.eqs)) (fun i=>ratT (rsQ p M us i)) [] (AL zo)),by show i+1≤gP p.eqs;omega⟩
 have ag:i=gP p.eqs:=zo;subst ag;have X8:Ext n h W:=E8.e;have ba:n≤f:=zo;refine Zt ?_;exact ⟨K,rfl,Z.as (by rw [List.take_of_length_le (by rw [Aj];exact AK _),Aj,A7];exact A3 _)⟩
theorem PtB.mok (B:PtB p ds M us)(hBR:BR≤131072)(hok:SdpW F p BR):MOk 4 1 8 ds M where
 hn:=fun k d hd=>by
  have h1:=B.dn hd;obtain ⟨x,hx,hn⟩:=Ay.1 (ns h1);have:=hok.b3 x hx;omega
 hs:=fun k d _ i j _ _=>B.s k i j
 P1:=by decide
 P2:=by decide
 D0:=by decide
 D2:=by decide
 hB:=fun k d _ i j _ _=>B.b k i j
 B1:=by decide
 B2:=by decide
theorem zrs (k:Nat)(g:GG h n)(J:F≤100)(O:SdpR h n (jx aB lB cB) (jx aO lO cO) (jx aF lF cF) (jx aE lE cE) p)(f:BR≤131072)(a:SdpW F p BR)(R:PtR h n (jx aX lX cX) (jx aU lU cU) p ds M us)(B:PtB p ds M us):
  VF (cal (k+18)) 36 [.agg #[jx aB lB cB,jy .i64 (p.free:Int),jx aO lO cO,jx aF lF cF,jx aE lE cE],.agg #[jx aX lX cX,jx aU lU cU]] h n fun v=>∃b,v=.tuple #[kz b,jy .i64 0]∧(b=true↔zq5 p M us):=by
 have Z:=a.eql;have W:=a.bl;have Y:gP ds=gP p.blocks:=by
  have:=congrArg gP B.d;unfold dimN at this;rwa [oo,oo] at this
 refine zI (fn:=Tryz.f36) R4 ?_;refine zG ?_;refine sB [jx aB lB cB,jy .i64 (p.free:Int),jx aO lO cO,jx aF lF cF,jx aE lE cE] ?_;intro h1 p1 x1;refine sB [jx aX lX cX,jx aU lU cU] ?_;intro C p2 x2;refine zG ?_;have o:Ex0 n h C:=⟨(zx:Tx n h (n+1+1) C).2⟩;have l:=R.ext o.e (show n≤n+1+1 by omega);have A:=g.ext o.e (show n≤n+1+1 by omega);have P:=zpb (k+2) A J (O.ext0 o.e zo) f a l B;refine sC P ?_;rintro _ h3 n3 ⟨bR,rfl,T⟩ U H;have j:(∀s∈(AC (gP p.eqs)).map fun i=>ratT (rsQ p M us i),s=[48])↔∀i,i<gP p.eqs→rsQ p M us i=0:=by
  constructor
  ·intro h i q;have:=h _ (Ay.2 ⟨i,Cf.2 q,rfl⟩);exact uU (this.trans wf.symm)
  intro h s u;obtain ⟨i,q,rfl⟩:=Ay.1 u;rw [h i (Cf.1 q)];exact wf
 refine zG ?_;refine sC (za0 (k+13) (OT.sl T (len:=gP p.eqs) (cap:=gP p.eqs) (by rw [oo,Aj]) eT) (by rw [oo,Aj];omega)).cx ?_;rintro _ h4 S ⟨b4,rfl,D⟩ V I;rcases bvs D with ⟨rfl,y⟩|⟨rfl,y⟩
 ·refine Zq ?_;exact ⟨false,rfl,fun h=>(by cases h),fun h=>cA (j.2 h.1) y⟩
 refine zG ?_;have G:=l.ext (fun c hc=>(I c zo).trans (H c hc)) (show n+1+1≤S by omega);have u:=zpa k ((A.x ⟨U,H⟩).x ⟨V,I⟩) G.m (B.mok f a) zo;refine sC u.cx ?_;rintro _ h5 n5 ⟨b,rfl,L⟩ y5 x5;refine Zq ?_;refine ⟨b,rfl,L.trans ⟨fun h=>⟨j.1 y,fun w N K=>?_⟩,fun h w d hd=>?_⟩⟩
 ·obtain ⟨d,hd,rfl⟩:=B.get K;exact h w d hd
 exact h.2 w d.n (B.dn hd)
end
end
theorem pE {α β γ:Type}(f:α→β→γ):∀{l:List α} {m:List β} {x:α} {y:β},l[gP m]?=some x→C4 f (l.take (gP m+1)) (m++[y])=C4 f (l.take (gP m)) m++[f x y]:=by
 intro l m x y a;rw [yZ a,List.zipWith_append (by rw [Af];have:=(oc.1 a).1;omega)];rfl
theorem zoi (k:Nat){P:Option Addr}{S:Nat}{fr:Int}{vO vF vE:Value}{Ns:List Nat}{B:List Int}(hB:Sl h n 1 (jx P (gP Ns) S) (i64s B))(a3:∀{j N:Nat},Ns[j]?=some N→B[j]?=some (N:Int))(hN:∀N∈Ns,1≤N∧N≤3)(hl:1≤gP Ns∧gP Ns≤1000)(ab:nu vO=true∧nu vF=true∧nu vE=true)(a9:ones [jx P (gP Ns) S,jy .i64 fr,vO,vF,vE]=true):
  CX (cal (k+2)) 64 [.agg #[jx P (gP Ns) S,jy .i64 fr,vO,vF,vE]] h n fun v T M=>∃R d i,v=jx (some ⟨R,0,none⟩) (gP Ns) (gP Ns)∧RMs T M R Ns d i (fun _ _ _=>0)∧(∀b,b=R∨b∈d∨yR i b→3*n≤b):=by
 refine zu (fn:=Tryz.f64) R4 ?_;refine zG ?_;refine sB [jx P (gP Ns) S,jy .i64 fr,vO,vF,vE] ?_;intro p p1 x1;refine zG ?_;refine sF (α:=Nat×List Nat×List (List Nat)×Value) (fun z=>[(3,z.2.2.2),(7,jx P (gP Ns) S),(8,jy .i64 (gP Ns:Int)),(9,jy .i64 (z.1:Int))])
  (fun z T M w'=>w'=[]∧n+1≤M∧Ex0 n h T∧GR 1 vlP (n+1) T M 67 z.2.2.2 (C4 slN (Ns.take (gP z.2.1)) z.2.1)∧gP z.2.2.1=gP z.2.1∧(∀(k N m:Nat) (l:List Nat),Ns[k]?=some N→z.2.1[k]?=some m→z.2.2.1[k]?=some l→RM T M m N l (fun _ _=>0))∧(∀(k g:Nat) (l q:List Nat),k≠g→z.2.2.1[k]?=some l→z.2.2.1[g]?=some q→∀b∈l,b∉q)∧(∀b,yR z.2.2.1 b→b∉z.2.1)∧(∀b,b∈z.2.1∨yR z.2.2.1 b→3*(n+1)≤b∧b<3*M∧¬BkOf z.2.2.2 b)∧gP z.2.1=z.1∧z.1≤gP Ns) (fun z=>gP Ns-z.1)
  (0,[],[],jx none 0 0) ⟨rfl,eT,⟨x1⟩,GR.nil,rfl,fun k N m l _ h=>(by have h:([]:List Nat)[k]?=some m:=h;simp at h),fun k g l q _ h=>(by have h:([]:List (List Nat))[k]?=some l:=h;simp at h),fun b ⟨k,l,h,_⟩=>(by have h:([]:List (List Nat))[k]?=some l:=h;simp at h),fun b f=>(by
   rcases f with f|⟨k,l,h,_⟩
   ·exact cA f nN
   ·have h:([]:List (List Nat))[k]?=some l:=h;simp at h),rfl,eU⟩ ?_
 rintro ⟨j,d,i,v⟩ t h2 u _ ⟨rfl,y2,E2,y,l2,m2,d2,o2,w,V,hj⟩;have V:gP d=j:=V;subst V;have y2:n+1≤u:=y2;have y:GR 1 vlP (n+1) h2 u 67 v (C4 slN (Ns.take (gP d)) d):=y;have l2:gP i=gP d:=l2;have m2:∀(k N m:Nat) (l:List Nat),Ns[k]?=some N→d[k]?=some m→i[k]?=some l→RM h2 u m N l (fun _ _=>0):=m2;have d2:∀(k g:Nat) (l q:List Nat),k≠g→i[k]?=some l→i[g]?=some q→∀b∈l,b∉q:=d2;have o2:∀b,yR i b→b∉d:=o2;have w:∀b,b∈d∨yR i b→3*(n+1)≤b∧b<3*u∧¬BkOf v b:=w;have hj:gP d≤gP Ns:=hj;have W:(C4 slN (Ns.take (gP d)) d).length=gP d:=by rw [Fi,Af];omega
 obtain ⟨av,rfl⟩:=y.shape (L:=gP d) W;refine zG ?_;by_cases qj:(gP d:Int)<(gP Ns:Int)
 ·obtain ⟨N,H⟩:∃N,Ns[gP d]?=some N:=⟨_,k4 zo⟩;have aa:=hN N (ns H);refine zG ?_;obtain ⟨b5,o5,e5,m5,r5,t5⟩:=rf (hB.ext E2.e (show n≤u by omega)) (a3 H);refine sI e5 r5 ?_;refine sL t5 m5 0 ?_;refine zG ?_;refine sC (zq2 _ _ _ (N:=N) zo) ?_;rintro _ h3 F ⟨m,l,rfl,m3,f3⟩ y3 x3;refine sMs [slN N m] ?_;intro h6 p6 x6;have K:Ext u h2 h6:=fun c hc=>(x6 c zo).trans (x3 c hc);have Z:=m3.ext x6 zs;have g6:GR 1 vlP (n+1) h6 (F+1) 67 (jx av (gP d) (gP d)) (C4 slN (Ns.take (gP d)) d):=y.go vlP.kp ⟨zo,fun c hc=>.inl (K c hc)⟩ (fun b f=>K b (y.bk b f).2.1);refine sGA (n0:=n) [slN N m] [slN N m] g6 vlP.kp (.cons (c:=[slN N m]) rfl ⟨rfl,rfl,rfl⟩ .nil) ⟨rfl,rfl⟩ (yH p6 R2) eT (by rw [W];show (gP d)+1<_;omega) zo ?_;intro v7 U g7 T7 X7 K7 F7;have g7:GR 1 vlP (n+1) U (F+1+1) 67 v7 (C4 slN (Ns.take (gP d+1)) (d++[m])):=g7.as (pE slN H).symm;obtain ⟨a7,rfl⟩:=g7.shape (L:=gP d+1) (by rw [Fi,Af,nn];show min _ (gP d+1)=_;omega);have a1:∀c,3*u≤c→¬BkOf (jx av (gP d) (gP d)) c:=fun c hc h=>by have:=(y.bk _ h).2.1;omega
  have a4:∀c,c<3*u→¬BkOf (jx av (gP d) (gP d)) c→U c=h2 c:=fun c hc hn=>(K7 c zo hn).trans (K c hc);have a2:Tr u h2 (F+1+1) U:=Tr.trans ⟨zo,fun c hc=>.inl (K c hc)⟩ T7;have m7:RM U (F+1+1) m N l (fun _ _=>0):=Z.go T7 (fun c hc=>K7 c (by
   rcases hc with rfl|hc
   ·exact Z.t.1
   ·exact Z.blt hc) (a1 c (f3 c hc)))
  have E7:Ex0 n h U:=⟨fun c hc=>(X7 c zo).trans ((K c zo).trans (E2.e c hc))⟩;have a0:∀{g:Nat} {D:Nat} {q:List Nat} {O:Nat},Ns[g]?=some O→(d++[m])[g]?=some D→(i++[l])[g]?=some q→(g<gP d∧d[g]?=some D∧i[g]?=some q)∨(g=gP d∧D=m∧q=l∧O=N):=fun {g D q O} h0 p h2=>by
   have hl:=(oc.1 p).1;rw [nn] at hl;have hl:g<gP d+1:=hl;by_cases s:g<gP d
   ·rw [AZ s] at p;rw [AZ zo] at h2;exact .inl ⟨s,p,h2⟩
   have s:g=gP d:=zo;subst s;rw [AE eT,A7] at p;rw [AE zo,l2,A7] at h2;rw [H] at h0;cases h0;cases p;cases h2;exact .inr ⟨rfl,rfl,rfl,rfl⟩
  have Y:∀b,yR (i++[l]) b→yR i b∨b∈l:=fun b ⟨g,r',p,h2⟩=>by
   have hl:=(oc.1 p).1;rw [nn] at hl;have hl:g<gP i+1:=hl;by_cases s:g<gP i
   ·rw [AZ s] at p;exact .inl ⟨g,r',p,h2⟩
   have s:g=gP i:=zo;subst s;rw [AE eT,A7] at p;cases p;exact .inr h2
  have I:∀b∈l,3*u≤b∧b<3*(F+1+1):=fun b f=>⟨f3 b (.inr f),by have:=m7.blt f;omega⟩;have ac:3*u≤m∧m<3*(F+1+1):=⟨f3 m (.inl rfl),m7.t.1⟩;have a6:=m7.o;clear x3 x6 K X7 T7 p6;refine zG ?_;refine sK (gP d+1,d++[m],i++[l],jx a7 (gP d+1) (gP d+1)) ⟨rfl,zo,E7,g7.as (by rw [nn];rfl),by rw [nn,nn,l2];rfl,fun g O D q h0 p h2=>?_,fun g k2 r1 r2 a5 p h2 b f C=>?_,fun b f A=>?_,fun b f=>?_,by rw [nn];rfl,by show gP d+1≤_;omega⟩
  ·rcases a0 h0 p h2 with ⟨_,h4,h5⟩|⟨rfl,rfl,rfl,rfl⟩
   ·have mm:=m2 g O D q h0 h4 h5;refine mm.go a2 (fun c hc=>?_);have hf:=w c (by
     rcases hc with rfl|hc
     ·exact .inl (ns h4)
     ·exact .inr ⟨g,q,h5,hc⟩)
    exact a4 c hf.2.1 hf.2.2
   exact m7
  ·have G:∀(g:Nat) (r:List Nat),(i++[l])[g]?=some r→(g<gP i∧i[g]?=some r)∨(g=gP i∧r=l):=fun g r p=>by
    have hl:=(oc.1 p).1;rw [nn] at hl;have hl:g<gP i+1:=hl;by_cases s:g<gP i
    ·rw [AZ s] at p;exact .inl ⟨s,p⟩
    have s:g=gP i:=zo;subst s;rw [AE eT,A7] at p;cases p;exact .inr ⟨rfl,rfl⟩
   rcases G _ _ p with ⟨_,g1⟩|⟨e1,rfl⟩
   ·rcases G _ _ h2 with ⟨_,y⟩|⟨e2,rfl⟩
    ·exact d2 _ _ _ _ a5 g1 y b f C
    have:=(w b (.inr ⟨_,_,g1,f⟩)).2.1;have:=(I b C).1;omega
   rcases G _ _ h2 with ⟨_,y⟩|⟨e2,rfl⟩
   ·have:=(w b (.inr ⟨_,_,y,C⟩)).2.1;have:=(I b f).1;omega
   omega
  ·rcases Y b f with f|f
   ·rcases Al.1 A with A|A
    ·exact o2 b f A
    rw [nP.1 A] at f;have:=(w m (.inr f)).2.1;omega
   rcases Al.1 A with A|A
   ·have:=(w b (.inl A)).2.1;have:=(I b f).1;omega
   rw [nP.1 A] at f;exact a6 f
  have C:3*(n+1)≤b∧b<3*(F+1)∧b<3*(F+1+1):=by
   have h9:=Z.t.1;rcases f with f|f
   ·rcases Al.1 f with f|f
    ·have:=w b (.inl f);omega
    rw [nP.1 f];omega
   rcases Y b f with f|f
   ·have:=w b (.inr f);omega
   have:=I b f;have:=Z.blt f;omega
  exact ⟨C.1,C.2.2,fun h=>by have:=F7 b h;omega⟩
 have J:gP d=gP Ns:=zo;obtain ⟨R,eb,hg,a8,o6,_⟩:=y.or W zo;injection eb with eb
 subst eb;rw [J,Ax] at o6;have X2:=E2.e;have ad:n≤u:=zo;refine Zt ?_;exact ⟨R,d,i,(by rw [J];rfl),⟨o6,fun g N m l a b c=>m2 g N m l a b c,⟨J,l2.trans J⟩,d2,fun b f=>⟨o2 b f,fun e=>(w b (.inr f)).2.2 (e▸⟨_,_,_,rfl⟩)⟩⟩,fun b f=>(by
  rcases f with rfl|f
  ·omega
  ·have:=(w b f).1;omega)⟩
def Box4 (h:HF)(n b:Nat)(q:Rat):Prop:=b<3*n∧∃s a l c s2 a2 l2 c2 e,h b=some (.row [kz s,jx a l c,kz s2,jx a2 l2 c2] e)∧UI h n s a l c q.num∧UI h n s2 a2 l2 c2 (denZ q)
theorem Box4.go {h h':HF}{n n' b:Nat}{q:Rat}(x:Box4 h n b q)(t:Tr n h n' h')(e:h' b=h b):Box4 h' n' b q:=by
 obtain ⟨u,s,a,l,c,o,d,m,f,p,g,i,j⟩:=x;exact ⟨by have:=t.1;omega,s,a,l,c,o,d,m,f,p,e.trans g,i.t t,j.t t⟩
theorem Box4.ext {h h':HF}{n n' b:Nat}{q:Rat}(x:Box4 h n b q)(e:Ext n h h')(d:n≤n'):Box4 h' n' b q:=x.go ⟨d,fun c a=>.inl (e c a)⟩ (e b x.1)
theorem zqe {f:Nat}{g:Nat→Rat}{a:List Rat}(hl:gP a=f)(h:∀t,t<f→a[t]?=some (g t)):a=(AC f).map g:=by
 refine Bn fun t=>?_;by_cases ht:t<f
 ·rw [h t ht,sr,AL ht];rfl
 rw [Ad zo,Ad (by rw [oo,Aj];omega)]
theorem NS.of {h:HF}{n b L c:Nat}{a:List Rat}(o:OR 4 numP h n b a)(hl:L=gP a)(d:L≤c):NS h n (jx (some ⟨b,0,none⟩) L c) a:=OR.sl o hl d
noncomputable def dR (qs us:List Rat):Nat→Rat
 |0=>0
 |j+1=>dR qs us j+(qs[j]?).getD 0*(us[j]?).getD 0
theorem zgl {c us:List Rat}{j:Nat}{a b:Rat}(d:c[j]?=some a)(e:us[j]?=some b):dR c us (j+1)=dR c us j+a*b:=by
 show dR c us j+(c[j]?).getD 0*(us[j]?).getD 0=_;rw [d,e];rfl
theorem zqp (S:List (List UInt8))(us:List Rat)(j:Nat):dR (S.map numOf) us j=dt S us j:=by
 induction j with
 |zero=>rfl
 |succ j ih=>
  show dR _ us j+((S.map numOf)[j]?).getD 0*_=dt S us j+numOf ((S[j]?).getD [48])*_;rw [ih,sr];congr 2;cases S[j]? with
  |none=>show (0:Rat)=numOf [48];rw [←wf,zn]
  |some s=>rfl
theorem zqk (k:Nat){p v:Option Addr}{S w B y:Nat}{a us:List Rat}(M:NS h n (jx p S w) a)(N:NS h n (jx v B y) us)(hl:gP us=gP a)(hq:∀q∈a,Sz 5 q)(hu:∀u∈us,Sz 5 u)(hz:∀j,j≤gP a→Sz 16 (dR a us j))(hb:gP a<1000):
  CX (cal (k+7)) 33 [jx p S w,jx v B y] h n (NQ (dR a us (gP a))):=by
 have l1:=M.len;have l2:=N.len;subst l1;refine zu (fn:=Tryz.f33) R4 ?_;refine Zh ?_;intro h1 p1 x1;refine zG ?_;refine sT #[kz false,jx none 0 0,kz false,jx none 0 0] ?_;refine sA ?_;intro h2 p2 x2;refine sS [kz false,jx none 0 0,kz false,jx none 0 0] ?_;intro l U o3;have C:Ex0 n h l:=⟨(zx:Tx n h (n+1+1) l).2⟩;obtain ⟨e1,V⟩:∃e,l (3*n+2)=some (.row [kz false,jx none 0 0,kz false,jx none 0 0] e):=⟨_,zp⟩;have D:Box4 l (n+1+1) (3*(n+1)+2) (dR a us 0):=⟨zo,_,_,_,_,_,_,_,_,_,U,UI.zero _ _,UI.zero _ _⟩;clear p1 x1 p2 x2 U o3;refine zG ?_;refine sF (α:=Nat) (fun z=>[(0,jx p (gP a) w),(1,jx v B y),(4,kS (some ⟨3*n+2,0,none⟩)),(5,kS (some ⟨3*(n+1)+2,0,none⟩)),(6,jy .i64 (z:Int))])
  (fun z A T w'=>w'=[]∧n+1+1≤T∧Ex0 n h A∧A (3*n+2)=some (.row [kz false,jx none 0 0,kz false,jx none 0 0] e1)∧Box4 A T (3*(n+1)+2) (dR a us z)∧z≤gP a) (fun z=>gP a-z) 0 ⟨rfl,eT,C,V,D,eU⟩ ?_
 rintro j t H f _ ⟨rfl,y4,g,q4,⟨I,s1,a1,l1,c1,s2,a2,R,c2,e2,p4,K,O⟩,hj⟩;have y4:n+1+1≤f:=y4;have hj:j≤gP a:=hj;clear C V D;refine zG ?_;by_cases qj:(j:Int)<(gP a:Int)
 ·obtain ⟨q,b⟩:∃q,a[j]?=some q:=⟨_,k4 zo⟩;obtain ⟨u,d⟩:∃u,us[j]?=some u:=⟨_,k4 zo⟩;have Y:=hq q (ns b);have Z:=hu u (ns d);obtain ⟨k5,u5,b5,a5,l5,c5,d5,e5,f5,w5,F,m5,r5,t5,i5,j5⟩:=NS.at (M.ext g.e (show n≤f by omega)) b;obtain ⟨k6,u6,b6,a6,l6,c6,d6,e6,f6,w6,G,m6,r6,t6,i6,j6⟩:=NS.at (N.ext g.e (show n≤f by omega)) d;refine zG ?_;refine zm [0,0,0,6,14,0,0,96,224,510,1023,2047] rfl ?_;refine zH ?_;refine dI (j:=j) F r5 ?_;refine dL t5 m5 0 ?_;refine zH ?_;refine dI (j:=j) G r6 ?_;refine dL t6 m6 0 ?_;refine zH ?_;refine dC (iL k i5 j5 i6 j6 Y Z zo) ?_;rintro _ h7 n7 ⟨b7,a7,l7,c7,d7,e7,f7,g7,rfl,i7,j7⟩ y7 o;refine dC (mb k (K.x ⟨y7,o⟩) (O.x ⟨y7,o⟩) i7 j7 (hz j hj) (Y.mul Z) zo) ?_;rintro _ h8 n8 ⟨b8,a8,l8,c8,d8,e8,f8,g8,rfl,L,P⟩ y8 x8;rw [←zgl b d] at L P;have i:Ext f H h8:=fun c hc=>(x8 c zo).trans (o c hc);refine dSx (n0:=n) [kz b8,jx a8 l8 c8,kz d8,jx e8 f8 g8] ((i _ I).trans p4) ?_;intro h9 p9 m;rw [yo (show 3*n≤3*(n+1)+2 by omega)];have E9:Ex0 n h h9:=⟨fun c hc=>(m.1 c zo).trans ((i c zo).trans (g.e c hc))⟩;have q9:=(m.1 (3*n+2) zo).trans ((i _ zo).trans q4);clear o x8 i;refine zG ?_;exact sK (j+1) ⟨rfl,zo,E9,q9,⟨zo,_,_,_,_,_,_,_,_,_,p9,L.t (Tr.s m (Tr.refl _ _)),P.t (Tr.s m (Tr.refl _ _))⟩,by show j+1≤gP a;omega⟩
 have J:j=gP a:=zo;subst J;have X4:Ext n h H:=g.e;have a0:n≤f:=zo;refine zG ?_;refine sS [kz s1,jx a1 l1 c1,kz s2,jx a2 R c2] ?_;intro h5 p5 W;refine zq ?_;exact ⟨_,_,_,_,_,_,_,_,rfl,K.t (Tr.s W (Tr.refl _ _)),O.t (Tr.s W (Tr.refl _ _))⟩
theorem zp3 (k:Nat){m o:Option Addr}{F p G v:Nat}{S:List (List UInt8)}{us:List Rat}(W:Sl h n 1 (jx m F p) (strs S))(Y:Sl h n 1 (jx o G v) (strs (us.map ratT)))(hl:gP us=gP S)(w:∀s∈S,wn 2 s)(hu:∀u∈us,Sz 5 u)(hz:∀j,j≤gP S→Sz 16 (dt S us j))(hb:gP S<1000):
  CX (cal (k+8)) 77 [jx m F p,jx o G v] h n (NQ (dt S us (gP S))):=by
 have b:∀s∈S,gP s<11∧xy s∧Sz 5 (numOf s):=fun s hs=>by
  obtain ⟨x,h1,f,rfl⟩:=w s hs;have g:=(tF ⟨h1,f⟩).mono (show 2≤5 by decide);exact ⟨tv (wg (g.mono zd)) zd,⟨_,rfl⟩,by rw [zn];exact g⟩
 refine zu (fn:=Tryz.f77) R4 ?_;refine Zh ?_;intro h1 p1 K;refine zG ?_;refine sC (zpu k (W.ext K zs) (fun s hs=>(b s hs).1) zo) ?_;rintro _ f n2 ⟨a2,l2,c2,H,rfl,A,i⟩ y2 L;have C:H=true:=A.2 (fun s hs=>(b s hs).2.1);subst C;have i:=i rfl;have l:Ext n h f:=fun c hc=>(L c zo).trans (K c hc);refine zG ?_;refine sC (zpu k (Y.ext l (show n≤n2 by omega)) (fun s hs=>by
  obtain ⟨u,e,rfl⟩:=Ay.1 hs;exact tv (wg ((hu u e).mono zd)) zd) (by rw [oo];omega)) ?_
 rintro _ g n3 ⟨a3,l3,c3,I,rfl,B,d⟩ y3 M;have D:I=true:=B.2 (fun s hs=>by
  obtain ⟨u,e,rfl⟩:=Ay.1 hs;exact ⟨u,rfl⟩)
 subst D;have d:=d rfl;rw [DA,show (numOf ∘ ratT)=id from funext fun q=>zn q,Da] at d;have q3:=(M _ zo).trans ((L _ zo).trans p1);have a:=zqk k (i.ext M y3) d (by rw [oo];exact hl) (fun q Z=>by
  obtain ⟨s,hs,rfl⟩:=Ay.1 Z;exact (b s hs).2.2) hu (fun j y=>by rw [zqp];rw [oo] at y;exact hz j y) (by rw [oo];exact hb)
 rw [zqp,oo] at a;clear l;refine zG ?_;refine sC a ?_;rintro _ h4 n4 ⟨O,N,l4,P,R,T,U,V,rfl,i4,j4⟩ y4 x4;refine sS [kz O,jx N l4 P,kz R,jx T U V] ?_;intro h5 p5 J;refine zq ?_;exact ⟨_,_,_,_,_,_,_,_,rfl,i4.t (Tr.s J (Tr.refl _ _)),j4.t (Tr.s J (Tr.refl _ _))⟩
theorem zqg (k:Nat){Ns:List Nat}{ds:List MD}{M:Nat→Nat→Nat→Rat}{E:List Ent}{Z aM:Option Addr}{lE cE lM cM:Nat}(ms:MS h n (jx aM lM cM) ds M)(hd:ds.map (·.n)=Ns)(hN:∀N∈Ns,N≤8)(hs:Sl h n 4 (jx Z lE cE) (ents E))(hE:∀e∈E,EntD 1 2 Ns e)(hl:gP E<1000000)(hm:∀k i j,Sz 4 (M k i j))(hz:∀P Q,E=P++Q→Sz 13 (fm M P)):
  CX (cal (k+8)) 76 [jx Z lE cE,jx aM lM cM] h n (NQ (fm M E)):=by
 have l1:lE=gP E:=hs.lenEq zo (xk _);subst l1;refine zu (fn:=Tryz.f76) R4 ?_;refine Zh ?_;intro h1 p1 x1;refine Zh ?_;intro h2 p2 x2;have X2:Ex0 n h h2:=⟨(zx:Tx n h (n+1+1) h2).2⟩;obtain ⟨e1,q1⟩:∃e,h2 (3*n+2)=some (.row [kz false,jx none 0 0,kz false,jx none 0 0] e):=⟨_,zp⟩;have b2:Box4 h2 (n+1+1) (3*(n+1)+2) (fm M (E.take 0)):=⟨zo,_,_,_,_,_,_,_,_,_,p2,UI.zero _ _,UI.zero _ _⟩;clear p1 x1 p2 x2;refine zG ?_;refine sF (α:=Nat) (fun z=>[(1,jx aM lM cM),(4,kS (some ⟨3*n+2,0,none⟩)),(5,kS (some ⟨3*(n+1)+2,0,none⟩)),(9,jx Z (gP E) cE),(10,jy .i64 (gP E:Int)),(11,jy .i64 (z:Int))])
  (fun z h' n' w'=>w'=[]∧n+1+1≤n'∧Ex0 n h h'∧h' (3*n+2)=some (.row [kz false,jx none 0 0,kz false,jx none 0 0] e1)∧Box4 h' n' (3*(n+1)+2) (fm M (E.take z))∧z≤gP E) (fun z=>gP E-z) 0 ⟨rfl,eT,X2,q1,b2,eU⟩ ?_
 rintro z t w b _ ⟨rfl,y4,B,q4,⟨ag,s1,a1,l1,c1,s2,a2,am,c2,e2,p4,i4,j4⟩,I⟩;have y4:n+1+1≤b:=y4;have I:z≤gP E:=I;clear X2 q1 b2;refine zG ?_;by_cases qz:(z:Int)<(gP E:Int)
 ·obtain ⟨e0,y⟩:∃e,E[z]?=some e:=⟨_,k4 zo⟩;obtain ⟨k0,N,i0,f,v,rfl,g,bo,H,sv⟩:=hE e0 (ns y);obtain ⟨d,F,ah⟩:∃d,ds[k0]?=some d∧d.n=N:=by
   rw [←hd,sr] at g;cases h:ds[k0]? with
   |none=>rw [h] at g;cases g
   |some d=>rw [h] at g;exact ⟨d,rfl,A0 g⟩
  subst ah;have D:=hN d.n (ns g);have bn:d.n*d.n≤8*8:=AD D D;have G:i0<d.n:=zo;have be:=rH G H;have A:Sz 2 v:=FN.sz sv zd zd zd;have C:fm M (E.take z)+v*M k0 i0 f=fm M (E.take (z+1)):=by rw [yZ y,zfo]
  obtain ⟨bq,oq,aa,mq,rq,tq⟩:=rn (hs.ext B.e (show n≤b by omega)) y;refine zG ?_;refine sI aa rq ?_;refine sL tq mq 0 ?_;refine sA ?_;intro h5 p5 x5;refine sS [jy .i64 (k0:Int),jy .i64 (i0:Int),jy .i64 (f:Int),kF ⟨⟨ratT v⟩⟩] ?_;intro h6 p6 o6;have X6:Ext b w h6:=(zx:Tx b w (b+1) h6).2;have T:=ms.ext (fun c hc=>(X6 c zo).trans (B.e c hc)) (show n≤b+1 by omega);obtain ⟨b7,o7,c7,e7,m7,r7,t7,_,f7⟩:=RS.at' zd T.r F;have f7:c7=[jy .i64 (d.n:Int),jy .i64 (d.n:Int),jx d.a (d.n*d.n) d.c]:=f7;subst f7;refine zG ?_;refine sI (j:=k0) e7 r7 ?_;refine sL t7 m7 0 ?_;refine sA ?_;intro h8 p8 x8;refine sS [jy .i64 (d.n:Int),jy .i64 (d.n:Int),jx d.a (d.n*d.n) d.c] ?_;intro u p9 o9;obtain ⟨e6,q6⟩:∃e,u (3*b+2)=some (.row [jy .i64 (k0:Int),jy .i64 (i0:Int),jy .i64 (f:Int),kF ⟨⟨ratT v⟩⟩] e):=⟨_,zp⟩;have q:Ext b w u:=(zx:Tx b w (b+1+1) u).2;have E9:Ex0 n h u:=⟨fun c hc=>(q c zo).trans (B.e c hc)⟩;have an:=ms.ext E9.e (show n≤b+1+1 by omega);have i9:=i4.x ⟨show b≤b+1+1 by omega,q⟩;have j9:=j4.x ⟨show b≤b+1+1 by omega,q⟩;have ap:=(q _ ag).trans p4;have ar:=(q (3*n+2) zo).trans q4;clear p5 x5 p6 o6 x8 o9 X6 q T t7;obtain ⟨az,bx,a8,a0,au,av⟩:=yD (an.t _ _ F) (show ((tabL d.n (M k0)).map ratT)[i0*d.n+f]?=some (ratT (M k0 i0 f)) by rw [sr,vH G H];rfl);refine zG ?_;refine zm [0,0,2,6,0,16,0,64,0,256,960,0,2048,8128,16368,32752,65534,131070,262143,524287] rfl ?_;refine zH ?_;refine dC (numU k _ _ (ratT v) (tv (wg (A.mono zd)) zd)) ?_;rintro _ bl bt ⟨b0,aw,bp,b4,b8,bb,bf,bi,rfl,J,O⟩ bz U;rw [zn] at J O;refine zH ?_;refine dMu i0 d.n zo ?_;refine zH ?_;refine dI (j:=i0*d.n+f) a8 au ?_;refine dL av a0 0 ?_;refine dC (numU k _ _ (ratT (M k0 i0 f)) (tv (wg ((hm k0 i0 f).mono zd)) zd)) ?_;rintro _ bm bu ⟨b1,ax,br,b5,b9,bc,bg,bj,rfl,K,R⟩ Y p;rw [zn] at K R;refine dC (iL (k+1) (J.x ⟨Y,p⟩) (O.x ⟨Y,p⟩) K R A (hm k0 i0 f) zo) ?_;rintro _ ad bv ⟨b3,ay,bs,b6,ba,bd,bh,bk,rfl,aj,ak⟩ c0 V;have l:Ext (b+1+1) u ad:=fun c hc=>(V c zo).trans ((p c zo).trans (U c hc));refine dC (mb (k+1) (i9.x ⟨zo,l⟩) (j9.x ⟨zo,l⟩) aj ak (hz _ _ (Bf z E).symm) (A.mul (hm k0 i0 f)) zo) ?_;rintro _ ae bw ⟨a5,a4,al,a6,a7,a9,ab,ac,rfl,L,S⟩ c3 W;rw [C] at L S;have m:Ext (b+1+1) u ae:=fun c hc=>(W c zo).trans (l c hc);refine dSx (n0:=n) [kz a5,jx a4 al a6,kz a7,jx a9 ab ac] ((m _ zo).trans ap) ?_;intro af ao o;rw [yo (show 3*n≤3*(n+1)+2 by omega)];have a3:Ex0 n h af:=⟨fun c hc=>(o.1 c zo).trans ((m c zo).trans (E9.e c hc))⟩;have aq:=(o.1 (3*n+2) zo).trans ((m _ zo).trans ar);clear U p V W l m;refine zG ?_;exact sK (z+1) ⟨rfl,zo,a3,aq,⟨zo,_,_,_,_,_,_,_,_,_,ao,L.t (Tr.s o (Tr.refl _ _)),S.t (Tr.s o (Tr.refl _ _))⟩,by show z+1≤gP E;omega⟩
 have ai:z=gP E:=zo;subst ai;rw [Ax] at i4 j4;have X4:Ext n h w:=B.e;have c4:n≤b:=zo;refine zG ?_;refine sS [kz s1,jx a1 l1 c1,kz s2,jx a2 am c2] ?_;intro h5 p5 s5;refine zq ?_;exact ⟨_,_,_,_,_,_,_,_,rfl,i4.t (Tr.s s5 (Tr.refl _ _)),j4.t (Tr.s s5 (Tr.refl _ _))⟩
section
variable {p:Sdp}{M:Nat→Nat→Nat→Rat}
theorem PtB.fz13 (B:PtB p ds M us){E:List Ent}(a:∀e∈E,EntD 1 2 (dimN p) e)(hl:gP E≤256):Sz 13 (fm M E):=FN.sz (zb3 B.b a) zd zd zo
theorem PtB.tz16 (B:PtB p ds M us){S:List (List UInt8)}(a:∀s∈S,TxF 1 2 s){j:Nat}(c:j≤100):Sz 16 (dt S us j):=FN.sz (zb5 a (fun u b=>B.uf b) j) zd zd zo
theorem PtB.u5 (B:PtB p ds M us){u:Rat}(hu:u∈us):Sz 5 u:=(B.r u hu).ok.1.mono zd
theorem PtB.lz17 (B:PtB p ds M us){i c:Nat}{q:Eqn}{x:Rat}(a:EqD p i q c x)(g:p.free≤100):Sz 17 (fm M q.es+dt q.fr us p.free):=by
 have d:=(zb3 B.b a.ee).up 12;have e:=zb5 a.f2 (fun u f=>B.uf f) p.free;refine FN.sz (D:=12) (d.add e) zd zd ?_;have:=a.el;omega
theorem zmh (k:Nat)(hF:F≤100)(hp:SdpR h n (jx aB lB cB) (jx aO lO cO) (jx aF lF cF) (jx aE lE cE) p)(H:SdpW F p 48)(hx:PtR h n (jx aX lX cX) (jx aU lU cU) p ds M us)(B:PtB p ds M us):
  CX (cal (k+9)) 34 [.agg #[jx aB lB cB,jy .i64 (p.free:Int),jx aO lO cO,jx aF lF cF,jx aE lE cE],.agg #[jx aX lX cX,jx aU lU cU]] h n fun v h' n'=>∃a,v=jx a (gP p.eqs) (gP p.eqs)∧NS h' n' v ((AC (gP p.eqs)).map (rsQ p M us))∧yj n v:=by
 have cx:=H.free;have cw:=H.eql;have ay:∀N∈dimN p,N≤8:=fun N hN=>by
  obtain ⟨d,hd,rfl⟩:=Ay.1 hN;have:=H.b3 d hd;omega
 have bf:lE=gP p.eqs:=by
  obtain ⟨ce,hE,a0⟩:=hp.eqs;exact hE.lenEq zo a0.len
 subst bf;refine zu (fn:=Tryz.f34) R4 ?_;refine zG ?_;refine sB [jx aB lB cB,jy .i64 (p.free:Int),jx aO lO cO,jx aF lF cF,jx aE (gP p.eqs) cE] ?_;intro h1 p1 x1;refine sB [jx aX lX cX,jx aU lU cU] ?_;intro h2 p2 x2;refine zG ?_;have X2:Ex0 n h h2:=⟨(zx:Tx n h (n+1+1) h2).2⟩;obtain ⟨e2,q2⟩:∃e,h2 (3*(n+1)+2)=some (.row [jx aX lX cX,jx aU lU cU] e):=⟨_,zp⟩;clear x1 x2 p1 p2;refine sF (α:=Nat×Value) (fun z=>[(3,kS (some ⟨3*(n+1)+2,0,none⟩)),(5,z.2),(9,jx aE (gP p.eqs) cE),(10,jy .i64 (gP p.eqs:Int)),(11,jy .i64 (z.1:Int))])
  (fun z h' n' w'=>w'=[]∧n+1+1≤n'∧Ex0 n h h'∧h' (3*(n+1)+2)=some (.row [jx aX lX cX,jx aU lU cU] e2)∧GR 4 numP (n+1+1) h' n' 51 z.2 ((AC z.1).map (rsQ p M us))∧z.1≤gP p.eqs) (fun z=>gP p.eqs-z.1) (0,jx none 0 0) ⟨rfl,eT,X2,q2,GR.nil,eU⟩ ?_
 rintro ⟨i,v⟩ t h8 f _ ⟨rfl,y8,E8,q8,J,hi⟩;have hi:i≤gP p.eqs:=hi;have y8:n+1+1≤f:=y8;have J:GR 4 numP (n+1+1) h8 f 51 v ((AC i).map (rsQ p M us)):=J;have af:gP ((AC i).map (rsQ p M us))=i:=by rw [oo,Aj]
 obtain ⟨av,rfl⟩:=J.shape af;clear q2 X2;refine zG ?_;by_cases qi:(i:Int)<(gP p.eqs:Int)
 ·obtain ⟨q,hq⟩:∃q,p.eqs[i]?=some q:=⟨_,k4 zo⟩;obtain ⟨x,hd⟩:=H.eqd hq;have b0:rsQ p M us i=fm M q.es+dt q.fr us p.free-x:=by
   unfold rsQ;rw [hd.es,hd.fs,hd.rh]
  obtain ⟨ce,hE,a0⟩:=hp.eqs;obtain ⟨ve,vf,ec,s1,s2⟩:=a0.get hq;obtain ⟨a1,l1,c1,rfl,ah⟩:=s1.len;obtain ⟨a2,l2,c2,rfl,d2⟩:=s2.len;have ae:=hd.el;have ag:Sz 6 x:=hd.sx.sz zd zd zd;have ah:l1=gP q.es:=s1.lenEq zo (xk _);subst ah;rw [hd.r] at ec;refine zG ?_;obtain ⟨b9,o9,e9,bg,r9,t9⟩:=uP (hE.ext E8.e (show n≤f by omega)) ec rfl zd;refine sI e9 r9 ?_;refine sL t9 bg 0 ?_;refine sA ?_;intro cr bj br;refine zG ?_;refine sS [jx a1 (gP q.es) c1,jx a2 l2 c2,kF ⟨⟨ratT x⟩⟩] ?_;intro w bl bi;have o:Ext f h8 w:=(zx:Tx f h8 (f+1) w).2;have ai:=(o (3*(n+1)+2) zo).trans q8;have D:Ex0 n h w:=⟨fun c hc=>(o c zo).trans (E8.e c hc)⟩;have W:=J.go numP.kp ⟨ux f,fun c hc=>.inl (o c hc)⟩ (fun b hb=>o b (J.bk b hb).2.1);have aa:n≤f+1:=zo;have a6:=hx.ext D.e aa;obtain ⟨cd,q7⟩:∃e,w (3*f+2)=some (.row [jx a1 (gP q.es) c1,jx a2 l2 c2,kF ⟨⟨ratT x⟩⟩] e):=⟨_,zp⟩;clear br bj bi o bl;refine zG ?_;refine zm [0,0,2,0,8,30,0,64,0,256,1022,2046,0,4096,16382,32766,65534,131071,262143] rfl ?_;refine zH ?_;have ab:=zqg k a6.m B.d ay (s1.ext D.e aa) hd.ee zo B.mz (fun P Q e=>B.fz13 (fun x hx=>hd.ee x (by rw [e];exact CE _ hx)) (by rw [e,nn] at ae;omega));refine dC ab ?_;rintro _ cs d3 ⟨bz,bu,cy,c5,c9,cf,cj,cn,rfl,b1,b8⟩ ak y;refine zH ?_;have a3:=zp3 k ((s2.ext D.e aa).ext y ak) (a6.u.ext y ak) (by rw [B.l,hd.fl]) hd.s2 (fun u hu=>B.u5 hu) (fun j hj=>B.tz16 hd.f2 (by have:=hd.fl;omega)) (by have:=hd.fl;omega);rw [hd.fl] at a3;refine dC a3 ?_;rintro _ ct d4 ⟨c0,bv,cz,c6,ca,cg,ck,co,rfl,b2,ba⟩ al A;have an:=mb (k+2) (b1.x ⟨al,A⟩) (b8.x ⟨al,A⟩) b2 ba (B.fz13 hd.ee ae) (B.tz16 hd.f2 (j:=p.free) zo) zo;refine dC an ?_;rintro _ ax bh ⟨c3,bw,d0,c7,cb,ch,cl,cp,rfl,b4,bb⟩ d6 a9;have bn:=(a9 (3*f+2) zo).trans ((A _ zo).trans ((y _ zo).trans q7));refine zH ?_;have a4:=numU (k+1) ax bh (ratT x) (tv (wg (ag.mono zd)) zd);rw [zn] at a4;refine dC a4 ?_;rintro _ cu d5 ⟨c4,bx,d1,c8,cc,ci,cm,cq,rfl,b5,bc⟩ am I;have a5:=zmf (k+1) (b4.x ⟨am,I⟩) (bb.x ⟨am,I⟩) b5 bc (B.lz17 hd zo) ag zo;rw [←b0] at a5;refine dC a5 ?_;rintro _ ac a8 ⟨R,O,a7,S,T,U,V,Y,rfl,b6,bd⟩ d7 aj;have s:Ext (f+1) w ac:=fun c hc=>(aj c zo).trans ((I c zo).trans ((a9 c zo).trans ((A c zo).trans (y c hc))));have Z:=W.go numP.kp ⟨show f+1≤a8 by omega,fun c hc=>.inl (s c hc)⟩ (fun b hb=>s b (W.bk b hb).2.1);have bo:=(s (3*(n+1)+2) zo).trans ai;have ao:Ex0 n h ac:=⟨fun c hc=>(s c zo).trans (D.e c hc)⟩;clear y A a9 I aj s W ai bn q7;refine dMs [kz R,jx O a7 S,kz T,jx U V Y] ?_;intro cv bm g;have b7:=b6.t ⟨ux _,fun c hc=>.inl (g c hc)⟩;have be:=bd.t ⟨ux _,fun c hc=>.inl (g c hc)⟩;have aw:=Z.go numP.kp ⟨ux a8,fun c hc=>.inl (g c hc)⟩ (fun b hb=>g b (Z.bk b hb).2.1);refine dGm (n0:=n) [kz R,jx O a7 S,kz T,jx U V Y] [rsQ p M us i] aw numP.kp (.cons (c:=[kz R,jx O a7 S,kz T,jx U V Y]) rfl ⟨_,_,_,_,_,_,_,_,rfl,b7,be⟩ .nil) ⟨rfl,rfl⟩ (yH bm R2) eT (by rw [af];show i+1<_;omega) zo ?_;intro bq ad bt G ar K aq bs;have G:GR 4 numP (n+1+1) ad (a8+1+1) 51 bq ((AC (i+1)).map (rsQ p M us)):=G.as (by rw [List.range_succ,List.map_append];rfl);obtain ⟨au,rfl⟩:=G.shape (L:=i+1) (by rw [oo,Aj]);have bp:=(K (3*(n+1)+2) zo).trans ((g _ zo).trans bo);have ap:Ex0 n h ad:=⟨fun c hc=>(K c zo).trans ((g c zo).trans (ao.e c hc))⟩;clear g K ar aq;refine zH ?_;refine zG ?_;exact sK (i+1,jx au (i+1) (i+1)) ⟨rfl,zo,ap,bp,G,by show i+1≤gP p.eqs;omega⟩
 have az:i=gP p.eqs:=zo;subst az;have X8:Ext n h h8:=E8.e;have d8:n≤f:=zo;refine Zt ?_;obtain ⟨C,g1,g2,_⟩:=J;refine ⟨av,rfl,⟨C,g1.sl,g2⟩,?_⟩;have hf:=g1.fresh;cases av with
 |none=>exact trivial
 |some a=>exact Nat.le_trans zo hf
end
section
variable {B i:Nat}{Ns:List Nat}
theorem zd2 (q:Rat):∃d r,decT q.num.natAbs++(if q.den=1 then [] else 47::decT q.den)=d::r∧(48:UInt8)≤d:=by
 obtain ⟨a,_,b⟩:=xw q.num.natAbs;cases h:decT q.num.natAbs with
 |nil=>exact cA h b
 |cons d r=>
  refine ⟨d,_,rfl,?_⟩;have:=(a d (by rw [h];exact As)).1;exact this
theorem bH (h:q.num<0):ratT q=45::ratT (-q):=by
 unfold Go.Proofs.YtfajmfoofmienaaGreatDoor.ratT;rw [eN h,Em,Rat.neg_den,Int.natAbs_neg,cC (show ¬ -q.num<0 by omega)];rfl
theorem zih (h:0<q.num):(∃d r,ratT q=d::r∧(48:UInt8)≤d)∧ratT (-q)=45::ratT q:=by
 constructor
 ·obtain ⟨d,r,b,a⟩:=zd2 q;refine ⟨d,r,?_,a⟩;unfold Go.Proofs.YtfajmfoofmienaaGreatDoor.ratT;rw [cC zo];exact b
 have a:(-q).num<0:=by rw [Em];omega
 have:=bH a;rwa [Rat.neg_neg] at this
theorem Sz.len29 (h:Sz 29 q):gP (ratT q)≤20:=by
 have a:∀V,V<2^29→gP (decT V)≤9:=fun V b=>by
  unfold decT;split
  ·decide
  rw [oo,tu];exact xm 9 V (tv b zd)
 have c:=a _ h.1;have d:=a _ h.2;unfold Go.Proofs.YtfajmfoofmienaaGreatDoor.ratT;simp only [nn];split<;>split<;>simp<;>omega
theorem negW (k:Nat)(g:GG h n)(l:Sz 29 q):VF (cal (k+7)) 47 [kF ⟨⟨ratT q⟩⟩] h n fun v=>v=kF ⟨⟨ratT (-q)⟩⟩:=by
 refine zI (fn:=Tryz.f47) R4 ?_;refine zG ?_;refine sQ (decide (q=0)) (sO q) ?_;by_cases h0:q=0
 ·subst h0;refine Zq ?_;rfl
 rw [aD h0];refine zG ?_;refine sC (jU k g.1 g.2 l).cx ?_;rintro _ y A rfl G C;refine zG ?_;have w:q.num≠0:=fun e=>h0 (B7.1 e);by_cases hneg:q.num<0
 ·rw [bH hneg];refine st_I (ik:=.u8) (a:=45) R5 ?_;refine st_B (a:=true) R5 ?_;refine zG ?_;refine wS (s:=45::ratT (-q)) (j:=1) R8 gN ?_;refine Zq ?_;rfl
 obtain ⟨⟨d,r,c,hd⟩,o⟩:=zih (q:=q) zo;rw [o,c];have f:d≠45:=fun e=>by rw [e] at hd;exact cA hd zd
 refine st_I (ik:=.u8) (a:=(d.toNat:Int)) R5 ?_;have u:(d.toNat:Int)≠45:=fun e=>f (UInt8.toNat_inj.1 (by show d.toNat=45;omega));refine zG ?_;refine cW (a:=[45]) (b:=d::r) R6 (by
  have:=l.len29;rw [c] at this;show 1+_≤_;omega) ?_
 refine Zq ?_;rfl
theorem negT (k:Nat)(g:GG h n)(b:∃q,Sz 29 q∧s=ratT q):VF (cal (k+7)) 47 [kF ⟨⟨s⟩⟩] h n fun v=>v=kF ⟨⟨ratT (-numOf s)⟩⟩:=by
 obtain ⟨q,a,rfl⟩:=b;rw [zn];exact negW k g a
def YB (ys:List Rat):Prop:=∀q∈ys,FN 12 108 q
theorem YB.of {Y:List (List UInt8)}(h:∀s∈Y,TxF 12 108 s):YB (Y.map numOf):=fun q a=>by
 obtain ⟨s,b,rfl⟩:=Ay.1 a;obtain ⟨x,rfl,c⟩:=h s b;rw [zn];exact c
theorem zoj {Y:List (List UInt8)}(h:Y[i]?=some s):yq (Y.map numOf) i=numOf s:=by
 unfold yq;rw [sr,h];rfl
theorem zn2 {e:Ent}(h:EntD D B Ns e)(k i j:Nat):FN (D*2) (B*2) (coE e k i j):=by
 obtain ⟨d,N,b,c,v,rfl,_,_,_,a⟩:=h;unfold coE;split
 ·show FN (D*2) (B*2) (if (b:Int)=(c:Int) then numOf (ratT v) else numOf (ratT v)*(1/2));rw [zn];split
  ·have:=a.up 2;rw [vT 2,vT 2] at this;exact this
  exact (a.mul (⟨1,by decide+kernel,by decide⟩:FN 2 1 (1/2))).mono zo
 exact FN.zero _ _
theorem zn1 (h:∀e∈E,EntD D B Ns e)(k i j:Nat):FN (D*2) (B*2*gP E) (coL E k i j):=by
 induction E with
 |nil=>exact FN.zero _ _
 |cons e E ih=>
  have a:=zn2 (h e As) k i j;have b:=ih fun x c=>h x (AV _ c);exact (a.add b).mono (by rw [Au,Nat.mul_add (B*2) (gP E) 1];omega)
section
variable {p:Sdp}
theorem YB.f (b:YB ys)(m:Nat):FN 12 108 (yq ys m):=by
 unfold yq;cases h:ys[m]? with
 |none=>exact FN.zero _ _
 |some q=>exact b q (ns h)
theorem YB.z (b:YB ys)(m:Nat):Sz 7 (yq ys m):=(b.f m).sz zd zd zd
theorem SdpW.ef (a:SdpW F p BR)(m:Nat):(∀e∈eqEs p m,EntF (dimN p) e)∧gP (eqEs p m)≤256:=by
 unfold eqEs;cases h:p.eqs[m]? with
 |none=>exact ⟨fun e b=>(by cases b),by decide⟩
 |some q=>exact ⟨(a.eqo q (ns h)).1,(a.eqo q (ns h)).2.1⟩
theorem YB.pre (b:YB ys)(a:∀e∈E,EntF (dimN p) e)(hl:gP E≤256)(m k i j:Nat):FN 24 110592 (yq ys m*coL E k i j):=
 (b.f m).mul ((zar a k i j).mono (B1:=1024) zo)
theorem objF (b:∀e∈E,EntD 24 3840 Ns e)(hl:gP E≤256)(k i j:Nat):FN 48 1966080 ((-1)*coL E k i j):=by
 have a:=(FN.int (-1) (B:=1) zd).mul ((zn1 b k i j).mono (B1:=1966080) zo);rw [Bs,Bs] at a;exact a
theorem SdpW.mf (a:SdpW F p BR)(b:YB ys)(m k i j:Nat):FN 48 (1966080+221184*m) (slM p ys m k i j):=by
 induction m with
 |zero=>exact objF a.obj a.objl k i j
 |succ m ih=>exact (ih.add ((b.pre (a.ef m).1 (a.ef m).2 m k i j).up 2)).mono zo
theorem SdpW.oz (a:SdpW F p BR)(b:∀e∈E,EntD 24 3840 Ns e)(hl:gP E≤256)(k i j:Nat):Sz 24 (0+(-1)*coL E k i j):=by
 have:=a.bl;rw [C3];exact (objF b hl k i j).sz zd zd zd
theorem SdpW.mz (a:SdpW F p BR)(b:YB ys)(d:m≤4)(c:∀e∈E,EntF (dimN p) e)(hl:gP E≤256)(k i j:Nat):Sz 22 (slM p ys m k i j+yq ys m*coL E k i j):=
 ((a.mf b m k i j).add ((b.pre c hl m k i j).up 2)).sz zd zd zo
theorem SdpW.fr (b:SdpW F p BR)(m t:Nat):FN 1 2 (numOf (eqFr p m t)):=by
 have a:∀(l:List (List UInt8)),(∀s∈l,wn 2 s)→FN 1 2 (numOf ((l[t]?).getD [48])):=fun l d=>by
  cases h:l[t]? with
  |none=>exact FN.mono (B:=0) (by show FN 1 0 (numOf [48]);rw [←wf,zn];exact FN.zero _ _) zd
  |some s=>
   obtain ⟨x,f,g,c⟩:=d s (ns h);show FN 1 2 (numOf s);rw [c,zn];exact FN.int x zo
 unfold eqFr;cases h:p.eqs[m]? with
 |none=>exact a [] (fun s e=>by cases e)
 |some q=>exact a q.fr (b.eqo q (ns h)).2.2.2.1
theorem SdpW.ff (c:SdpW F p BR)(b:YB ys)(m t:Nat):FN 12 (864+216*m) (slF p ys m t):=by
 induction m with
 |zero=>
  have d:FN 12 864 (numOf ((p.objFree[t]?).getD [48])):=by
   cases h:p.objFree[t]? with
   |none=>exact FN.mono (B:=0) (by show FN 12 0 (numOf [48]);rw [←wf,zn];exact FN.zero _ _) zd
   |some s=>
    obtain ⟨q,rfl,e⟩:=c.ofs s (ns h);show FN 12 864 (numOf (ratT q));rw [zn];exact e
  have a:=(FN.int (-1) (B:=1) zd).mul d;rw [show ((-1:Int):Rat)= -1 from rfl,Rat.neg_mul,Dv,Bs,Bs] at a;exact a
 |succ m ih=>
  have a:=(b.f m).mul (c.fr m t);rw [AO] at a;exact (ih.add a).mono zo
theorem SdpW.fz (a:SdpW F p BR)(b:YB ys)(c:m≤4)(t:Nat):Sz 11 (slF p ys m t):=(a.ff b m t).sz zd zd zo
theorem SdpW.rh (a:SdpW F p BR)(m:Nat):FN 12 BR (numOf (eqRh p m)):=by
 unfold eqRh;cases h:p.eqs[m]? with
 |none=>exact FN.mono (B:=0) (by show FN 12 0 (numOf [48]);rw [←wf,zn];exact FN.zero _ _) eU
 |some q=>
  obtain ⟨x,b,c⟩:=(a.eqo q (ns h)).2.2.2.2;show FN 12 BR (numOf q.rhs);rw [b,zn];exact c
theorem SdpW.vf (a:SdpW F p BR)(b:YB ys)(m:Nat):FN 144 (108*BR*m) (slV p ys m):=by
 induction m with
 |zero=>exact FN.zero _ _
 |succ m ih=>exact (ih.add ((b.f m).mul (a.rh m))).mono (Nat.le_of_eq (Ch _ _).symm)
theorem SdpW.vz (c:SdpW F p BR)(a:BR≤131072)(b:YB ys)(d:m≤4):Sz 26 (slV p ys m):=(c.vf b m).sz zd zd (Nat.lt_of_le_of_lt (AD (AD (AK 108) a) d) zd)
theorem SdpW.v48 (a:SdpW F p 48)(b:YB ys)(c:m≤4):Sz 15 (slV p ys m):=(a.vf b m).sz zd zd zo
theorem SdpW.cf (a:SdpW F p BR)(b:YB ys)(m k i j:Nat):FN 24 (110592*m) (cmM p ys m k i j):=by
 induction m with
 |zero=>exact FN.zero _ _
 |succ m ih=>exact (ih.add (b.pre (a.ef m).1 (a.ef m).2 m k i j)).mono zo
theorem SdpW.cz (a:SdpW F p BR)(b:YB ys)(d:m≤4)(c:∀e∈E,EntF (dimN p) e)(hl:gP E≤256)(k i j:Nat):Sz 20 (cmM p ys m k i j+yq ys m*coL E k i j):=
 ((a.cf b m k i j).add (b.pre c hl m k i j)).sz zd zd zo
theorem SdpW.nf (c:SdpW F p BR)(b:YB ys)(m t:Nat):FN 12 (216*m) (cmF p ys m t):=by
 induction m with
 |zero=>exact FN.zero _ _
 |succ m ih=>
  have a:=(b.f m).mul (c.fr m t);rw [AO] at a;exact (ih.add a).mono zo
theorem SdpW.nz (a:SdpW F p BR)(b:YB ys)(c:m≤4)(t:Nat):Sz 10 (cmF p ys m t):=(a.nf b m t).sz zd zd zo
end
end
section
variable {B:Nat}{Ns:List Nat}
theorem zfa:ratT (1/2)=[49,47,50]:=by decide+kernel
theorem zdf:Sz 2 (1/2):=⟨by decide+kernel,by decide+kernel⟩
theorem gY (k:Nat)(g:GG h n){bm:Nat}{M:Nat→Nat→Nat→Rat}{c:Rat}(mw:MW h n bm Ns bs M)(bg:∀b∈bs,60≤b)(hN:∀N∈Ns,1≤N∧N≤3)(hs:Sl h n 4 (jx aE (gP E) cE) (ents E))(bx:∀ad,aE=some ad→ad.block∉bs)(av:0<D∧D<4096∧B<4096)(hE:∀e∈E,EntD D B Ns e)(c2:∀k i j,M k i j=M k j i)(hl:gP E<1000000)(hc:Sz 9 c)(hz:∀P Q,E=P++Q→∀k i j,Sz 24 (M k i j+c*coL P k i j)):
  CF (cal (k+14)) 46 [jx (some ⟨bm,0,none⟩) (gP Ns) (gP Ns),jx aE (gP E) cE,kF ⟨⟨ratT c⟩⟩] h n fun _ O J w=>n≤J∧ExtB n bs h O∧Tr n h J O∧MW O J bm Ns bs (fun k i j=>M k i j+c*coL E k i j)∧∀x∈w,x∈bs:=by
 have da:=mw.r.1;have a0:∀b∈bs,b<3*n:=fun b hb=>mw.blt hb;have a3:∀c,3*n≤c→c∉bs:=fun c hc hb=>by have:=a0 c hb;omega
 refine oI (fn:=Tryz.f46) R4 ?_;refine zG ?_;refine sB [jx (some ⟨bm,0,none⟩) (gP Ns) (gP Ns)] ?_;intro h1 p1 x1;refine sB [kF ⟨⟨ratT c⟩⟩] ?_;intro h2 p2 x2;refine zG ?_;refine sQ (decide (c=0)) (sO c) ?_;by_cases hc0:c=0
 ·rw [bO hc0];refine zG ?_;have X:Ext n h h2:=(zx:Tx n h _ h2).2;have e:∀k i j,M k i j=M k i j+c*coL E k i j:=fun k i j=>by rw [hc0,Cg,A2]
  exact ⟨rfl,[],rfl,⟨zo,fun b hb _=>X b hb,zt,(mw.ext X zo).as e,fun b hb=>cA hb nN⟩,fun _=>⟨eT,ExtB.refl _ _ _,Tr.refl _ _,mw.as e,fun b hb=>cA hb nN⟩⟩
 rw [aD hc0];refine zG ?_;have bj:=mulR (k+2) (g.x (zx:Tx n h (n+1+1) h2)) hc zdf zo zo zo;rw [zfa] at bj;refine sC bj.cx ?_;rintro _ F n3 rfl y3 x3;refine sA ?_;intro h4 p4 x4;refine sS [kF ⟨⟨ratT (c*(1/2))⟩⟩] ?_;intro h5 p5 o5;refine zG ?_;refine sC (zat _ _ _ _ _ _) ?_;rintro _ h6 n6 ⟨rfl,rfl,e6,p6⟩ y6 x6;refine zG ?_;refine lJ rfl rfl ?_;intro G c5 au xB;obtain ⟨e3,q3⟩:∃e,G (3*n+2)=some (.row [jx (some ⟨bm,0,none⟩) (gP Ns) (gP Ns)] e):=⟨_,zp⟩;obtain ⟨e5,q5⟩:∃e,G (3*(n+1)+2)=some (.row [kF ⟨⟨ratT c⟩⟩] e):=⟨_,zp⟩;obtain ⟨e7,q6⟩:∃e,G (3*n3+2)=some (.row [kF ⟨⟨ratT (c*(1/2))⟩⟩] e):=⟨_,zp⟩;have q7:G (3*(n3+1)+2)=some (.row [jx aE (gP E) cE] e6):=zp;have xh:Ext n h G:=(zx:Tx n h (n3+1+1) G).2;clear p1 x1 p2 x2 p4 x4 p5 o5 p6 x6 xB x3;obtain ⟨lo,cj⟩:∃lo,lo=n3+1+1+2:=⟨_,rfl⟩;obtain ⟨l,bh⟩:∃l,l=3*(n3+1+1+1)+2:=⟨_,rfl⟩;rw [←bh] at au;rw [←cj,←bh];obtain ⟨p,a6⟩:∃p:List Ent→Nat→Nat→Nat→Rat,p=fun P k i j=>M k i j+c*coL P k i j:=⟨_,rfl⟩;have b8:∀P Q,E=P++Q→∀k i j,Sz 24 (p P k i j):=fun P Q e k i j=>by rw [a6];exact hz P Q e k i j
 have cf:∀P k i j,p P k i j=p P k j i:=fun P k i j=>by rw [a6];show M k i j+c*coL P k i j=_;rw [c2,qJ]
 have cd:∀P e k i j,p (P++[e]) k i j=p P k i j+c*coE e k i j:=fun P e k i j=>by rw [a6];show M k i j+c*coL (P++[e]) k i j=M k i j+c*coL P k i j+_;rw [zaq,Rat.mul_add,Cx]
 have cb:∀k i j,M k i j=p [] k i j:=fun k i j=>by rw [a6];show _=M k i j+c*0;rw [Br,A2]
 have ce:p E=fun k i j=>M k i j+c*coL E k i j:=by rw [a6]
 clear a6;refine yg (mY (k+12) (E:=E) (I:=fun P O J=>O l=G l∧Tr lo G J O∧MW O J bm Ns bs (p P)) (W:=fun c=>c∈bs∨c=l∨3*lo≤c) (V:=fun c=>c∈bs) zo q7 (hs.ext xh zo) hl (fun ad e=>?_) ⟨rfl,Tr.refl _ _,(mw.ext xh zo).as cb⟩ (fun c hc=>by have:=a0 c hc;omega) ?_) ?_
 ·subst e;have:=hs.below;have hb:ad.block<3*n:=this;have h2:=bx _ rfl;rintro (F|F|F)
  ·exact h2 F
  ·omega
  omega
 ·intro P m R b0 hr o bb off cc a5 bf aj de bd ⟨bi,c4,bp⟩ bk ba d9;have bt:bb∉bs:=fun h=>ba (.inl h);obtain ⟨e1,g2,rfl⟩:∃e g2,m=e::g2:=by
   cases m with
   |nil=>exact cA rfl bf
   |cons e g2=>exact ⟨e,g2,rfl⟩
  obtain ⟨k0,N,i1,j1,v1,rfl,U,_⟩:=hE e1 (by rw [a5];simp);have ch:b0=(k0:Int):=(aj _ As).symm;subst ch;obtain ⟨m,ai⟩:∃g,g=(⟨(k0:Int),(i1:Int),(j1:Int),ratT v1⟩:Ent)::g2:=⟨_,rfl⟩;rw [←ai] at a5 bk aj ⊢;have bz:0<gP m:=by rw [ai];simp
  clear ai bf;have cg:=hN N (ns U);have y:=sq9 cg.2;obtain ⟨C,a9,_⟩:=bp.bget U;have A:C∈bs:=ns a9;have d5:C<3*n:=a0 _ A;have ci:=(oc.1 U).1;refine lI (bi.trans au) rfl rfl ?_;refine zG ?_;refine ⟨trivial,trivial,fun hM L1=>?_⟩;have hq:∀c,c<3*lo→3*n≤c→c≠l→hM c=G c:=fun c h1 h2 F=>(L1.1 c F).trans (bd c zo (fun h=>by rcases h with h|h|h;exact a3 c h2 h;exact F h;omega));have cu:=(hq _ zo zo zo).trans q3;have cv:=(hq _ zo zo zo).trans q5;have cw:=(hq _ zo zo zo).trans q6;have b7:Tr o hr o hM:=Tr.l L1 (Tr.refl _ _);have b2:MW hM o bm Ns bs (p P):=bp.go b7 (fun c hc=>L1.1 c (by rcases hc with rfl|hc;omega;have:=a0 c hc;omega));have gM:GG hM o:=by
   refine GG.ofB (bs:=l::bs) g (fun c hc hn=>?_) (fun b hb=>?_) zo
   ·simp only [sP,not_or] at hn;exact (L1.1 c hn.1).trans ((bd c zo (fun h=>by rcases h with h|h|h;exact hn.2 h;exact hn.1 h;omega)).trans (xh c hc))
   rcases sP.1 hb with rfl|hb
   ·have:=g.2;omega
   exact bg b hb
  have cy:Sl hM o 4 (jx (some ⟨bb,off,none⟩) (gP m) cc) (ents m):=bk.keep (fun a l' cap e=>by cases e;exact L1.1 _ (fun h=>ba (.inr (.inl h)))) eT;refine zG ?_;obtain ⟨cm,fm,lm,ar⟩:=b2.r.get (zer U a9) (off:=k0*3) rfl;have fm:cm=[jy .i64 (N:Int),jy .i64 (N:Int),jx (some ⟨C,0,none⟩) (N*N) (N*N)]:=fm;subst fm;refine sI (j:=k0) rfl ci ?_;have ar:At hM bm (0+k0*3) _:=(AA (k0*3)).symm▸ar;refine sL ar b2.r.1 0 ?_;refine sA ?_;intro h7 p7 x7;refine sSn (n0:=o) [jy .i64 (N:Int),jy .i64 (N:Int),jx (some ⟨C,0,none⟩) (N*N) (N*N)] ?_;intro h8 p8 o8;refine zG ?_;have x8:Ext o hM h8:=(zx:Tx o hM _ h8).2;have cs:MW h8 (o+1) bm Ns bs (p P):=b2.ext x8 zo;have db:gP m<1000000:=by
   have e2:gP E=gP P+(gP m+gP R):=by rw [a5];simp
   omega
  refine sF (α:=Nat) (fun z=>[(3,kS (some ⟨3*n+2,0,none⟩)),(5,kS (some ⟨3*(n+1)+2,0,none⟩)),(6,kS (some ⟨3*n3+2,0,none⟩)),(9,kS (some ⟨3*o+2,0,none⟩)),(26,jx (some ⟨bb,off,none⟩) (gP m) cc),(27,jy .i64 (gP m:Int)),(28,jy .i64 (z:Int))])
   (fun z O J w'=>o+1≤J∧(∀b,b<3*(o+1)→b∉bs→O b=h8 b)∧Tr (o+1) h8 J O∧MW O J bm Ns bs (p (P++m.take z))∧(∀b∈w',b∈bs∨b=l)∧l∈w'∧(0<z→∃b∈w',b∈bs)∧z≤gP m)
   (fun z=>gP m-z) 0 ⟨eT,fun _ _ _=>rfl,Tr.refl _ _,by rw [Bj,A3];exact cs,fun b hb=>.inr (nP.1 hb),nP.2 rfl,fun h=>cA h (BK _),eU⟩ ?_
  rintro z t y H w9 ⟨y9,x9,T9,K,ac,ao,cl,bl⟩;have y9:o+1≤H:=y9;have bl:z≤gP m:=bl;have T9:Tr (o+1) h8 H y:=T9;have ac:∀b∈w9,b∈bs∨b=l:=ac;have ao:l∈w9:=ao;have di:=(x9 _ zo (a3 _ zo)).trans ((x8 _ zo).trans cu);have dj:=(x9 _ zo (a3 _ zo)).trans ((x8 _ zo).trans cv);have dk:=(x9 _ zo (a3 _ zo)).trans ((x8 _ zo).trans cw);have br:=(x9 _ zo (a3 _ zo)).trans p8;have gM:GG y H:=by
   refine GG.ofB (bs:=bs) gM (fun c hc hn=>(x9 c zo hn).trans (x8 c hc)) bg zo
  refine zG ?_;by_cases qz:(z:Int)<(gP m:Int)
  ·obtain ⟨e0,ay⟩:∃e,m[z]?=some e:=⟨_,k4 zo⟩;have b1:=ns ay;obtain ⟨u,N2,i0,f,v,rfl,an,dc,c0,cz⟩:=hE e0 (by rw [a5];simp [b1]);have sv:Sz 12 v:=FN.sz cz av.1 av.2.1 av.2.2;have c1:u=k0:=by have:(u:Int)=(k0:Int):=aj _ b1;omega
   subst c1;rw [U] at an;cases an;have ab:f<N:=c0;have aa:i0<N:=zo;have a4:=rH aa ab;have al:=rH ab aa;refine zG ?_;obtain ⟨bq,oq,c7,mq,rq,tq⟩:=rn cy ay;cases c7;refine sI rfl rq ?_;have d0:At y bb (off+z*4) _:=tq.keep ((x9 bb zo bt).trans (x8 bb zo));refine sL d0 (show bb<3*H by omega) 0 ?_;refine sA ?_;intro d7 dg dl;refine sSn (n0:=o) [jy .i64 (u:Int),jy .i64 (i0:Int),jy .i64 (f:Int),kF ⟨⟨ratT v⟩⟩] ?_;intro d8 dh df;refine zG ?_;obtain ⟨L,aw⟩:∃L,L=P++m.take z:=⟨_,rfl⟩;have ax:P++m.take (z+1)=L++[⟨(u:Int),(i0:Int),(f:Int),ratT v⟩]:=by rw [yZ ay,aw,Aq]
   rw [←aw] at K;have bn:∀i j,Sz 24 (p L u i j):=fun i j=>b8 L (m.drop z++R) (by rw [aw,Aq,←Aq (m.take z),Bf];exact a5) u i j;have a2:=fun k i j=>cd L ⟨(u:Int),(i0:Int),(f:Int),ratT v⟩ k i j;have am:=cf L;obtain ⟨S,hS⟩:∃S,S=p L u i0 f+c*coE ⟨(u:Int),(i0:Int),(f:Int),ratT v⟩ u i0 f:=⟨_,rfl⟩;have b9:Sz 24 S:=by
    rw [hS,←a2,←ax];exact b8 (P++m.take (z+1)) (m.drop (z+1)++R) (by rw [Aq,←Aq (m.take (z+1)),Bf];exact a5) u i0 f
   have ae:=K.e u N C U a9;obtain ⟨cS,fS,lS,tS⟩:=ae.get (j:=i0*N+f) (d:=ratT (p L u i0 f)) (by rw [sr,vH aa ab];rfl) (off:=i0*N+f) zo;have fS:cS=[kF ⟨⟨ratT (p L u i0 f)⟩⟩]:=fS;subst fS;have tS:At y C (0+(i0*N+f)*1) _:=(show i0*N+f=0+(i0*N+f)*1 by omega)▸tS;have d6:=U;have ap:Sz (9+2) (c*(1/2)):=hc.mul zdf;by_cases hd:i0=f
   ·refine zG ?_;refine zG ?_;refine zm [0,1,0,4,0,16,60,0,128,508,1023,2047,0,0,8192,28672,65535,131071] rfl ?_;refine zH ?_;refine dMu i0 N zo ?_;refine zH ?_;refine dI (j:=i0*N+f) rfl a4 ?_;refine dL tS ae.1 0 ?_;refine zH ?_;refine dC (mulR _ (gM.x zx) hc sv zo zo zo).cx ?_;rintro _ c8 ct rfl d3 d1;refine dC (addR _ (gM.x zx) (bn i0 f) (hc.mul sv) zo zo zo (z:=S) (by rw [hS,oa,eN hd]) b9 zo).cx ?_;rintro _ T Y rfl d4 d2;refine zH ?_;refine zG ?_;refine sMu i0 N zo ?_;refine zG ?_;refine sI (j:=i0*N+f) rfl a4 ?_;have b3:OT T Y C ((tabL N (p L u)).map ratT):=ae.go strP.kp zt (by
     have e0:y C=y C:=rfl;exact zp)
    have aq:Tr H y Y T:=zt;obtain ⟨c6,a7⟩:∃e,T (3*H+2)=some (.row [jy .i64 (u:Int),jy .i64 (i0:Int),jy .i64 (f:Int),kF ⟨⟨ratT v⟩⟩] e):=⟨_,zp⟩;have af:∀b,b<3*H→T b=y b:=fun b hb=>by
     have e0:y b=y b:=rfl;exact zp
    refine sZ (n0:=o) (j:=i0*N+f) (q:=ratT S) [kF ⟨⟨ratT S⟩⟩] b3 strP.kp (by rw [oo,yI];exact a4) (show (0:Nat)+(i0*N+f)*1=(i0*N+f)*1 by omega) rfl ?_;intro c9 b4 Z;have c3:=(Z.1 (3*o+2) zo).trans ((af _ zo).trans br);have b6:=(Z.1 (3*H+2) zo).trans a7;refine zG ?_;refine sMu f N zo ?_;refine zG ?_;refine sI (j:=f*N+i0) rfl al ?_;refine sZ (n0:=o) (j:=f*N+i0) (q:=ratT S) [kF ⟨⟨ratT S⟩⟩] b4 strP.kp (by rw [AY,oo,yI];exact al) (show (0:Nat)+(f*N+i0)*1=(f*N+i0)*1 by omega) rfl ?_;intro a1 b5 ah;refine zG ?_;have a8:Tr H y Y a1:=Tr.s ah (Tr.s Z aq);have ag:∀b,b<3*H→b≠C→a1 b=y b:=fun b hb hn=>(ah.1 b hn).trans ((Z.1 b hn).trans (af b hb));have ak:MW a1 Y bm Ns bs (p (L++[⟨(u:Int),(i0:Int),(f:Int),ratT v⟩])):=K.set U a9 a8 (fun c hc hb=>ag c (by rcases hb with rfl|hb;exact K.r.1;exact K.blt hb) hc) (b5.as ((cD aa ab am hS).trans (by congr 1;exact ul fun a b _ _=>(a2 u a b).symm))) (fun k hk a b=>by rw [a2,rW (.inl hk),Br,A2]);exact sK (z+1) ⟨zo,fun b hb hn=>(ag b zo (fun e=>hn (e▸A))).trans (x9 b hb hn),Tr.trans T9 a8,by rw [ax];exact ak,wF (fun b hb=>.inl (by rw [nP.1 hb];exact A)) (wF (fun b hb=>.inl (by rw [nP.1 hb];exact A)) ac),wm _ _ _ (wm _ _ _ ao),fun _=>⟨C,wG (show C<3*o by omega) (nP.2 rfl),A⟩,by show z+1≤gP m;omega⟩
   refine zG ?_;refine zG ?_;refine zm [0,1,0,4,0,16,60,0,128,508,1023,2047,0,0,8192,28672,65535,131071] rfl ?_;refine zH ?_;refine dMu i0 N zo ?_;refine zH ?_;refine dI (j:=i0*N+f) rfl a4 ?_;refine dL tS ae.1 0 ?_;refine zH ?_;refine dC (mulR _ (gM.x zx) ap sv zo zo zo).cx ?_;rintro _ c8 ct rfl d3 d1;refine dC (addR _ (gM.x zx) (bn i0 f) (ap.mul sv) zo zo zo (z:=S) (by rw [hS,oa,cC hd];rw [Rat.mul_assoc,BO (1/2) v]) b9 zo).cx ?_;rintro _ T Y rfl d4 d2;refine zH ?_;refine zG ?_;refine sMu i0 N zo ?_;refine zG ?_;refine sI (j:=i0*N+f) rfl a4 ?_;have b3:OT T Y C ((tabL N (p L u)).map ratT):=ae.go strP.kp zt (by
    have e0:y C=y C:=rfl;exact zp)
   have aq:Tr H y Y T:=zt;obtain ⟨c6,a7⟩:∃e,T (3*H+2)=some (.row [jy .i64 (u:Int),jy .i64 (i0:Int),jy .i64 (f:Int),kF ⟨⟨ratT v⟩⟩] e):=⟨_,zp⟩;have af:∀b,b<3*H→T b=y b:=fun b hb=>by
    have e0:y b=y b:=rfl;exact zp
   refine sZ (n0:=o) (j:=i0*N+f) (q:=ratT S) [kF ⟨⟨ratT S⟩⟩] b3 strP.kp (by rw [oo,yI];exact a4) (show (0:Nat)+(i0*N+f)*1=(i0*N+f)*1 by omega) rfl ?_;intro c9 b4 Z;have c3:=(Z.1 (3*o+2) zo).trans ((af _ zo).trans br);have b6:=(Z.1 (3*H+2) zo).trans a7;refine zG ?_;refine sMu f N zo ?_;refine zG ?_;refine sI (j:=f*N+i0) rfl al ?_;refine sZ (n0:=o) (j:=f*N+i0) (q:=ratT S) [kF ⟨⟨ratT S⟩⟩] b4 strP.kp (by rw [AY,oo,yI];exact al) (show (0:Nat)+(f*N+i0)*1=(f*N+i0)*1 by omega) rfl ?_;intro a1 b5 ah;refine zG ?_;have a8:Tr H y Y a1:=Tr.s ah (Tr.s Z aq);have ag:∀b,b<3*H→b≠C→a1 b=y b:=fun b hb hn=>(ah.1 b hn).trans ((Z.1 b hn).trans (af b hb));have ak:MW a1 Y bm Ns bs (p (L++[⟨(u:Int),(i0:Int),(f:Int),ratT v⟩])):=K.set U a9 a8 (fun c hc hb=>ag c (by rcases hb with rfl|hb;exact K.r.1;exact K.blt hb) hc) (b5.as ((cD aa ab am hS).trans (by congr 1;exact ul fun a b _ _=>(a2 u a b).symm))) (fun k hk a b=>by rw [a2,rW (.inl hk),Br,A2]);exact sK (z+1) ⟨zo,fun b hb hn=>(ag b zo (fun e=>hn (e▸A))).trans (x9 b hb hn),Tr.trans T9 a8,by rw [ax];exact ak,wF (fun b hb=>.inl (by rw [nP.1 hb];exact A)) (wF (fun b hb=>.inl (by rw [nP.1 hb];exact A)) ac),wm _ _ _ (wm _ _ _ ao),fun _=>⟨C,wG (show C<3*o by omega) (nP.2 rfl),A⟩,by show z+1≤gP m;omega⟩
  have cq:z=gP m:=zo;subst cq;rw [Ax] at K;refine zG ?_;obtain ⟨bv,bu,bw⟩:=cl bz;refine ⟨trivial,(x9 l zo (a3 l zo)).trans ((x8 l zo)),fun h2 e2 L2=>?_⟩;have an:∀c,c<3*o→c∉bs→c≠l→h2 c=hr c:=fun c hc hn F=>(L2.1 c F).trans ((x9 c zo hn).trans ((x8 c hc).trans (L1.1 c F)));have T2:Tr o hr H h2:=Tr.l L2 (b7.trans (Tr.trans ⟨zo,fun c hc=>.inl (x8 c hc)⟩ T9));refine ⟨⟨e2.trans bi,c4.trans T2,K.go (Tr.l L2 (Tr.refl _ _)) (fun c hc=>L2.1 c (by rcases hc with rfl|hc;omega;have:=a0 c hc;omega))⟩,zo,fun c hc hn=>an c hc (fun h=>hn (.inl h)) (fun h=>hn (.inr (.inl h))),fun c hc=>?_,As,bv,AV _ bu,bw⟩;rcases sP.1 hc with rfl|hc
  ·exact .inl (.inr (.inl rfl))
  rcases ac c hc with h|h
  ·exact .inl (.inl h)
  exact .inl (.inr (.inl h))
 rintro v O J w' ⟨⟨e1,T1,cr⟩,dd,bc,cn,ck⟩;have e2:O (3*(n3+1+1)+2)=G (3*(n3+1+1)+2):=bc _ zo (fun h=>by rcases h with h|h|h;exact a3 _ zo h;omega;omega);refine ⟨e1,e2,fun h2 az=>?_⟩;refine zG ?_;have hk:∀c,c<3*n→c∉bs→h2 c=h c:=fun c hc hn=>(az c zo zo).trans ((bc c zo (fun h=>by rcases h with h|h|h;exact hn h;omega;omega)).trans (xh c hc));have Tz:Tr J O J h2:=⟨eT,fun c hc=>by
  by_cases h1:c=l
  ·exact .inr ⟨_,by rw [h1];exact e1.trans au,.inr rfl⟩
  ·by_cases F:c=3*(n3+1+1)+2
   ·exact .inr ⟨_,by rw [F];exact e2.trans c5,.inr rfl⟩
   ·exact .inl (az c zo F)⟩
 have T2:Tr lo G J h2:=T1.trans Tz;have T3:Tr n h J h2:=Tr.trans ⟨zo,fun c hc=>.inl (xh c hc)⟩ T2;have bo:MW h2 J bm Ns bs (p E):=cr.go Tz (fun c hc=>az c (by rcases hc with rfl|hc;omega;have:=a0 c hc;omega) (by rcases hc with rfl|hc;omega;have:=a0 c hc;omega));rw [ce] at bo;refine ⟨rfl,[],rfl,⟨zo,hk,T3,bo,fun x hx=>?_⟩,fun hw=>?_⟩
 ·rcases xX _ _ x hx with ⟨F,h4⟩|F
  ·rcases (cn x F).1 with h5|h5|h5
   ·exact h5
   ·have h4:x<3*n:=h4;omega
   have h4:x<3*n:=h4;omega
  exact cA F nN
 rcases ck with ca|⟨x,co,cp⟩
 ·subst ca;exact ⟨eT,ExtB.refl _ _ _,Tr.refl _ _,mw.as (fun k i j=>by show _=M k i j+c*0;rw [Br,A2]),fun b hb=>cA hb nN⟩
 have:=wG (w:=[]) (a0 x cp) co;have hw:addW n w' []=[]:=hw;rw [hw] at this;cases this
end
theorem kQ (k:Nat){h:HF}{n:Nat}(g:GG h n){y B A:Value}{aE:Option Addr}{lE cE:Nat}{p:Sdp}{F BR:Nat}(H:F≤100)(c:SdpR h n y B A (jx aE lE cE) p)(L:BR≤131072)(f:SdpW F p BR){aY:Option Addr}{lY cY:Nat}{Y:List (List UInt8)}(q:Sl h n 1 (jx aY lY cY) (strs Y))(d:∀s∈Y,TxF 12 108 s)(I:gP Y=gP p.eqs):
  VF (cal (k+9)) 44 [.agg #[y,jy .i64 (p.free:Int),B,A,jx aE lE cE],jx aY lY cY] h n fun v=>v=jy .i64 0:=by
 have N:=xY q;have M:lE=gP p.eqs:=by
  obtain ⟨j,G,o⟩:=c.eqs;exact G.lenEq zo o.len
 have J:=f.eql;obtain ⟨aB,lB,cB,rfl,_⟩:=c.blocks.len;obtain ⟨aO,lO,cO,rfl,_⟩:=c.obj.len;obtain ⟨aF,lF,cF,rfl,_⟩:=c.objFree.len;refine zI (fn:=Tryz.f44) R4 ?_;refine zG ?_;refine sB [jx aB lB cB,jy .i64 (p.free:Int),jx aO lO cO,jx aF lF cF,jx aE lE cE] ?_;intro D R e;refine zG ?_;refine sC (zkk k (g.x (zx:Tx n h _ D)) H zo ⟨c.blocks.ext e zo,c.obj.ext e zo,c.objFree.ext e zo,by obtain ⟨j,a,b⟩:=c.eqs;exact ⟨j,a.ext e zo,b.ext e zo⟩⟩ f).cx ?_;rintro _ m w rfl U S;refine zG ?_;have l:GG m w:=g.x zx;refine sC (uX (k+6) (sRT (k+1)) l.1 l.2 (q.ext (zx:Tx n h w m).2 zo) (fun s i=>(d s i).t29 zd) zo).cx ?_;rintro _ O P ⟨C,rfl,u⟩ V T;have K:C=true:=u.2 fun s i=>((d s i).len zd).2;subst K;refine Zq ?_;rfl
section
variable {p:Sdp}
theorem zo3 (k:Nat)(g:GG h n)(hF:F≤100)(M:SdpR h n (jx aB lB cB) (jx aO lO cO) (jx aF lF cF) (jx aE lE cE) p)(ci:BR≤131072)(o:SdpW F p BR)(hY:Sl h n 1 (jx aY lY cY) (strs Y))(a5:∀s∈Y,TxF 12 108 s)(c8:gP Y=gP p.eqs):
  CX (cal (k+15)) 13 [.agg #[jx aB lB cB,jy .i64 (p.free:Int),jx aO lO cO,jx aF lF cF,jx aE lE cE],jx aY lY cY] h n fun v G D=>∃u A y,v=.tuple #[jx (some ⟨u,0,none⟩) (gP (dimN p)) (gP (dimN p)),jx (some ⟨y,0,none⟩) p.free p.free,jy .i64 0]∧MW G D u (dimN p) A (slM p (Y.map numOf) (gP p.eqs))∧OT G D y ((AC p.free).map fun t=>ratT (slF p (Y.map numOf) (gP p.eqs) t)):=by
 have dw:=xY hY;have dr:=o.bl;have du:=o.free;have dt:=o.eql;have bj:gP (dimN p)=gP p.blocks:=by unfold dimN;rw [oo]
 have cz:lB=gP (dimN p):=by rw [bj];exact M.blocks.lenEq zo (by unfold i64s;rw [oo,AO])
 have d1:lF=p.free:=by rw [xY M.objFree];exact o.ofl
 have d2:lO=gP p.obj:=M.obj.lenEq zo (xk _);have d0:lE=gP p.eqs:=by
  obtain ⟨ce,hE,ao⟩:=M.eqs;exact hE.lenEq zo ao.len
 subst cz d1 d2 d0;obtain ⟨f,U⟩:∃f,f=dimN p:=⟨_,rfl⟩;have ap:∀N∈f,1≤N∧N≤3:=fun N hN=>by
  rw [U] at hN;obtain ⟨d,hd,rfl⟩:=Ay.1 hN;have:=o.b3 d hd;omega
 have cj:∀{j N:Nat},f[j]?=some N→p.blocks[j]?=some (N:Int):=fun {j N} hj=>by
  rw [U] at hj;unfold dimN at hj;rw [sr] at hj;cases hb:p.blocks[j]? with
  |none=>rw [hb] at hj;cases hj
  |some d=>
   rw [hb] at hj;have:=o.b3 d (ns hb);have hj:d.toNat=N:=A0 hj;rw [show (N:Int)=d by omega]
 rw [←U];rw [←U] at bj M;refine zu (fn:=Tryz.f13) R4 ?_;refine zG ?_;refine sB [jx aB (gP f) cB,jy .i64 (p.free:Int),jx aO (gP p.obj) cO,jx aF p.free cF,jx aE (gP p.eqs) cE] ?_;intro h1 p1 x1;refine zG ?_;refine sC (kQ (k+5) (g.x (zx:Tx n h (n+1) h1)) hF (M.ext0 x1 zo) ci o (hY.ext x1 zo) a5 c8).cx ?_;rintro _ h2 n2 rfl y2 x2;have c9:∀s∈Y,xy s:=fun s hs=>((a5 s hs).len zd).2;have b:YB (Y.map numOf):=YB.of a5;obtain ⟨l,ay⟩:∃l,l=Y.map numOf:=⟨_,rfl⟩;rw [←ay] at b;refine zG ?_;refine sMk (L:=gP f) [jy .i64 0,jy .i64 0,jx none 0 0] ?_ zo;intro h3 p3 x3;refine zG ?_;obtain ⟨u,cm⟩:∃u,u=3*n2+2:=⟨_,rfl⟩;have oM:OR 3 mdP h3 (n2+1) (3*n2+2) (pl (gP f) ⟨0,none,0⟩):=OR.fill zo p3 mdP.kp rfl;have E3:Ex0 (n+1) h1 h3:=⟨(zx:Tx (n+1) h1 (n2+1) h3).2⟩;rw [←cm] at oM ⊢;clear p3 x3 x2;refine sF (α:=Nat×List Nat×List MD) (fun z=>[(1,jx aY lY cY),(2,kS (some ⟨3*n+2,0,none⟩)),(8,jx (some ⟨u,0,none⟩) (gP f) (gP f)),(29,jx aB (gP f) cB),(30,jy .i64 (gP f:Int)),(31,jy .i64 (z.1:Int))])
  (fun z G D w'=>w'=[]∧n2+1≤D∧Ex0 (n+1) h1 G∧OR 3 mdP G D u z.2.2∧gP z.2.2=gP f∧gP z.2.1=z.1∧(∀(k N b:Nat),f[k]?=some N→z.2.1[k]?=some b→z.2.2[k]?=some ⟨N,some ⟨b,0,none⟩,N*N⟩∧OT G D b (pl (N*N) [48]))∧(∀b∈z.2.1,3*(n2+1)≤b∧b<3*D)∧z.2.1.Nodup∧z.1≤gP f)
  (fun z=>gP f-z.1) (0,[],pl (gP f) ⟨0,none,0⟩) ⟨rfl,eT,E3,oM,Ah,rfl,fun k N b _ hb=>(by have hb:([]:List Nat)[k]?=some b:=hb;simp at hb),fun b hb=>cA hb nN,List.nodup_nil,eU⟩ ?_
 rintro ⟨j,A,ds⟩ t h4 w _ ⟨rfl,y4,E4,o4,l4,j4,e4,b4,d4,hj⟩;have y4:n2+1≤w:=y4;have o4:OR 3 mdP h4 w u ds:=o4;have l4:gP ds=gP f:=l4;have j4:gP A=j:=j4;have e4:∀(k N b:Nat),f[k]?=some N→A[k]?=some b→ds[k]?=some ⟨N,some ⟨b,0,none⟩,N*N⟩∧OT h4 w b (pl (N*N) [48]):=e4;have b4:∀b∈A,3*(n2+1)≤b∧b<3*w:=b4;have d4:A.Nodup:=d4;have hj:j≤gP f:=hj;have q4:=(E4.e (3*n+2) zo).trans p1;have ai:Ex0 n h h4:=⟨fun c hc=>(E4.e c zo).trans (x1 c hc)⟩;refine zG ?_;by_cases qj:(j:Int)<(gP f:Int)
 ·refine zG ?_;obtain ⟨N,aq⟩:∃N,f[j]?=some N:=⟨_,k4 zo⟩;have hN:=ap N (ns aq);have h9:=sq9 hN.2;have ck:1≤N*N:=CQ hN.1 hN.1;obtain ⟨b5,o5,e5,m5,r5,t5⟩:=rf (M.blocks.ext ai.e (show n≤w by omega)) (cj aq);refine sI e5 r5 ?_;refine sL t5 m5 0 ?_;refine zG ?_;refine sMs [kF ⟨⟨[48]⟩⟩] ?_;intro h6 p6 x6;refine zG ?_;refine sMu N N zo ?_;refine zG ?_;refine sC (zmj _ (b:=3*w+2) (s:=[48]) zo p6 (m:=N*N) ⟨ck,zo⟩) ?_;rintro _ h7 n7 ⟨rfl,rfl,o7⟩ y7 x7;refine sT #[jy .i64 (N:Int),jy .i64 (N:Int),jx (some ⟨3*(w+1)+2,0,none⟩) (N*N) (N*N)] ?_;refine sI (j:=j) rfl zo ?_;have o8:OR 3 mdP h7 (w+1+1) u ds:=o4.xx mdP.kp zx;refine sZn (n0:=n) (j:=j) (q:=(⟨N,some ⟨3*(w+1)+2,0,none⟩,N*N⟩:MD)) [jy .i64 (N:Int),jy .i64 (N:Int),jx (some ⟨3*(w+1)+2,0,none⟩) (N*N) (N*N)] o8 mdP.kp zo (show (0:Nat)+j*3=j*3 by omega) rfl zo ?_;intro h9 o9 s9;have X9:∀c,c<3*w→c≠u→h9 c=h4 c:=fun c hc hn=>(s9.1 c hn).trans ((x7 c zo).trans (x6 c hc));have T9:Tr w h4 (w+1+1) h9:=⟨zo,fun c hc=>by
   by_cases hn:c=u
   ·subst hn;obtain ⟨_,C,e,z1,z2,_⟩:=o4;exact .inr (.row z1 z2)
   ·exact .inl (X9 c hc hn)⟩
  have c6:u<3*w:=o4.1;have da:OT h9 (w+1+1) (3*(w+1)+2) (pl (N*N) [48]):=o7.go strP.kp (Tr.s s9 (Tr.refl _ _)) (s9.1 _ zo);clear x6 x7 p6;refine zG ?_;refine sK (j+1,A++[3*(w+1)+2],ds.set j ⟨N,some ⟨3*(w+1)+2,0,none⟩,N*N⟩) ⟨rfl,zo,⟨fun c hc=>(X9 c zo zo).trans (E4.e c hc)⟩,o9,by rw [AY];exact l4,by rw [nn,j4];rfl,fun k2 N2 b2 h1 h2=>?_,fun b hb=>?_,?_,by show j+1≤gP f;omega⟩
  ·by_cases hk:k2=j
   ·subst hk;rw [aq] at h1;cases h1;have h2:(A++[3*(w+1)+2])[k2]?=some b2:=h2;rw [AE zo,j4,A7] at h2;cases h2;exact ⟨by rw [Cc,eN rfl,eN zo],da⟩
   have h2:(A++[3*(w+1)+2])[k2]?=some b2:=h2;have av:=(oc.1 h2).1;rw [nn,j4] at av;have av:k2<j+1:=av;rw [AZ zo] at h2;obtain ⟨u1,u2⟩:=e4 k2 N2 b2 h1 h2;exact ⟨by rw [Cc,cC (DN hk)];exact u1,u2.go strP.kp T9 (X9 _ u2.1 (by have:=(b4 b2 (ns h2)).1;omega))⟩
  ·rcases Al.1 hb with hb|hb
   ·have:=b4 b hb;omega
   rw [nP.1 hb];omega
  show (A++[3*(w+1)+2]).Nodup;rw [List.nodup_append];exact ⟨d4,gN,fun a ha b hb=>by rw [nP.1 hb];have:=(b4 a ha).2;omega⟩
 have dv:j=gP f:=zo;have au:gP A=gP f:=zo;have cq:ds=mds f A:=by
  refine Bn fun m=>?_;by_cases hm:m<gP f
  ·rw [zer (k4 hm) (k4 zo)];exact (e4 m _ _ (k4 hm) (k4 zo)).1
  rw [Ad zo,Ad (by rw [rP au];omega)]
 subst cq;have c6:u<3*w:=o4.1;have bu:MW h4 w u f A (fun _ _ _=>0):=⟨o4,fun k2 N2 b2 h1 h2=>by rw [zdb];exact (e4 k2 N2 b2 h1 h2).2,au,d4,fun hb=>by have:=(b4 _ hb).1;omega⟩;have ae:∀b∈A,60≤b:=fun b hb=>by have:=(b4 b hb).1;have:=g.2;omega
 have K:∀b∈A,3*(n+1)≤b:=fun b hb=>by have:=(b4 b hb).1;omega
 clear e4 o4 l4 j4 hj qj;refine zG ?_;have aw:∀e∈p.obj,EntD 24 3840 f e:=fun e he=>U▸o.obj e he;have g4:GG h4 w:=g.ext ai.e zo;have a6:=gY k g4 bu ae ap (M.obj.ext ai.e (show n≤w by omega)) (fun ad e=>fun hb=>by
  have h1:=(M.obj).below;subst e;have h1:ad.block<3*n:=h1;have:=K _ hb;omega) zd aw (fun _ _ _=>rfl) (by have:=o.objl;omega) (c:= -1) ⟨by decide+kernel,by decide+kernel⟩ (fun P Q e k i j=>o.oz (E:=P) (fun x hx=>aw x (by rw [e];exact CE _ hx)) (by have:=o.objl;rw [e,nn] at this;omega) k i j)
 rw [zei] at a6;refine zB _ R5 a6 ?_;rintro _ h5 n5 w5 ⟨y5,X5,T5,m5,cu⟩;rw [vW,z0 (fun c hc=>by have:=K c (cu c hc);omega)];have m5:MW h5 n5 u f A (slM p l 0):=m5.as (fun k i j=>by show 0+(-1)*coL p.obj k i j=(-1)*coL p.obj k i j;rw [C3]);have E5:Ex0 (n+1) h1 h5:=⟨fun c hc=>(X5 c zo (fun hb=>by have:=K c hb;omega)).trans (E4.e c hc)⟩;have q5:=(E5.e (3*n+2) zo).trans p1;have cv:Ex0 n h h5:=⟨fun c hc=>(E5.e c zo).trans (x1 c hc)⟩;clear X5 T5 bu E4 q4 ai a6 y4;refine zG ?_;refine sMk (L:=p.free) [kF ⟨⟨[]⟩⟩] ?_ zo;intro h6 p6 x6;refine zG ?_;obtain ⟨y,cl⟩:∃y,y=3*n5+2:=⟨_,rfl⟩;have o6:OT h6 (n5+1) (3*n5+2) (pl p.free []):=OR.fill zo p6 strP.kp rfl;have m6:=m5.ext x6 zs;have E6:Ex0 (n+1) h1 h6:=⟨fun c hc=>(x6 c zo).trans (E5.e c hc)⟩;have q6:=(E6.e (3*n+2) zo).trans p1;have a7:y∉A:=fun hb=>by have:=m5.blt hb;omega
 have ar:y≠u:=by have:=m5.r.1;omega
 have dj:3*(n+1)≤y:=zo;rw [←cl] at o6 ⊢;clear p6 x6 q5 cv E5;refine zG ?_;refine sF (α:=Nat×List (List UInt8)) (fun z=>[(1,jx aY lY cY),(2,kS (some ⟨3*n+2,0,none⟩)),(8,jx (some ⟨u,0,none⟩) (gP f) (gP f)),(11,jx (some ⟨y,0,none⟩) p.free p.free),(56,jx aF p.free cF),(57,jy .i64 (p.free:Int)),(58,jy .i64 (z.1:Int))])
  (fun z G D w'=>w'=[]∧n5+1≤D∧Ex0 (n+1) h1 G∧MW G D u f A (slM p l 0)∧OT G D y z.2∧gP z.2=p.free∧(∀t,t<z.1→z.2[t]?=some (ratT (slF p l 0 t)))∧z.1≤p.free)
  (fun z=>p.free-z.1) (0,pl p.free []) ⟨rfl,eT,E6,m6,o6,Ah,fun t H=>cA H (Bp _),eU⟩ ?_
 rintro ⟨j,B⟩ t h7 n7 _ ⟨rfl,y7,E7,m7,o7,l7,f7,hj⟩;have y7:n5+1≤n7:=y7;have o7:OT h7 n7 y B:=o7;have l7:gP B=p.free:=l7;have f7:∀t,t<j→B[t]?=some (ratT (slF p l 0 t)):=f7;have hj:j≤p.free:=hj;have q7:=(E7.e (3*n+2) zo).trans p1;have ax:Ex0 n h h7:=⟨fun c hc=>(E7.e c zo).trans (x1 c hc)⟩;clear E6 q6 m6 o6;refine zG ?_;by_cases qj:(j:Int)<(p.free:Int)
 ·obtain ⟨s,hs⟩:∃s,p.objFree[j]?=some s:=⟨_,k4 (by have:=o.ofl;omega)⟩;have cs:=o.ofs s (ns hs);have cr:slF p l 0 j= -numOf s:=by show -numOf ((p.objFree[j]?).getD [48])=_;rw [hs];rfl
  refine zG ?_;obtain ⟨b8,o8,e8,d3,r8,t8⟩:=yD (M.objFree.ext ax.e (show n≤n7 by omega)) hs;refine sI e8 r8 ?_;refine sL t8 d3 0 ?_;refine zG ?_;refine sC (negT _ (g.ext ax.e (show n≤n7 by omega)) (cs.t29 zd)).cx ?_;rintro _ h9 n9 rfl y9 x9;refine sI (j:=j) rfl zo ?_;refine sZn (n0:=n) (j:=j) (q:=ratT (-numOf s)) [kF ⟨⟨ratT (-numOf s)⟩⟩] (o7.xx strP.kp zx) strP.kp zo (show (0:Nat)+j*1=j*1 by omega) rfl zo ?_;intro an d7 bz;have bc:∀c,c<3*n7→c≠y→an c=h7 c:=fun c hc hn=>(bz.1 c hn).trans (x9 c hc);have cd:Tr n7 h7 n9 an:=Tr.s bz ⟨y9,fun c hc=>.inl (x9 c hc)⟩;have dq:=o7.1;clear x9;refine zG ?_;refine sK (j+1,B.set j (ratT (-numOf s))) ⟨rfl,zo,⟨fun c hc=>(bc c zo zo).trans (E7.e c hc)⟩,m7.go cd (fun c hc=>bc c (by rcases hc with rfl|hc;exact m7.r.1;exact m7.blt hc) (by rcases hc with rfl|hc;exact DN ar;exact fun e=>a7 (e▸hc))),d7,by rw [AY];exact l7,fun t H=>?_,by show j+1≤p.free;omega⟩;have H:t<j+1:=H;show (B.set j (ratT (-numOf s)))[t]?=_;rw [Cc];by_cases htj:j=t
  ·subst htj;rw [eN rfl,eN zo,cr]
  rw [cC htj];exact f7 t zo
 have cp:j=p.free:=zo;subst cp;refine zG ?_;have co:∀{q:Eqn} {t:Nat},q∈p.eqs→t<p.free→∃s,q.fr[t]?=some s∧wn 2 s:=fun {q t} hq H=>by
  have h1:=(o.eqo q hq).2.2.1;exact ⟨_,k4 zo,(o.eqo q hq).2.2.2.1 _ (FY _)⟩
 refine sF (α:=Nat×List (List UInt8)) (fun z=>[(1,jx aY lY cY),(8,jx (some ⟨u,0,none⟩) (gP f) (gP f)),(11,jx (some ⟨y,0,none⟩) p.free p.free),(70,jx aE (gP p.eqs) cE),(71,jy .i64 (gP p.eqs:Int)),(72,jy .i64 (z.1:Int))])
  (fun z G D w'=>w'=[]∧n7≤D∧Ex0 (n+1) h1 G∧MW G D u f A (slM p l z.1)∧OT G D y z.2∧gP z.2=p.free∧(∀t,t<p.free→z.2[t]?=some (ratT (slF p l z.1 t)))∧z.1≤gP p.eqs)
  (fun z=>gP p.eqs-z.1) (0,B) ⟨rfl,eT,E7,m7,o7,l7,f7,eU⟩ ?_
 rintro ⟨i,B⟩ t h8 I _ ⟨rfl,y8,E8,m8,o8,l8,f8,hi⟩;have y8:n7≤I:=y8;have m8:MW h8 I u f A (slM p l i):=m8;have o8:OT h8 I y B:=o8;have l8:gP B=p.free:=l8;have f8:∀t,t<p.free→B[t]?=some (ratT (slF p l i t)):=f8;have hi:i≤gP p.eqs:=hi;have bp:Ex0 n h h8:=⟨fun c hc=>(E8.e c zo).trans (x1 c hc)⟩;clear E7 q7 m7 o7 l7 f7 ax;refine zG ?_;by_cases qi:(i:Int)<(gP p.eqs:Int)
 ·obtain ⟨q,hq⟩:∃q,p.eqs[i]?=some q:=⟨_,k4 zo⟩;have bo:=ns hq;obtain ⟨s,hs⟩:∃s,Y[i]?=some s:=⟨_,k4 zo⟩;have ct:ratT (yq l i)=s:=by rw [ay,zoj hs];exact sV (c9 s (ns hs))
  subst ct;have bk:eqEs p i=q.es:=by unfold eqEs;rw [hq];rfl
  have a4:=o.ef i;rw [bk] at a4;have az:=b.z i;obtain ⟨ce,hE,ao⟩:=M.eqs;obtain ⟨ve,vf,ec,s1,s2⟩:=ao.get hq;obtain ⟨a1,l1,c1,rfl,dx⟩:=s1.len;obtain ⟨a2,l2,c2,rfl,dy⟩:=s2.len;have cw:l1=gP q.es:=s1.lenEq zo (xk _);have cy:l2=p.free:=by rw [xY s2];exact (o.eqo q bo).2.2.1
  subst cw cy;refine zG ?_;obtain ⟨b9,o9,e9,d5,r9,t9⟩:=uP (hE.ext bp.e (show n≤I by omega)) ec rfl zd;refine sI e9 r9 ?_;refine sL t9 d5 0 ?_;refine sA ?_;intro an db dg;refine zG ?_;refine sS [jx a1 (gP q.es) c1,jx a2 p.free c2,kF ⟨⟨q.rhs⟩⟩] ?_;intro T bw d8;have aa:Ext I h8 T:=(zx:Tx I h8 (I+1) T).2;have bt:=m8.ext aa zs;have am:Ex0 (n+1) h1 T:=⟨fun c hc=>(aa c zo).trans (E8.e c hc)⟩;have Z:Ex0 n h T:=⟨fun c hc=>(am.e c zo).trans (x1 c hc)⟩;have a9:OT T (I+1) y B:=o8.ext strP.kp aa zs;have bg:GG T (I+1):=g.ext Z.e zo;clear aa dg db d8;obtain ⟨dk,e0,cg,cb,dd,c4⟩:=yD (hY.ext Z.e (show n≤I+1 by omega)) hs;refine zG ?_;refine zm [0,0,2,0,0,24,56,127] rfl ?_;refine zH ?_;refine dI (j:=i) cg dd ?_;refine dL c4 cb 0 ?_;refine zH ?_;refine yM _ R7 (gY k bg bt ae ap (s1.ext Z.e (show n≤I+1 by omega)) (fun ad e=>fun hb=>by
   have h1:=s1.below;subst e;have h1:ad.block<3*n:=h1;have:=K _ hb;omega) zd (fun e he=>(show EntF f e from U▸a4.1 e he).d) (jd p l i) (by have:=a4.2;omega) (c:=yq l i) (az.mono zd) (fun P Q e k i' j=>(o.mz b (m:=i) zo (E:=P) (fun x hx=>a4.1 x (by rw [e];exact CE _ hx)) (by have:=a4.2;rw [e,nn] at this;omega) k i' j).mono zd)) ?_
  rintro _ ac ak e3 ⟨dh,ab,bb,aj,ca⟩;refine ⟨rfl,dh,?_⟩;rw [vW,z0 (fun c hc=>by have:=K c (ca c hc);omega)];rw [uC];have aj:MW ac ak u f A (slM p l (i+1)):=aj.as (fun k i' j=>by show slM p l i k i' j+yq l i*coL q.es k i' j=slM p l i k i' j+yq l i*coL (eqEs p i) k i' j;rw [bk]);have ba:Ex0 (n+1) h1 ac:=⟨fun c hc=>(ab c zo (fun hb=>by have:=K c hb;omega)).trans (am.e c hc)⟩;have dc:ac (3*I+2)=_:=(ab (3*I+2) zo (fun hb=>by have:=m8.blt hb;omega)).trans bw;have bv:OT ac ak y B:=a9.go strP.kp bb (ab y a9.1 a7);clear ab bb bt am Z a9 bg c4 bw;refine zG ?_;refine sF (α:=Nat×List (List UInt8)) (fun z=>[(1,jx aY lY cY),(8,jx (some ⟨u,0,none⟩) (gP f) (gP f)),(11,jx (some ⟨y,0,none⟩) p.free p.free),(14,jy .i64 (i:Int)),(70,jx aE (gP p.eqs) cE),(71,jy .i64 (gP p.eqs:Int)),(72,jy .i64 (i:Int)),(86,jx a2 p.free c2),(87,jy .i64 (p.free:Int)),(88,jy .i64 (z.1:Int))])
   (fun z G D w'=>w'=[]∧ak≤D∧Ex0 (n+1) h1 G∧MW G D u f A (slM p l (i+1))∧OT G D y z.2∧gP z.2=p.free∧(∀t,t<p.free→z.2[t]?=some (ratT (slF p l (if t<z.1 then i+1 else i) t)))∧z.1≤p.free)
   (fun z=>p.free-z.1) (0,B) ⟨rfl,eT,ba,aj,bv,l8,fun t H=>(by rw [cC (Bp t)];exact f8 t H),eU⟩ ?_
  rintro ⟨j,B⟩ t a3 O _ ⟨rfl,al,a0,W,J,V,R,hj⟩;have al:ak≤O:=al;have J:OT a3 O y B:=J;have V:gP B=p.free:=V;have R:∀t,t<p.free→B[t]?=some (ratT (slF p l (if t<j then i+1 else i) t)):=R;have hj:j≤p.free:=hj;have a8:Ex0 n h a3:=⟨fun c hc=>(a0.e c zo).trans (x1 c hc)⟩;clear ba aj bv dc;refine zG ?_;by_cases qj:(j:Int)<(p.free:Int)
  ·have af:j<p.free:=zo;obtain ⟨c0,hc,cn⟩:=co bo af;obtain ⟨x,bq,br,rfl⟩:=cn;have c7:numOf (eqFr p i j)=(x:Rat):=by
    unfold eqFr;rw [hq];show numOf ((q.fr[j]?).getD [48])=_;rw [hc];exact zn _
   have ah:slF p l (i+1) j=slF p l i j+yq l i*(x:Rat):=by
    show slF p l i j+yq l i*numOf (eqFr p i j)=_;rw [c7]
   have b7:∀S,S=slF p l (i+1) j→∀t,t<p.free→(B.set j (ratT S))[t]?=some (ratT (slF p l (if t<j+1 then i+1 else i) t)):=fun S hS t H=>by
    rw [Cc];by_cases htj:j=t
    ·subst htj;rw [eN rfl,eN zo,eN zo,hS]
    rw [cC htj,R t H];by_cases h3:t<j
    ·rw [eN h3,eN zo]
    rw [cC h3,cC zo]
   have ag:yq l i*(x:Rat)=0→∀t,t<p.free→B[t]?=some (ratT (slF p l (if t<j+1 then i+1 else i) t)):=fun h0 t H=>by
    rw [R t H];by_cases htj:t=j
    ·subst htj;rw [cC (BK _),eN (Dt _),ah,h0,A2]
    by_cases h3:t<j
    ·rw [eN h3,eN zo]
    rw [cC h3,cC zo]
   refine zG ?_;obtain ⟨dl,e1,ch,cc,de,df⟩:=yD (s2.ext a8.e (show n≤O by omega)) hc;refine sI ch de ?_;refine sL df cc 0 ?_;refine zG ?_;refine sQn (decide ((x:Rat)=0)) (sO _) ?_;by_cases hx0:(x:Rat)=0
   ·rw [bO hx0];refine zG ?_;exact sK (j+1,B) ⟨rfl,al,a0,W,J,V,ag (by rw [hx0,Br]),by show j+1≤p.free;omega⟩
   rw [aD hx0];obtain ⟨dm,e2,be,b0,bx,c5⟩:=yD (hY.ext a8.e (show n≤O by omega)) hs;refine zG ?_;refine sI be bx ?_;refine sL c5 b0 0 ?_;refine sQn (decide (yq l i=0)) (sO _) ?_;by_cases hy0:yq l i=0
   ·rw [bO hy0];refine zG ?_;exact sK (j+1,B) ⟨rfl,al,a0,W,J,V,ag (by rw [hy0,Cg]),by show j+1≤p.free;omega⟩
   rw [aD hy0];refine zG ?_;have hf:=R j af;rw [cC (BK _)] at hf;obtain ⟨cS,fS,lS,tS⟩:=J.get hf (off:=0+j*1) zo;have fS:cS=[kF ⟨⟨ratT (slF p l i j)⟩⟩]:=fS;subst fS;have bh:GG a3 O:=g.ext a8.e zo;refine zm [0,0,0,0,12,28,0,0,192,448,0,1984,4092,8191,16383] rfl ?_;refine zH ?_;refine dI (j:=j) rfl af ?_;refine dL tS J.1 0 ?_;refine zH ?_;refine dI (j:=i) be bx ?_;refine dL c5 b0 0 ?_;refine zH ?_;refine dC (mulR _ (bh.x zx) az (tF ⟨bq,br⟩) zo zo zo).cx ?_;rintro _ dn dz rfl e6 b1;refine dC (addR _ (bh.x zx) (o.fz b (m:=i) zo j) (az.mul (tF ⟨bq,br⟩)) zo zo zo (z:=slF p l (i+1) j) ah.symm (o.fz b (m:=i+1) zo j) zo).cx ?_;rintro _ dp d6 rfl e7 b6;refine dI (j:=j) rfl af ?_;refine dZn (n0:=n) (j:=j) (q:=ratT (slF p l (i+1) j)) [kF ⟨⟨ratT (slF p l (i+1) j)⟩⟩] (J.xx strP.kp zx) strP.kp zo (show (0:Nat)+j*1=j*1 by omega) rfl zo ?_;intro bi d9 c3;have bd:∀c,c<3*O→c≠y→bi c=a3 c:=fun c hc hn=>(c3.1 c hn).trans ((b6 c zo).trans (b1 c hc));have cf:Tr O a3 d6 bi:=Tr.s c3 ⟨zo,fun c hc=>.inl ((b6 c zo).trans (b1 c hc))⟩;have di:=J.1;clear b1 b6;refine zG ?_;exact sK (j+1,B.set j (ratT (slF p l (i+1) j))) ⟨rfl,zo,⟨fun c hc=>(bd c zo zo).trans (a0.e c hc)⟩,W.go cf (fun c hc=>bd c (by rcases hc with rfl|hc;exact W.r.1;exact W.blt hc) (by rcases hc with rfl|hc;exact DN ar;exact fun e=>a7 (e▸hc))),d9,by rw [AY];exact V,b7 _ rfl,by show j+1≤p.free;omega⟩
  refine zG ?_;exact sK (i+1,B) ⟨rfl,zo,a0,W,J,V,fun t H=>(by rw [R t H,eN zo]),by show i+1≤gP p.eqs;omega⟩
 have bn:i=gP p.eqs:=zo;refine zG ?_;have X8:Ext n h h8:=bp.e;have ea:n≤I:=zo;refine zq ?_;rw [←ay];refine ⟨u,A,y,rfl,bn▸m8,o8.as ?_⟩;refine Bn fun t=>?_;by_cases H:t<p.free
 ·rw [f8 t H,sr,AL H,bn];rfl
 rw [Ad zo,Ad (by rw [oo,Aj];omega)]
end
def zq6 (p:Sdp)(ys:List Rat):Prop:=(∀t,t<p.free→slF p ys (gP p.eqs) t=0)∧∀k N,(dimN p)[k]?=some N→psdA N N 0 (slM p ys (gP p.eqs) k)
section
variable {p:Sdp}
theorem zjj (k:Nat)(g:GG h n)(hF:F≤100)(M:SdpR h n (jx aB lB cB) (jx aO lO cO) (jx aF lF cF) (jx aE lE cE) p)(u:BR≤131072)(d:SdpW F p BR)(J:Sl h n 1 (jx aY lY cY) (strs Y))(f:∀s∈Y,TxF 12 108 s)(K:gP Y=gP p.eqs):
  VF (cal (k+12)) 14 [.agg #[jx aB lB cB,jy .i64 (p.free:Int),jx aO lO cO,jx aF lF cF,jx aE lE cE],jx aY lY cY] h n fun v=>v=.tuple #[kF ⟨⟨ratT (slV p (Y.map numOf) (gP p.eqs))⟩⟩,jy .i64 0]:=by
 have ad:=xY J;have ac:=d.eql;have a0:lE=gP p.eqs:=by
  obtain ⟨ce,I,w⟩:=M.eqs;exact I.lenEq zo w.len
 subst a0;refine zI (fn:=Tryz.f14) R4 ?_;refine zG ?_;refine sB [jx aB lB cB,jy .i64 (p.free:Int),jx aO lO cO,jx aF lF cF,jx aE (gP p.eqs) cE] ?_;intro h1 p1 x1;refine zG ?_;refine sC (kQ (k+2) (g.x (zx:Tx n h (n+1) h1)) hF (M.ext0 x1 zo) u d (J.ext x1 zo) f K).cx ?_;rintro _ h2 n2 rfl y2 x2;have L:∀s∈Y,xy s:=fun s hs=>((f s hs).len zd).2;have b:YB (Y.map numOf):=YB.of f;obtain ⟨a,y⟩:∃a,a=Y.map numOf:=⟨_,rfl⟩;rw [←y] at b;have e0:slV p a 0=0:=rfl;refine zG ?_;rw [show ([48]:List UInt8)=ratT (slV p a 0) from rfl];have E2:Ex0 n h h2:=⟨(zx:Tx n h n2 h2).2⟩;refine sF (α:=Nat) (fun z=>[(1,jx aY lY cY),(7,kF ⟨⟨ratT (slV p a z)⟩⟩),(17,jx aE (gP p.eqs) cE),(18,jy .i64 (gP p.eqs:Int)),(19,jy .i64 (z:Int))])
  (fun z h' n' w'=>w'=[]∧n+1≤n'∧Ex0 n h h'∧z≤gP p.eqs) (fun z=>gP p.eqs-z) 0 ⟨rfl,y2,E2,eU⟩ ?_
 rintro i t H B _ ⟨rfl,y8,R,hi⟩;have hi:i≤gP p.eqs:=hi;have y8:n+1≤B:=y8;refine zG ?_;by_cases qi:(i:Int)<(gP p.eqs:Int)
 ·obtain ⟨q,N⟩:∃q,p.eqs[i]?=some q:=⟨_,k4 zo⟩;have V:=ns N;obtain ⟨s,hs⟩:∃s,Y[i]?=some s:=⟨_,k4 zo⟩;have Z:ratT (yq a i)=s:=by rw [y,zoj hs];exact sV (L s (ns hs))
  subst Z;have G:=b.z i;obtain ⟨x,D,O⟩:=(d.eqo q V).2.2.2.2;have W:numOf (eqRh p i)=x:=by
   unfold eqRh;rw [N];show numOf q.rhs=_;rw [D];exact zn _
  have A:slV p a i+yq a i*x=slV p a (i+1):=by
   show _=slV p a i+yq a i*numOf (eqRh p i);rw [W]
  have sx:Sz 20 x:=O.sz zd zd zo;obtain ⟨ce,I,w⟩:=M.eqs;obtain ⟨ve,vf,T,s1,s2⟩:=w.get N;obtain ⟨a1,l1,c1,rfl,ae⟩:=s1.len;obtain ⟨a2,l2,c2,rfl,af⟩:=s2.len;rw [D] at T;refine zG ?_;obtain ⟨b9,o9,e9,a3,r9,t9⟩:=uP (I.ext R.e (show n≤B by omega)) T rfl zd;refine sI e9 r9 ?_;refine sL t9 a3 0 ?_;refine sA ?_;intro a9 ak am;refine zG ?_;refine sS [jx a1 l1 c1,jx a2 l2 c2,kF ⟨⟨ratT x⟩⟩] ?_;intro o al ai;have l:Ex0 n h o:=⟨fun c hc=>(show o c=H c by
   have e0:H c=H c:=rfl;exact zp).trans (R.e c hc)⟩
  obtain ⟨a8,aj,S,P,a4,a5⟩:=yD (J.ext l.e (show n≤B+1 by omega)) hs;have C:GG o (B+1):=g.ext l.e zo;refine zG ?_;refine zm [0,0,0,6,14,0,32,126,255,511] rfl ?_;refine zH ?_;refine dI (j:=i) S a4 ?_;refine dL a5 P 0 ?_;refine zH ?_;refine dC (mulR _ (C.x zx) G sx zo zo zo).cx ?_;rintro _ aa ag rfl an a6;refine dC (addR _ (C.x zx) (d.vz u b (m:=i) zo) (G.mul sx) zo zo zo (z:=slV p a (i+1)) A (d.vz u b (m:=i+1) zo) zo).cx ?_;rintro _ ab ah rfl ao a7;refine zH ?_;refine zG ?_;exact sK (i+1) ⟨rfl,zo,⟨fun c hc=>(a7 c zo).trans ((a6 c zo).trans (l.e c hc))⟩,by show i+1≤gP p.eqs;omega⟩
 have U:i=gP p.eqs:=zo;refine Zq ?_;rw [←y];exact U▸rfl
theorem zf1 (k:Nat)(g:GG h n)(S:F≤100)(W:SdpR h n (jx aB lB cB) (jx aO lO cO) (jx aF lF cF) (jx aE lE cE) p)(C:BR≤131072)(c:SdpW F p BR)(T:Sl h n 1 (jx aY lY cY) (strs Y))(a:∀s∈Y,TxF 12 108 s)(q:gP Y=gP p.eqs)(m:∀{B:List Nat},MOk 4 1 8 (mds (dimN p) B) (slM p (Y.map numOf) (gP p.eqs))):
  VF (cal (k+18)) 15 [.agg #[jx aB lB cB,jy .i64 (p.free:Int),jx aO lO cO,jx aF lF cF,jx aE lE cE],jx aY lY cY] h n fun v=>∃f,v=.tuple #[kz f,jy .i64 0]∧(f=true↔zq6 p (Y.map numOf)):=by
 have a0:=c.eql;have a1:=c.free;refine zI (fn:=Tryz.f15) R4 ?_;refine zG ?_;refine sB [jx aB lB cB,jy .i64 (p.free:Int),jx aO lO cO,jx aF lF cF,jx aE lE cE] ?_;intro o p1 L;refine zG ?_;refine sC (zo3 (k+2) (g.x (zx:Tx n h (n+1) o)) S (W.ext0 L zo) C c (T.ext L zo) a q) ?_;rintro _ P n2 ⟨bm,B,bf,rfl,e,K⟩ y2 x2;have V:∀s∈Y,xy s:=fun s u=>((a s u).len zd).2;have b:YB (Y.map numOf):=YB.of a;obtain ⟨i,J⟩:∃i,i=Y.map numOf:=⟨_,rfl⟩;rw [←J] at b e K m ⊢;have j:(∀s∈(AC p.free).map fun t=>ratT (slF p i (gP p.eqs) t),s=[48])↔∀t,t<p.free→slF p i (gP p.eqs) t=0:=by
  constructor
  ·intro h t w;have:=h _ (Ay.2 ⟨t,Cf.2 w,rfl⟩);exact uU (this.trans wf.symm)
  intro h s u;obtain ⟨t,w,rfl⟩:=Ay.1 u;rw [h t (Cf.1 w)];exact wf
 refine zG ?_;refine sC (za0 _ (OT.sl K (len:=p.free) (cap:=p.free) (by rw [oo,Aj]) eT) (by rw [oo,Aj];omega)).cx ?_;rintro _ R Z ⟨b3,rfl,H⟩ y3 x3;rcases bvs H with ⟨rfl,A⟩|⟨rfl,A⟩
 ·refine Zq ?_;exact ⟨false,rfl,fun h=>(by cases h),fun h=>cA (j.2 h.1) A⟩
 refine zG ?_;have I:gP (dimN p)<1000000:=by unfold dimN;rw [oo];have:=c.bl;omega
 have O:GG R Z:=g.x zx;refine sC (zpa k O ((e.ext x3 y3).ms rfl eT) m (by rw [rP e.l];exact I)).cx ?_;rintro _ h4 n4 ⟨f,rfl,U⟩ y4 x4;refine Zq ?_;refine ⟨f,rfl,U.trans ⟨fun h=>⟨j.1 A,fun y N D=>?_⟩,fun h y d hd=>?_⟩⟩
 ·obtain ⟨M,G,_⟩:=e.bget D;exact h y _ (zer D G)
 obtain ⟨N,M,o,P,rfl⟩:=mo hd;exact h.2 y N o
end
theorem zrv (k:Nat){p:Sdp}{F least:Nat}{aB aO aF aE:Option Addr}{lB cB lO cO lF cF lE cE:Nat}{aY:Option Addr}{lY cY:Nat}{f:List Rat}(hF:F≤100)(hp:SdpR h n (jx aB lB cB) (jx aO lO cO) (jx aF lF cF) (jx aE lE cE) p)(D:SdpOk F least p)(iy:NS h n (jx aY lY cY) f)(et:gP f=gP p.eqs)(b:YB f):
  CX (cal (k+9)) 25 [.agg #[jx aB lB cB,jy .i64 (p.free:Int),jx aO lO cO,jx aF lF cF,jx aE lE cE],jx aY lY cY] h n fun v I T=>∃G u g o s a l c s2 a2 l2 c2,v=.tuple #[jx (some ⟨G,0,none⟩) (gP (dimN p)) (gP (dimN p)),jx (some ⟨o,0,none⟩) p.free p.free,.agg #[kz s,jx a l c,kz s2,jx a2 l2 c2]]∧RMs I T G (dimN p) u g (cmM p f (gP p.eqs))∧OR 4 numP I T o ((AC p.free).map (cmF p f (gP p.eqs)))∧UI I T s a l c (slV p f (gP p.eqs)).num∧UI I T s2 a2 l2 c2 (denZ (slV p f (gP p.eqs)))∧(∀x,x=G∨x∈u∨yR g x→3*n≤x)∧3*n≤o∧o≠G∧o∉u∧¬yR g o:=by
 have ed:=iy.len;have ey:=D.bl;have f0:=D.free;have ez:=D.eql;have cf:gP (dimN p)=gP p.blocks:=by unfold dimN;rw [oo]
 have e8:lB=gP (dimN p):=by rw [cf];exact hp.blocks.lenEq zo (by unfold i64s;rw [oo,AO])
 have eb:lF=p.free:=by rw [xY hp.objFree];exact D.ofl
 have ea:lE=gP p.eqs:=by
  obtain ⟨ce,hE,bm⟩:=hp.eqs;exact hE.lenEq zo bm.len
 subst e8 eb ea ed;obtain ⟨A,af⟩:∃A,A=dimN p:=⟨_,rfl⟩;have cc:∀N∈A,1≤N∧N≤3:=fun N hN=>by
  rw [af] at hN;obtain ⟨d,hd,rfl⟩:=Ay.1 hN;have:=D.b3 d hd;omega
 have dv:∀{j N:Nat},A[j]?=some N→p.blocks[j]?=some (N:Int):=fun {j N} hj=>by
  rw [af] at hj;unfold dimN at hj;rw [sr] at hj;cases hb:p.blocks[j]? with
  |none=>rw [hb] at hj;cases hj
  |some d=>
   rw [hb] at hj;have:=D.b3 d (ns hb);have hj:d.toNat=N:=A0 hj;rw [show (N:Int)=d by omega]
 rw [←af];rw [←af] at cf hp;have d1:ones [jx aB (gP A) cB,jy .i64 (p.free:Int),jx aO lO cO,jx aF p.free cF,jx aE (gP p.eqs) cE]=true:=rfl;refine zu (fn:=Tryz.f25) R4 ?_;refine zG ?_;refine sB [jx aB (gP A) cB,jy .i64 (p.free:Int),jx aO lO cO,jx aF p.free cF,jx aE (gP p.eqs) cE] ?_;intro h1 p1 x1;refine Zh ?_;intro h2 p2 x2;refine zG ?_;obtain ⟨z2,q2⟩:∃e,h2 (3*n+2)=some (.row [jx aB (gP A) cB,jy .i64 (p.free:Int),jx aO lO cO,jx aF p.free cF,jx aE (gP p.eqs) cE] e):=⟨_,zp⟩;have ap:Ext n h h2:=(zx:Tx n h (n+1+1) h2).2;have ch:=hp.ext0 ap (show n≤n+1+1 by omega);refine sC (zoi (k+6) (Ns:=A) ch.blocks dv cc zo ⟨rfl,rfl,rfl⟩ d1) ?_;rintro _ h3 n3 ⟨G,u,g,rfl,m3,f3⟩ y3 x3;refine zG ?_;refine sMk (L:=p.free) [kz false,jx none 0 0,kz false,jx none 0 0] ?_ zo;intro h4 p4 x4;have o4:OR 4 numP h4 (n3+1) (3*n3+2) (pl p.free 0):=OR.fill zo p4 numP.kp ⟨_,_,_,_,_,_,_,_,rfl,UI.zero _ _,UI.zero _ _⟩;obtain ⟨o,cd⟩:∃b,b=3*n3+2:=⟨_,rfl⟩;rw [←cd] at o4 ⊢;refine Zh ?_;intro h5 p5 x5;have m5:RMs h5 (n3+1+1) G A u g (fun _ _ _=>0):=m3.ext (fun c hc=>(x5 c zo).trans (x4 c hc)) zo;have o5:OR 4 numP h5 (n3+1+1) o (pl p.free 0):=o4.ext numP.kp x5 zs;obtain ⟨M,bo⟩:∃b,b=3*(n3+1)+2:=⟨_,rfl⟩;have r5:Box4 h5 (n3+1+1) M 0:=⟨zo,_,_,_,_,_,_,_,_,_,bo▸p5,UI.zero _ _,UI.zero _ _⟩;have X5:Ext (n+1+1) h2 h5:=fun c hc=>(x5 c zo).trans ((x4 c zo).trans (x3 c hc));have E5:Ex0 n h h5:=⟨fun c hc=>(X5 c zo).trans (ap c hc)⟩;have Q5:h5 (3*n+2)=_:=(X5 _ zo).trans q2;obtain ⟨zRx,Z5⟩:∃e,h5 (3*(n+1)+2)=some (.row [kz false,jx none 0 0,kz false,jx none 0 0] e):=⟨_,(X5 _ zo).trans p2⟩;rw [←bo];have Y:∀c,c=G∨c∈u∨yR g c→c<3*n3:=fun c hc=>by
  rcases hc with rfl|hc|hc
  ·exact m3.s.1
  ·exact m3.tlt hc
  exact m3.rlt hc
 have cb:o≠G∧o∉u∧¬yR g o:=⟨fun e=>by have:=Y _ (.inl e);omega,fun e=>by have:=Y _ (.inr (.inl e));omega,fun e=>by have:=Y _ (.inr (.inr e));omega⟩;have dw:∀c,c=G∨c∈u∨yR g c→c≠M:=fun c hc=>by have:=Y c hc;omega
 have er:3*n3≤o∧o<3*(n3+1):=zo;have cy:3*(n3+1)≤M∧M<3*(n3+1+1):=zo;have f6:n+1+1≤n3:=y3;have ca:∀x,x=G∨x∈u∨yR g x→3*(n+1+1)≤x:=f3;have ax:∀x,yR g x→3*(n+1+1)≤x:=fun x hx=>f3 x (.inr (.inr hx));obtain ⟨lo,dy⟩:∃lo,lo=n3+1+1:=⟨_,rfl⟩;rw [←dy] at o5 r5 m5 cy ⊢;clear x1 x2 x3 x4 x5 p1 p2 p4 p5 q2 ch m3 o4 X5 ap bo cd f3;have e0:slV p f 0=0:=rfl;refine zG ?_;refine sF (α:=Nat×List Rat) (fun z=>[(1,jx aY (gP f) cY),(2,kS (some ⟨3*n+2,0,none⟩)),(6,kS (some ⟨3*(n+1)+2,0,none⟩)),(7,jx (some ⟨G,0,none⟩) (gP A) (gP A)),(8,jx (some ⟨o,0,none⟩) p.free p.free),(9,kS (some ⟨M,0,none⟩)),(19,jx aE (gP p.eqs) cE),(20,jy .i64 (gP p.eqs:Int)),(21,jy .i64 (z.1:Int))])
  (fun z I T w'=>w'=[]∧lo≤T∧Ex0 n h I∧I (3*n+2)=some (.row [jx aB (gP A) cB,jy .i64 (p.free:Int),jx aO lO cO,jx aF p.free cF,jx aE (gP p.eqs) cE] z2)∧I (3*(n+1)+2)=some (.row [kz false,jx none 0 0,kz false,jx none 0 0] zRx)∧RMs I T G A u g (cmM p f z.1)∧OR 4 numP I T o z.2∧gP z.2=p.free∧(∀t,t<p.free→z.2[t]?=some (cmF p f z.1 t))∧Box4 I T M (slV p f z.1)∧z.1≤gP p.eqs)
  (fun z=>gP p.eqs-z.1) (0,pl p.free 0) ⟨rfl,eT,E5,Q5,Z5,m5.as (fun _ _ _=>rfl),o5,Ah,fun t ht=>(by rw [List.getElem?_replicate,eN ht];rfl),r5,eU⟩ ?_
 rintro ⟨i,U⟩ t h8 J _ ⟨rfl,y8,E8,q8,z8,m8,o8,l8,f8,r8,hi⟩;have y8:lo≤J:=y8;have o8:OR 4 numP h8 J o U:=o8;have l8:gP U=p.free:=l8;have f8:∀t,t<p.free→U[t]?=some (cmF p f i t):=f8;have m8:RMs h8 J G A u g (cmM p f i):=m8;have r8:Box4 h8 J M (slV p f i):=r8;have hi:i≤gP p.eqs:=hi;clear m5 o5 r5 E5 Q5 Z5;refine zG ?_;by_cases qi:(i:Int)<(gP p.eqs:Int)
 ·obtain ⟨q,hq⟩:∃q,p.eqs[i]?=some q:=⟨_,k4 zo⟩;have b1:=ns hq;obtain ⟨y,hy⟩:∃y,f[i]?=some y:=⟨_,k4 zo⟩;have ag:yq f i=y:=by unfold yq;rw [hy];rfl
  have a7:=b.z i;rw [ag] at a7;have a6:=D.w.ef i;have cg:eqEs p i=q.es:=by unfold eqEs;rw [hq];rfl
  rw [cg] at a6;obtain ⟨xr,f1,f2,bp⟩:=(D.eqo q b1).2.2.2.2;have dz:numOf (eqRh p i)=(xr:Rat):=by
   unfold eqRh;rw [hq];show numOf q.rhs=_;rw [bp];exact zn _
  have ci:gP q.rhs<11:=by
   rw [bp];refine wg ⟨?_,?_⟩
   ·rw [CZ];show xr.natAbs<2^8;exact zp0 3 8 zo zd
   rw [DI];exact zp0 1 8 zd zd
  have cw:Sz 3 (xr:Rat):=by
   refine ⟨?_,?_⟩
   ·rw [CZ];show xr.natAbs<8;omega
   rw [DI];decide
  obtain ⟨ce,hE,bm⟩:=hp.eqs;obtain ⟨ve,vf,ec,s1,s2⟩:=bm.get hq;obtain ⟨a1,l1,c1,rfl,cj⟩:=s1.len;obtain ⟨a2,l2,c2,rfl,ck⟩:=s2.len;have cj:l1=gP q.es:=s1.lenEq (by have:=a6.2;omega) (xk _);have ck:l2=p.free:=by rw [xY s2];exact (D.eqo q b1).2.2.1
  subst cj ck;refine zG ?_;obtain ⟨b9,o9,e9,ee,r9,t9⟩:=uP (hE.ext E8.e (show n≤J by omega)) ec rfl zd;refine sI e9 r9 ?_;refine sL t9 ee 0 ?_;refine sA ?_;intro ew ej eo;refine zG ?_;refine sS [jx a1 (gP q.es) c1,jx a2 p.free c2,kF ⟨⟨q.rhs⟩⟩] ?_;intro ay cp ei;have a3:Ext J h8 ay:=(zx:Tx J h8 (J+1) ay).2;have cl:=m8.ext a3 zs;have av:Ex0 n h ay:=⟨fun c hc=>(a3 c zo).trans (E8.e c hc)⟩;have au:OR 4 numP ay (J+1) o U:=o8.ext numP.kp a3 zs;have c3:=r8.ext a3 zs;have cs:=(a3 _ zo).trans q8;have z11:=(a3 _ zo).trans z8;clear a3 eo ej ei;obtain ⟨e4,em,d9,d6,e5,dc,df,di,dn,en,aa,b4,b6,am,a8,a9⟩:=NS.at (iy.ext av.e (show n≤J+1 by omega)) hy;refine zG ?_;refine zm [0,0,0,6,14,0,32,127] rfl ?_;refine zH ?_;refine dI (j:=i) aa b6 ?_;refine dL am b4 0 ?_;refine zH ?_;refine yM _ R7 (zka (k+0) cl a8 a9 cc (s1.ext av.e (show n≤J+1 by omega)) (fun ad e hb=>by
   have h1:=s1.below;subst e;have h1:ad.block<3*n:=h1;have:=ax _ hb;omega) (fun e he=>af▸a6.1 e he) (by have:=a6.2;omega) (a7.mono zd) (fun P Q e k' i' j'=>by
    have:=D.w.cz b (m:=i) zo (E:=P) (fun x hx=>a6.1 x (by rw [e];exact CE _ hx)) (by have:=a6.2;rw [e,nn] at this;omega) k' i' j';rw [ag] at this;exact this.mono zd)) ?_
  rintro _ ae al f5 ⟨ep,a4,ab,b5,d2⟩;refine ⟨rfl,ep,?_⟩;rw [vW,z0 (fun c hc=>by have:=ax c (d2 c hc);omega)];rw [uC];have b5:RMs ae al G A u g (cmM p f (i+1)):=b5.as (fun k' i' j'=>by show cmM p f i k' i' j'+y*coL q.es k' i' j'=cmM p f i k' i' j'+yq f i*coL (eqEs p i) k' i' j';rw [cg,ag]);have c9:Ex0 n h ae:=⟨fun c hc=>(a4 c zo (fun hb=>by have:=ax c hb;omega)).trans (av.e c hc)⟩;have nr:∀c,c<3*(n+1+1)→¬yR g c:=fun c hc hb=>by have:=ax c hb;omega
  have cn:∀c,3*n3≤c→¬yR g c:=fun c hc hb=>by have:=Y c (.inr (.inr hb));omega
  have ct:=(a4 _ zo (nr _ zo)).trans cs;have z13:=(a4 _ zo (nr _ zo)).trans z11;have bx:ae (3*J+2)=_:=(a4 (3*J+2) zo (cn _ zo)).trans cp;have co:OR 4 numP ae al o U:=au.go numP.kp ab (a4 o au.1 cb.2.2);have cv:Box4 ae al M (slV p f i):=c3.go ab (a4 M c3.1 (cn _ zo));have e2:=a8.t ab;have e3:=a9.t ab;clear a4 ab cl av au c3 am cp cs z11 a8 a9;refine zG ?_;refine sF (α:=Nat×List Rat) (fun z=>[(1,jx aY (gP f) cY),(2,kS (some ⟨3*n+2,0,none⟩)),(6,kS (some ⟨3*(n+1)+2,0,none⟩)),(7,jx (some ⟨G,0,none⟩) (gP A) (gP A)),(8,jx (some ⟨o,0,none⟩) p.free p.free),(9,kS (some ⟨M,0,none⟩)),(10,jy .i64 (i:Int)),(11,kS (some ⟨3*J+2,0,none⟩)),(19,jx aE (gP p.eqs) cE),(20,jy .i64 (gP p.eqs:Int)),(21,jy .i64 (i:Int)),(35,jy .i64 (p.free:Int)),(36,jy .i64 (z.1:Int))])
   (fun z I T w'=>w'=[]∧al≤T∧Ex0 n h I∧I (3*n+2)=some (.row [jx aB (gP A) cB,jy .i64 (p.free:Int),jx aO lO cO,jx aF p.free cF,jx aE (gP p.eqs) cE] z2)∧I (3*(n+1)+2)=some (.row [kz false,jx none 0 0,kz false,jx none 0 0] zRx)∧RMs I T G A u g (cmM p f (i+1))∧OR 4 numP I T o z.2∧gP z.2=p.free∧(∀t,t<p.free→z.2[t]?=some (cmF p f (if t<z.1 then i+1 else i) t))∧Box4 I T M (slV p f i)∧(∃e,I (3*J+2)=some (.row [jx a1 (gP q.es) c1,jx a2 p.free c2,kF ⟨⟨q.rhs⟩⟩] e))∧z.1≤p.free)
   (fun z=>p.free-z.1) (0,U) ⟨rfl,eT,c9,ct,z13,b5,co,l8,fun t ht=>(by rw [cC (Bp t)];exact f8 t ht),cv,⟨_,bx⟩,eU⟩ ?_
  rintro ⟨j,U⟩ t a5 R _ ⟨rfl,cx,aw,cu,z14,cm,a0,b2,ac,c4,⟨ev,d4⟩,hj⟩;have cx:al≤R:=cx;have a0:OR 4 numP a5 R o U:=a0;have b2:gP U=p.free:=b2;have ac:∀t,t<p.free→U[t]?=some (cmF p f (if t<j then i+1 else i) t):=ac;have hj:j≤p.free:=hj;clear c9 b5 co ct z13 cv bx e2 e3;obtain ⟨e4,em,d9,d6,e5,dc,df,di,dn,en,aa,b4,b6,am,a8,a9⟩:=NS.at (iy.ext aw.e (show n≤R by omega)) hy;refine zG ?_;by_cases qj:(j:Int)<(p.free:Int)
  ·have b0:j<p.free:=zo;obtain ⟨c0,hc⟩:∃c0,q.fr[j]?=some c0:=⟨_,k4 (by have:=(D.eqo q b1).2.2.1;omega)⟩;obtain ⟨x,aq,ar,rfl⟩:=(D.eqo q b1).2.2.2.1 c0 (ns hc);have d0:numOf (eqFr p i j)=(x:Rat):=by
    unfold eqFr;rw [hq];show numOf ((q.fr[j]?).getD [48])=_;rw [hc];exact zn _
   have c8:cmF p f (i+1) j=cmF p f i j+y*(x:Rat):=by
    show cmF p f i j+yq f i*numOf (eqFr p i j)=_;rw [d0,ag]
   have hf:=ac j b0;rw [cC (BK _)] at hf;obtain ⟨cS,⟨c6,b8,bs,bd,c7,bb,bu,bf,rfl,iS,jS⟩,lS,tS⟩:=a0.get hf (off:=0+j*4) zo;obtain ⟨eu,f4,dj,d3,ek,el⟩:=yD (s2.ext aw.e (show n≤R by omega)) hc;refine zG ?_;refine zm [0,0,0,0,12,28,0,0,192,448,0,1024,0,7168,15360,31744,65472,131068,262143,524287] rfl ?_;refine zH ?_;refine dI (j:=j) (len:=p.free) rfl b0 ?_;refine dL tS a0.1 0 ?_;refine zH ?_;refine dI (j:=i) aa b6 ?_;refine dL am b4 0 ?_;refine zH ?_;refine dI (j:=j) dj ek ?_;refine dL el d3 0 ?_;refine zH ?_;refine dC (numU _ _ _ (ratT (x:Rat)) (tv (wg ((tF ⟨aq,ar⟩).mono zd)) zd)) ?_;rintro _ dt eg ⟨da,d7,e6,dd,dg,dl,dp,dr,rfl,ah,aj⟩ W H;rw [zn] at ah aj;refine dC (iL _ (a8.x ⟨W,H⟩) (a9.x ⟨W,H⟩) ah aj a7 (tF ⟨aq,ar⟩) zo) ?_;rintro _ du eh ⟨db,d8,e7,de,dh,dm,dq,ds,rfl,bq,br⟩ ao V;refine dC (mb _ ((iS.x ⟨W,H⟩).x ⟨ao,V⟩) ((jS.x ⟨W,H⟩).x ⟨ao,V⟩) bq br (D.w.nz b (m:=i) zo j) (a7.mul (tF ⟨aq,ar⟩)) zo) ?_;rintro _ bk Z ⟨bc,ba,bt,be,bg,bh,bi,bj,rfl,ai,ak⟩ eq an;rw [←c8] at ai ak;have S:Ext R a5 bk:=fun c hc=>(an c zo).trans ((V c zo).trans (H c hc));refine dI (j:=j) (len:=p.free) rfl b0 ?_;refine dZn (n0:=n) (j:=j) (q:=cmF p f (i+1) j) [kz bc,jx ba bt be,kz bg,jx bh bi bj] (a0.ext numP.kp S zo) numP.kp zo (show (0:Nat)+j*4=j*4 by omega) ⟨_,_,_,_,_,_,_,_,rfl,ai,ak⟩ zo ?_;intro C bw O;have B:∀c,c<3*R→c≠o→C c=a5 c:=fun c hc hn=>(O.1 c hn).trans (S c hc);have K:Tr R a5 Z C:=Tr.s O ⟨zo,fun c hc=>.inl (S c hc)⟩;have bn:=a0.1;have bv:RMs C Z G A u g (cmM p f (i+1)):=cm.go K (fun c hc=>B c (by have:=Y c hc;omega) (fun e=>by have:=Y c hc;omega));have c5:Box4 C Z M (slV p f i):=c4.go K (B M c4.1 zo);have b7:Ex0 n h C:=⟨fun c hc=>(B c zo zo).trans (aw.e c hc)⟩;have bz:=(B _ zo zo).trans cu;have z20:=(B _ zo zo).trans z14;have d5:=(B (3*J+2) zo zo).trans d4;clear H V an S B K;refine zG ?_;exact sK (j+1,U.set j (cmF p f (i+1) j)) ⟨rfl,zo,b7,bz,z20,bv,bw,by rw [AY];exact b2,fun t ht=>by
    show (U.set j (cmF p f (i+1) j))[t]?=_;rw [Cc];by_cases htj:j=t
    ·subst htj;rw [eN rfl,eN zo,eN (Dt _)]
    ·rw [cC htj,ac t ht];by_cases h3:t<j
     ·rw [eN h3,eN zo]
     ·rw [cC h3,cC zo],c5,⟨_,d5⟩,by show j+1≤p.free;omega⟩
  have b0:j=p.free:=zo;obtain ⟨az,c6,b8,bs,bd,c7,bb,bu,bf,dk,cq,iR,jR⟩:=c4;have e1:slV p f (i+1)=slV p f i+y*(xr:Rat):=by
   show slV p f i+yq f i*numOf (eqRh p i)=_;rw [dz,ag]
  refine zG ?_;refine zm [0,0,0,6,14,0,32,96,254,511,1023] rfl ?_;refine zH ?_;refine dI (j:=i) aa b6 ?_;refine dL am b4 0 ?_;refine zH ?_;refine dC (numU _ _ _ q.rhs zo) ?_;rintro _ dt eg ⟨da,d7,e6,dd,dg,dl,dp,dr,rfl,ah,aj⟩ W H;rw [bp,zn] at ah aj;refine dC (iL _ (a8.x ⟨W,H⟩) (a9.x ⟨W,H⟩) ah aj a7 cw zo) ?_;rintro _ du eh ⟨db,d8,e7,de,dh,dm,dq,ds,rfl,bq,br⟩ ao V;refine dC (mb _ ((iR.x ⟨W,H⟩).x ⟨ao,V⟩) ((jR.x ⟨W,H⟩).x ⟨ao,V⟩) bq br (D.w.v48 b (m:=i) zo) (a7.mul cw) zo) ?_;rintro _ bk Z ⟨bc,ba,bt,be,bg,bh,bi,bj,rfl,ai,ak⟩ eq an;rw [←e1] at ai ak;have S:Ext R a5 bk:=fun c hc=>(an c zo).trans ((V c zo).trans (H c hc));refine dSx (n0:=n) [kz bc,jx ba bt be,kz bg,jx bh bi bj] ((S M az).trans cq) ?_;intro C cr O;rw [yo (show 3*n≤M by omega)];have B:∀c,c<3*R→c≠M→C c=a5 c:=fun c hc hn=>(O.1 c hn).trans (S c hc);have K:Tr R a5 Z C:=Tr.s O ⟨zo,fun c hc=>.inl (S c hc)⟩;have bn:=a0.1;have bv:RMs C Z G A u g (cmM p f (i+1)):=cm.go K (fun c hc=>B c (by have:=Y c hc;omega) (dw c hc));have bw:OR 4 numP C Z o U:=a0.go numP.kp K (B o bn zo);have c5:Box4 C Z M (slV p f (i+1)):=⟨zo,_,_,_,_,_,_,_,_,_,cr,ai.t (Tr.s O (Tr.refl _ _)),ak.t (Tr.s O (Tr.refl _ _))⟩;have b7:Ex0 n h C:=⟨fun c hc=>(B c zo zo).trans (aw.e c hc)⟩;have bz:=(B _ zo zo).trans cu;have z20:=(B _ zo zo).trans z14;clear H V an S B K;refine zG ?_;exact sK (i+1,U) ⟨rfl,zo,b7,bz,z20,bv,bw,b2,fun t ht=>(by rw [ac t ht,eN zo]),c5,by show i+1≤gP p.eqs;omega⟩
 have dx:i=gP p.eqs:=zo;subst dx;obtain ⟨az,c6,b8,bs,bd,c7,bb,bu,bf,dk,cq,iR,jR⟩:=r8;have X8:Ext n h h8:=E8.e;have f7:n≤J:=zo;have ex:=o8.1;refine zG ?_;refine zm [0,0,0,1,11,31] rfl ?_;refine zH ?_;refine dSx (n0:=n) [kz c6,jx b8 bs bd,kz c7,jx bb bu bf] z8 ?_;intro C cr O;rw [yo (show 3*n≤3*(n+1)+2 by omega)];have K:Tr J h8 J C:=Tr.s O (Tr.refl _ _);have ci:∀c,c=G∨c∈u∨yR g c→c≠3*(n+1)+2:=fun c hc e=>by have:=ca c hc;omega
 refine zq ?_;exact ⟨G,u,g,o,_,_,_,_,_,_,_,_,rfl,m8.go K (fun c hc=>O.1 c (ci c hc)),(o8.go numP.kp K (O.1 o zo)).as (zqe l8 f8),iR.t K,jR.t K,fun x hx=>by have:=ca x hx;omega,zo,cb⟩
section
variable {p:Sdp}{M:Nat→Nat→Nat→Rat}
end
section
variable {j:Nat}{f:FuncId}
theorem zep {c:Nat}:∀{W:List Nat},(∀b∈W,b=bt)→c≠bt→memN c W=false:=by
 intro W;induction W with
 |nil=>intro _ _;rfl
 |cons x W ih=>
  intro h a;unfold memN;have:AG c x=false:=by
   cases he:AG c x with
   |false=>rfl
   |true=>exact cA ((Nat.eq_of_beq_eq_true he).trans (h x gN)) a
  rw [this];exact ih (fun y e=>h y (by simp [e])) a
theorem iV {m:Nat}(a:∀b∈W,b=bt):∀{l:List (Nat×Nat)},(∀x∈l,x.2≠bt)→yc m W l=true:=by
 intro l;induction l with
 |nil=>intro _;rfl
 |cons x l ih=>
  intro h;obtain ⟨i,b⟩:=x;unfold yc;rw [zep a (h (i,b) gN),Bool.not_false,Bool.or_true];exact ih fun y c=>h y (by simp [c])
section
variable {i:Nat}{ef:List (Nat×HF×List Nat)}
theorem zru {T:TapeI}{R:Value→HF→Nat→Prop}(c:CF X.C f args h n (fun v h' n' w=>TLeft T h n h' n' w∧R v h' n'))(hl:∀x∈ld,x.2≠T.bt)
  (k:∀v h' n' W,TLeft T h n h' n' W→R v h' n'→ED X ops r ms (i+1) ⟨⟨upd t d v,h',n',addW X.n0 W w⟩,al,ld,(i,h,W)::ef⟩ Q)(e:zi ops t o=true:=by exact rfl)(hd:o.dst=some d:=by exact rfl)(hn:zv X.nt (some d)=true:=by exact rfl)(hc:cls o.op=3:=by exact rfl)(he:effF X.E o.op (evF t) h n=some (.enter f args):=by exact rfl)(h1:xg m ef=true:=by exact rfl)(h2:xU m al=true:=by exact rfl):ED X ops (o::r) (m::ms) i ⟨⟨t,h,n,w⟩,al,ld,ef⟩ Q:=by
 refine yM _ ⟨e,hd,hn,hc,he,h1,h2⟩ c ?_;rintro v h' n' W ⟨a,b⟩;exact ⟨iV a.w hl,a.le,k v h' n' W a b⟩
end
theorem zhn {P:Rat→Prop}{a:Nat→Nat→Rat}(h:∀i j,P (a i j)){i:Nat}{x:Rat}(e:P x)(b c:Nat):P (updT a i j x b c):=by
 unfold updT;split
 ·exact e
 exact h b c
theorem TLeft.tr {w:List Nat}(l:TLeft T h n h' n' w)(g:Tp h T):Tr n h n' h':=⟨l.le,fun c b=>by
 by_cases hb:c=T.bt
 ·subst hb;obtain ⟨p,e,a,_⟩:=g.row;exact .inr (.row a rfl)
 ·exact .inl (l.ext c b hb)⟩
theorem zol (k:Nat)(u:K<1000000)(l:Tp h T)(g:T.m≤n):CF (cal (k+4)) 41 [kS (some ⟨T.bt,0,none⟩),jy .i64 (K:Int)] h n fun v h' n' w=>TLeft T h n h' n' w∧∃q,FN 1 K q∧NQ q v h' n':=by
 refine yg (oK k (K:=(K:Int)) zo l g) ?_;rintro v h' n' w ⟨a,b,c,e,A,B,y,x,rfl,r,p,s,_⟩;exact ⟨⟨a,b,c,e⟩,_,FN.int x zo,r.nq⟩
end
section
variable {B i j k:Nat}
noncomputable def trV (a:Nat→Nat→Rat)(i j:Nat):Nat→Nat→Rat:=fun r c=>if c<i∨c=i∧r<j then a c r else 0
theorem zho (a:Nat→Nat→Rat)(i j:Nat):updT (trV a i j) j i (a i j)=trV a i (j+1):=by
 funext r c;unfold updT trV;by_cases h:r=j∧c=i
 ·obtain ⟨rfl,rfl⟩:=h;rw [eN ⟨rfl,rfl⟩,eN (.inr ⟨rfl,zo⟩)]
 rw [cC h];by_cases h2:c<i∨c=i∧r<j
 ·rw [eN h2,eN zo]
 rw [cC h2,cC zo]
theorem zlv (a:Nat→Nat→Rat){r c:Nat}(b:r<K):trV a i K r c=trV a (i+1) 0 r c:=by
 unfold trV;by_cases h2:c<i∨c=i∧r<K
 ·rw [eN h2,eN zo]
 rw [cC h2,cC zo]
noncomputable def prS (a b:Nat→Nat→Rat)(r c:Nat):Nat→Rat
 |0=>0
 |k+1=>prS a b r c k+a r k*b k c
noncomputable def tmV (a b:Nat→Nat→Rat)(K i k j:Nat):Nat→Nat→Rat:=fun r c=>if r<i then prS a b r c K else if r=i then prS a b r c (if c<j then k+1 else k) else 0
theorem zhr (a b:Nat→Nat→Rat)(K i k j:Nat):updT (tmV a b K i k j) i j (prS a b i j k+a i k*b k j)=tmV a b K i k (j+1):=by
 funext r c;unfold updT tmV;by_cases h:r=i∧c=j
 ·obtain ⟨rfl,rfl⟩:=h;rw [eN ⟨rfl,rfl⟩,cC (BK r),eN rfl,eN zo];rfl
 rw [cC h];by_cases h1:r<i
 ·rw [eN h1,eN h1]
 rw [cC h1,cC h1];by_cases h2:r=i
 ·rw [eN h2,eN h2];congr 1;by_cases h3:c<j
  ·rw [eN h3,eN zo]
  rw [cC h3,cC zo]
 rw [cC h2,cC h2]
theorem zou (a b:Nat→Nat→Rat)(K i k j:Nat):tmV a b K i k j i j=prS a b i j k:=by
 unfold tmV;rw [cC (BK i),eN rfl,cC (BK j)]
theorem zlw (a b:Nat→Nat→Rat){r c:Nat}(d:c<N):tmV a b K i k N r c=tmV a b K i (k+1) 0 r c:=by
 unfold tmV;rw [eN d,cC (show ¬c<0 by omega)]
theorem zhq {a b:Nat→Nat→Rat}(h0:a i k=0)(r c:Nat):tmV a b K i k j r c=tmV a b K i (k+1) 0 r c:=by
 unfold tmV;by_cases h1:r<i
 ·rw [eN h1,eN h1]
 rw [cC h1,cC h1];by_cases h2:r=i
 ·subst h2;rw [eN rfl,eN rfl,cC (show ¬c<0 by omega)];split
  ·rfl
  show _=prS a b r c k+a r k*b k c;rw [h0,Cg,A2]
 rw [cC h2,cC h2]
theorem zhs (a b:Nat→Nat→Rat)(K i:Nat)(r c:Nat):tmV a b K i K 0 r c=tmV a b K (i+1) 0 0 r c:=by
 unfold tmV;by_cases h1:r<i
 ·rw [eN h1,eN zo]
 rw [cC h1];by_cases h2:r=i
 ·rw [eN h2,cC (show ¬c<0 by omega),eN (show r<i+1 by omega)]
 rw [cC h2,cC zo];by_cases h3:r=i+1
 ·rw [eN h3,cC (show ¬c<0 by omega)];rfl
 rw [cC h3]
theorem zkv {a b:Nat→Nat→Rat}(d:∀i j,FN 1 B (a i j))(e:∀i j,FN 1 B (b i j))(r c k:Nat):FN 1 (B*B*k) (prS a b r c k):=by
 induction k with
 |zero=>exact FN.zero _ _
 |succ k ih=>exact (ih.add ((d r k).mul (e k c))).mono (by rw [Ch];omega)
theorem zrd (k:Nat){a:Nat→Nat→Rat}(r:RDK h n (jx ar N cap) N K a)(hN:1≤N∧N≤3)(hK:1≤K∧K≤3):CX (cal (k+2)) 67 [jx ar N cap] h n fun v u w=>∃f o,v=slN K f∧RMK u w f K N o (fun i j=>a j i)∧(∀b,b=f∨b∈o→3*n≤b):=by
 refine zu (fn:=Tryz.f67) R4 ?_;obtain ⟨b0,o0,a0,c0,e0,m0,r0,t0,s0⟩:=r.at (show 0<N by omega);refine zG ?_;refine sI (j:=0) e0 r0 ?_;refine sL t0 m0 0 ?_;refine zG ?_;refine sC (jI _ _ _ (N:=K) (K:=N) zo zo) ?_;rintro _ h1 n1 ⟨f,o,rfl,M,D⟩ y1 T;have a2:3*n≤f:=D _ (.inl rfl);refine zG ?_;refine sF (α:=Nat) (fun z=>[(0,jx ar N cap),(3,slN K f),(4,jy .i64 (z:Int))])
  (fun z u w H=>H=[]∧n≤w∧Ex0 n h u∧RMK u w f K N o (trV a z 0)∧z≤N) (fun z=>N-z) 0 ⟨rfl,y1,⟨T⟩,M.as (fun i j _ _=>(cC zo).symm),eU⟩ ?_
 rintro i t h2 A _ ⟨rfl,g,p,d,hi⟩;have g:n≤A:=g;have d:RMK h2 A f K N o (trV a i 0):=d;have hi:i≤N:=hi;clear M T;refine zG ?_;by_cases qi:(i:Int)<(N:Int)
 ·have l:i<N:=zo;refine zG ?_;refine sF (α:=Nat) (fun z=>[(0,jx ar N cap),(3,slN K f),(4,jy .i64 (i:Int)),(5,jy .i64 (z:Int))])
   (fun z u w H=>H=[]∧n≤w∧Ex0 n h u∧RMK u w f K N o (trV a i z)∧z≤K) (fun z=>K-z) 0 ⟨rfl,g,p,d,eU⟩ ?_
  clear d p g;rintro j t h2 A _ ⟨rfl,g,p,d,hj⟩;have g:n≤A:=g;have d:RMK h2 A f K N o (trV a i j):=d;have hj:j≤K:=hj;obtain ⟨bi,oi,ai,ci,L,P,R,S,si⟩:=(r.ext p.e g).at l;refine zG ?_;refine sI (j:=i) L R ?_;refine sL S P 0 ?_;refine zG ?_;by_cases qj:(j:Int)<(K:Int)
  ·have m:j<K:=zo;obtain ⟨I,y,a1,G⟩:=d.get m;have F:=D I (.inr G);obtain ⟨k5,u5,W,V,l5,Y,Z,e5,f5,w5,J,m5,r5,t5,i5,j5⟩:=NS.at si (uQ m);refine zG ?_;refine zm [0,0,3,7,0,0,0,96,224,0,992,2016,4095,8191] rfl ?_;refine zH ?_;refine dI (j:=j) (len:=K) rfl m ?_;refine dL (d.row y) d.t.1 0 ?_;refine zH ?_;refine dI (j:=i) L R ?_;refine dL S P 0 ?_;refine zH ?_;refine dI (j:=j) J r5 ?_;refine dL t5 m5 0 ?_;refine dI (j:=i) (len:=N) rfl l ?_;refine dZn (n0:=n) (j:=i) (q:=a i j) [kz W,jx V l5 Y,kz Z,jx e5 f5 w5] (d.r j I y) numP.kp (by rw [yV];exact l) (show (0:Nat)+i*4=i*4 by omega) ⟨_,_,_,_,_,_,_,_,rfl,i5,j5⟩ F ?_;intro h6 o6 C;have O:=d.put y l (Tr.s C (Tr.refl _ _)) (fun c hc _=>C.1 c hc) o6;rw [zho] at O;have U:Ex0 n h h6:=⟨fun c hc=>(C.1 c zo).trans (p.e c hc)⟩;clear C;refine zG ?_;exact sK (j+1) ⟨rfl,g,U,O,by show j+1≤K;omega⟩
  have m:j=K:=zo;subst m;refine zG ?_;exact sK (i+1) ⟨rfl,g,p,d.as (fun r c hr _=>zlv a hr),by show i+1≤N;omega⟩
 have l:i=N:=zo;subst l;have X2:Ext n h h2:=p.e;refine Zt ?_;exact ⟨f,o,rfl,d.as (fun r c hr hc=>eN (.inl hc)),D⟩
theorem zov (k:Nat){H I:Option Addr}{J L:Nat}{a b:Nat→Nat→Rat}(ra:RDK h n (jx H N J) N K a)(P:RDK h n (jx I K L) K N b)(hN:1≤N∧N≤3)(hK:1≤K∧K≤3)(ha:∀i j,FN 1 2 (a i j))(hb:∀i j,FN 1 2 (b i j)):CX (cal (k+7)) 66 [jx H N J,jx I K L] h n fun v u w=>∃g y,v=slN N g∧RM u w g N y (fun i j=>prS a b i j K)∧(∀b,b=g∨b∈y→3*n≤b):=by
 refine zu (fn:=Tryz.f66) R4 ?_;obtain ⟨b0,o0,a0,c0,e0,W,r0,t0,s0⟩:=P.at (show 0<K by omega);refine zG ?_;refine sI (j:=0) e0 r0 ?_;refine sL t0 W 0 ?_;refine zG ?_;refine sC (jI _ _ _ (N:=N) (K:=N) zo zo) ?_;rintro _ h1 n1 ⟨g,y,rfl,m1,f1⟩ y1 x1;have ak:3*n≤g:=f1 _ (.inl rfl);refine zG ?_;refine sF (α:=Nat) (fun z=>[(0,jx H N J),(1,jx I K L),(5,slN N g),(6,jy .i64 (z:Int))])
  (fun z u w R=>R=[]∧n≤w∧Ex0 n h u∧RM u w g N y (tmV a b K z 0 0)∧z≤N) (fun z=>N-z) 0 ⟨rfl,y1,⟨x1⟩,m1.as (fun i j _ _=>by
   unfold tmV;rw [cC zo,cC (show ¬j<0 by omega)];split<;>rfl),eU⟩ ?_
 rintro i t h2 F _ ⟨rfl,f,l,d,hi⟩;have f:n≤F:=f;have d:RM h2 F g N y (tmV a b K i 0 0):=d;have hi:i≤N:=hi;clear m1 x1;refine zG ?_;by_cases qi:(i:Int)<(N:Int)
 ·have o:i<N:=zo;refine zG ?_;refine sF (α:=Nat) (fun z=>[(0,jx H N J),(1,jx I K L),(5,slN N g),(6,jy .i64 (i:Int)),(7,jy .i64 (z:Int))])
   (fun z u w R=>R=[]∧n≤w∧Ex0 n h u∧RM u w g N y (tmV a b K i z 0)∧z≤K) (fun z=>K-z) 0 ⟨rfl,f,l,d,eU⟩ ?_
  clear d l f;rintro p t h2 F _ ⟨rfl,f,l,d,hp⟩;have f:n≤F:=f;have d:RM h2 F g N y (tmV a b K i p 0):=d;have hp:p≤K:=hp;refine zG ?_;by_cases qp:(p:Int)<(K:Int)
  ·have C:p<K:=zo;refine zG ?_;refine sF (α:=Nat) (fun z=>[(0,jx H N J),(1,jx I K L),(5,slN N g),(6,jy .i64 (i:Int)),(7,jy .i64 (p:Int)),(8,jy .i64 (z:Int))])
    (fun z u w R=>R=[]∧n≤w∧Ex0 n h u∧RM u w g N y (tmV a b K i p z)∧z≤N) (fun z=>N-z) 0 ⟨rfl,f,l,d,eU⟩ ?_
   clear d l f;rintro j t h2 F _ ⟨rfl,f,l,d,hj⟩;have f:n≤F:=f;have d:RM h2 F g N y (tmV a b K i p j):=d;have hj:j≤N:=hj;obtain ⟨b0,o0,a0,c0,e0,W,r0,t0,s0⟩:=(P.ext l.e f).at (show 0<K by omega);refine zG ?_;refine sI (j:=0) e0 r0 ?_;refine sL t0 W 0 ?_;refine zG ?_;by_cases qj:(j:Int)<(N:Int)
   ·have m:j<N:=zo;obtain ⟨bi,oi,ai,ci,ei,Z,ri,ti,si⟩:=(ra.ext l.e f).at o;obtain ⟨k5,u5,b5,a5,l5,c5,d5,e5,f5,w5,M,Y,r5,t5,U,V⟩:=NS.at si (uQ C);refine zG ?_;refine sI (j:=i) ei ri ?_;refine sL ti Z 0 ?_;refine zG ?_;refine sI (j:=p) M r5 ?_;refine sL t5 Y 0 ?_;refine sC (jh (k+4) U V) ?_;rintro _ h3 n3 ⟨sg,rfl,O⟩ y3 x3;have T:Ex0 n h h3:=⟨fun c hc=>(x3 c zo).trans (l.e c hc)⟩;have S:n≤n3:=zo;have D:=d.ext x3 y3;clear x3 d l t0 ti t5 U V s0 si Z Y W;have O:sg=0∧a i p=0∨sg≠0:=by
     rcases O with ⟨rfl,_⟩|⟨rfl,q⟩|⟨rfl,_⟩
     ·exact .inr zd
     ·exact .inl ⟨rfl,B7.1 q⟩
     exact .inr zd
    rcases O with ⟨rfl,hz⟩|hs
    ·refine zG ?_;exact sK (p+1) ⟨rfl,S,T,D.as (fun r c _ _=>zhq hz r c),by show p+1≤K;omega⟩
    obtain ⟨bo,A,ac,a4⟩:=D.get o;have a3:=f1 bo (.inr a4);obtain ⟨bi,oi,ai,ci,ei,Z,ri,ti,si⟩:=(ra.ext T.e S).at o;obtain ⟨k5,u5,b5,a5,l5,c5,d5,e5,f5,w5,M,Y,r5,t5,U,V⟩:=NS.at si (uQ C);obtain ⟨bj,oj,aj,cj,ej,mj,rj,tj,sj⟩:=(P.ext T.e S).at C;obtain ⟨k6,u6,b6,a6,l6,c6,d6,e6,f6,w6,af,m6,r6,t6,i6,j6⟩:=NS.at sj (uQ m);obtain ⟨b7,a7,l7,c7,d7,e7,f7,w7,t7,i7,j7⟩:=D.el A m;rw [zou] at i7 j7;refine zG ?_;refine zm [0,0,3,7,0,0,0,96,224,0,992,2016,0,0,12288,28672,0,126976,258048,0,0,1572864,3670016,0,16252928,33030144,67104768,134217696,268435455,536870911] rfl ?_;refine zH ?_;refine dI (j:=i) (len:=N) rfl o ?_;refine dL (D.row A) D.t.1 0 ?_;refine zH ?_;refine dI (j:=i) (len:=N) rfl o ?_;refine dL (D.row A) D.t.1 0 ?_;refine zH ?_;refine dI (j:=j) (len:=N) rfl m ?_;refine dL t7 ac 0 ?_;refine zH ?_;refine dI (j:=i) ei ri ?_;refine dL ti Z 0 ?_;refine zH ?_;refine dI (j:=p) M r5 ?_;refine dL t5 Y 0 ?_;refine zH ?_;refine dI (j:=p) ej rj ?_;refine dL tj mj 0 ?_;refine zH ?_;refine dI (j:=j) af r6 ?_;refine dL t6 m6 0 ?_;have z5:Sz 2 (a i p):=FN.sz (ha i p) zd zd zd;have z6:Sz 2 (b p j):=FN.sz (hb p j) zd zd zd;have z7:Sz 4 (prS a b i j p):=FN.sz (zkv ha hb i j p) zd zd zo;have ad:=iL k U V i6 j6 z5 z6 zo;refine dC ad ?_;rintro _ h8 n8 ⟨b8,a8,l8,c8,d8,e8,f8,w8,rfl,i8,j8⟩ y8 x8;have a2:=mb k (i7.x ⟨y8,x8⟩) (j7.x ⟨y8,x8⟩) i8 j8 z7 (z5.mul z6) zo;refine dC a2 ?_;rintro _ h9 n9 ⟨b9,a9,l9,c9,d9,e9,f9,w9,rfl,i9,j9⟩ y9 x9;have X9:Ext n3 h3 h9:=fun c hc=>(x9 c zo).trans (x8 c hc);have m9:=D.ext X9 (show n3≤n9 by omega);have E9:Ex0 n h h9:=⟨fun c hc=>(X9 c zo).trans (T.e c hc)⟩;clear x8 x9 X9;refine dI (j:=j) (len:=N) rfl m ?_;refine dZn (n0:=n) (j:=j) (q:=prS a b i j p+a i p*b p j) [kz b9,jx a9 l9 c9,kz d9,jx e9 f9 w9] (m9.r i bo A) numP.kp (by rw [yV];exact m) (show (0:Nat)+j*4=j*4 by omega) ⟨_,_,_,_,_,_,_,_,rfl,i9,j9⟩ a3 ?_;intro ag ah G;have a1:=m9.put A m (Tr.s G (Tr.refl _ _)) (fun c hc _=>G.1 c hc) ah;rw [zhr] at a1;have ae:Ex0 n h ag:=⟨fun c hc=>(G.1 c zo).trans (E9.e c hc)⟩;clear G;refine zG ?_;exact sK (j+1) ⟨rfl,zo,ae,a1,by show j+1≤N;omega⟩
   have m:j=N:=zo;subst m;refine zG ?_;exact sK (p+1) ⟨rfl,f,l,d.as (fun r c _ hc=>zlw a b hc),by show p+1≤K;omega⟩
  have C:p=K:=zo;subst C;refine zG ?_;exact sK (i+1) ⟨rfl,f,l,d.as (fun r c _ _=>zhs a b p i r c),by show i+1≤N;omega⟩
 have o:i=N:=zo;subst o;have X2:Ext n h h2:=l.e;refine Zt ?_;exact ⟨g,y,rfl,d.as (fun r c hr _=>eN hr),f1⟩
end
theorem zmn (a:Nat→Nat→Rat)(r c k:Nat):prS a (fun i j=>a j i) r c k=prS a (fun i j=>a j i) c r k:=by
 induction k with
 |zero=>rfl
 |succ k ih=>
  show prS a _ r c k+a r k*a c k=prS a _ c r k+a c k*a r k;rw [ih,BO (a r k)]
def Gram (a:Nat→Nat→Rat):Prop:=∃x y:Nat→Rat,∀i j,a i j=x i*x j+y i*y j
theorem zil (a:Nat→Nat→Rat)(b:1≤K∧K≤2):Gram (fun i j=>prS a (fun i j=>a j i) i j K):=by
 rcases (show K=1∨K=2 by omega) with rfl|rfl
 ·exact ⟨fun i=>a i 0,fun _=>0,fun i j=>by show 0+a i 0*a j 0=_;grind⟩
 exact ⟨fun i=>a i 0,fun i=>a i 1,fun i j=>by show 0+a i 0*a j 0+a i 1*a j 1=_;grind⟩
theorem zlm (k:Nat)(hN:1≤N∧N≤3)(hK:1≤K∧K≤2)(ht:Tp h T)(hn:T.m≤n):CF (cal (k+8)) 26 [kS (some ⟨T.bt,0,none⟩),jy .i64 (N:Int),jy .i64 (K:Int)] h n fun v p u w=>TLeft T h n p u w∧∃f y a,v=slN N f∧RM p u f N y a∧(∀i j,a i j=a j i)∧(∀i j,FN 1 8 (a i j))∧Gram a∧∀c,c=f∨c∈y→3*n≤c:=by
 have a9:=ht.bt;refine zu (fn:=Tryz.f26) R4 ?_;refine zG ?_;refine sC (jI _ _ _ (N:=N) (K:=K) zo zo) ?_;rintro _ h1 n1 ⟨f,y,rfl,m1,Z⟩ y1 x1;refine zG ?_;have aa:3*n≤f:=Z _ (.inl rfl);have S:=ht.ext x1 hn;refine sF (α:=Nat×(Nat→Nat→Rat)) (fun z=>[(0,kS (some ⟨T.bt,0,none⟩)),(7,slN N f),(14,jy .i64 (N:Int)),(15,jy .i64 (z.1:Int))])
  (fun z p u w'=>TLeft T h n p u w'∧RMK p u f N K y z.2∧(∀i j,FN 1 2 (z.2 i j))∧z.1≤N) (fun z=>N-z.1) (0,fun _ _=>0) ⟨⟨fun b G=>cA G nN,y1,S,x1.t⟩,m1,fun _ _=>FN.zero _ _,eU⟩ ?_
 rintro ⟨i,a⟩ t h2 H w2 ⟨⟨l,A,g,o⟩,d,e,hi⟩;have A:n≤H:=A;have d:RMK h2 H f N K y a:=d;have e:∀i j,FN 1 2 (a i j):=e;have hi:i≤N:=hi;clear m1 S;refine zG ?_;by_cases qi:(i:Int)<(N:Int)
 ·have J:i<N:=zo;obtain ⟨Y,C,B,I⟩:=d.get J;have a0:=Z Y (.inr I);refine zG ?_;refine sI (j:=i) (len:=N) rfl J ?_;refine sL (d.row C) d.t.1 0 ?_;refine zG ?_;refine sF (α:=Nat×(Nat→Nat→Rat)) (fun z=>[(0,kS (some ⟨T.bt,0,none⟩)),(7,slN N f),(8,jy .i64 (i:Int)),(14,jy .i64 (N:Int)),(15,jy .i64 (i:Int)),(22,jy .i64 (K:Int)),(23,jy .i64 (z.1:Int))])
   (fun z p u w'=>TLeft T h n p u w'∧RMK p u f N K y z.2∧(∀i j,FN 1 2 (z.2 i j))∧z.1≤K) (fun z=>K-z.1) (0,a) ⟨⟨l,A,g,o⟩,d,e,eU⟩ ?_
  clear d e o g l A B;rintro ⟨j,a⟩ t h2 H w2 ⟨⟨l,A,g,o⟩,d,e,hj⟩;have A:n≤H:=A;have d:RMK h2 H f N K y a:=d;have e:∀i j,FN 1 2 (a i j):=e;have hj:j≤K:=hj;refine zG ?_;by_cases qj:(j:Int)<(K:Int)
  ·have L:j<K:=zo;have B:=d.blt I;refine zG ?_;refine zm [0,0,3,7,0,0,32,127,255] rfl ?_;refine zH ?_;refine dI (j:=i) (len:=N) rfl J ?_;refine dL (d.row C) d.t.1 0 ?_;refine zH ?_;have a6:=zol (k+3) (K:=2) zo g (show T.m≤H by omega);refine zru a6 (fun x hx=>by rw [nP.1 hx];show f≠T.bt;omega) ?_;rintro _ h3 n3 W3 l3 ⟨q,bq,b3,a3,a7,c3,d3,e3,f3,g3,rfl,i3,j3⟩;have V:=l3.tr g;obtain ⟨a5,y3,a1,D⟩:=l3;have o3:=(d.r i Y C).go numP.kp V (D Y B zo);refine dI (j:=j) (len:=K) rfl L ?_;refine dZn (n0:=n) (j:=j) (q:=q) [kz b3,jx a3 a7 c3,kz d3,jx e3 f3 g3] o3 numP.kp (by rw [yV];exact L) (show (0:Nat)+j*4=j*4 by omega) ⟨_,_,_,_,_,_,_,_,rfl,i3,j3⟩ a0 ?_;intro F o4 O;have m4:RMK F n3 f N K y (updT a i j q):=d.put C L (Tr.s O V) (fun c hc hm=>(O.1 c hc).trans (D c (by rcases hm with rfl|hm;exact d.t.1;exact d.blt hm) (by have:=Z c hm;omega))) o4;have W:ExtT n T.bt h F:=fun c hc G=>(O.1 c zo).trans ((D c zo G).trans (o c hc G));have M:Tp F T:=a1.ext (n:=T.m) (fun c hc=>O.1 c zo) eT;clear O D V;refine zG ?_;exact sK (j+1,updT a i j q) ⟨⟨yB a5 l,zo,M,W⟩,m4,zhn e bq,by show j+1≤K;omega⟩
  refine zG ?_;exact sK (i+1,a) ⟨⟨l,A,g,o⟩,d,e,by show i+1≤N;omega⟩
 refine zG ?_;have a4:=zrd (k+5) d.rd hN zo;refine sC a4 ?_;rintro _ h3 n3 ⟨ac,ab,rfl,m3,f3⟩ y3 R;have a2:=zov k (d.ext R y3).rd m3.rd hN zo e (fun i j=>e j i);refine sC a2 ?_;rintro _ F n4 ⟨U,a8,rfl,m4,f4⟩ y4 x4;have W:ExtT n T.bt h F:=fun c hc G=>(x4 c zo).trans ((R c zo).trans (o c hc G));have M:Tp F T:=g.ext (n:=T.m) (fun c hc=>(x4 c zo).trans (R c zo)) eT;clear R x4;refine zG ?_;refine retH [slN N U] ⟨rfl,(zk rfl),rfl⟩ ⟨⟨l,show n≤n4 by omega,M,W⟩,U,a8,_,rfl,m4,fun i j=>zmn a i j K,fun i j=>(zkv e (fun i j=>e j i) i j K).mono zo,zil a hK,fun c hc=>by have:=f4 c hc;omega⟩
theorem zmr (k:Nat){a:Nat→Nat→Rat}(r:RD h n (jx ar N cap) N a)(e:1≤N∧N≤3)(g:∀i j,i<N→j<N→Sz P (a i j))(f:P≤3840):CX (cal (k+7)) 27 [jx ar N cap] h n fun v d l=>∃b,v=.agg #[jy .i64 (N:Int),jy .i64 (N:Int),jx (some ⟨b,0,none⟩) (N*N) (N*N)]∧3*n≤b∧OT d l b ((tabL N a).map ratT):=by
 refine zu (fn:=Tryz.f27) R4 ?_;refine Zh ?_;intro h1 y o;refine zG ?_;refine sC (zpo k (r.ext o zs) e g f) ?_;rintro _ q w ⟨b,rfl,p,m⟩ C B;refine sS [jy .i64 (N:Int),jy .i64 (N:Int),jx (some ⟨b,0,none⟩) (N*N) (N*N)] ?_;intro u A c;refine zq ?_;exact ⟨b,rfl,zo,m.go strP.kp (Tr.s c (Tr.refl _ _)) (c.1 _ zo)⟩
section
set_option maxRecDepth 100000
theorem entP.kp:KP 4 entP:=⟨fun e _=>e,fun e=>by cases e;exact ⟨rfl,rfl,rfl⟩⟩
theorem SV3.or {x:Int}{v:Value}{h:HF}{n:Nat}(r:SV3 x v h n):∃s:Int,v=jy .i64 s∧(s=0∧x=0∨s≠0∧x≠0):=by
 obtain ⟨s,rfl,⟨a,c⟩|⟨a,c⟩|⟨a,c⟩⟩:=r
 ·exact ⟨_,rfl,.inr zo⟩
 ·exact ⟨_,rfl,.inl zo⟩
 exact ⟨_,rfl,.inr zo⟩
section
variable {lo i fr:Nat}{Ns:List Nat}{A S:Nat→Nat→Nat→Rat}
noncomputable def dD (A S:Nat→Nat→Nat→Rat):Nat→Nat→Nat→Rat:=fun k i j=>A k i j+ -1*S k i j
theorem duK (k:Nat){c:Code}(hc:oH Tryz.f5 ([1,1,1,1,1,1,1,1,0,1,0,0,1,1,0,0,1,1,1,1,0,0,1,0,0,0,1]++[0])=some c){Q:Ex→SV→Prop}
  (hL:wU t [(3,y3),(4,kS (some ⟨bp,0,none⟩)),(5,y5),(6,y6),(7,y7),(8,slN (gP Ns) bS),(9,y9),(11,jy .i64 (b:Int)),(12,jy .i64 (N:Int)),(13,y13),(14,slN N ts),(15,jy .i64 (i:Int)),(16,jy .i64 (i:Int)),(46,z46),(47,z47),(48,jy .i64 (b:Int))])
  (G:Ns[b]?=some N)(c0:N≤3)(c1:b≤1000)(hi:i<N)(c2:n0≤lo∧lo≤n)(b8:3*n0≤bp∧bp<3*lo)
  (mS:RMs h n bS Ns tbs rbs A)(mT:RM h n ts N rt (S b))(zA:∀i j,Sz 11 (A b i j))(zS:∀i j,Sz 4 (S b i j))(zD:∀i j,FN 24 (960*2) (dD A S b i j))
  (H:∀c,c=bS∨c∈tbs∨yR rbs c∨c=ts∨c∈rt→c≠bp∧¬BkOf vO c)
  (pP:h bp=some (.row [jx aB lB cB,jy .i64 (fr:Int),vO,jx aF lF cF,jx aE lE cE] ep))(gO:GR 4 entP lo h n 76 vO E)(p:EW Ns E b i i)(o:CoI Ns (dD A S) E b i i)(W:gP E≤9*b+3*i)
  (hQ:∀(t':TF) (h':HF) (n':Nat) (E':List Ent) (v':Value),wU t' [(3,y3),(4,kS (some ⟨bp,0,none⟩)),(5,y5),(6,y6),(7,y7),(8,slN (gP Ns) bS),(9,y9),(11,jy .i64 (b:Int)),(12,jy .i64 (N:Int)),(13,y13),(14,slN N ts),(15,jy .i64 (i:Int)),(46,z46),(47,z47),(48,jy .i64 (b:Int))]→n≤n'→h' bp=some (.row [jx aB lB cB,jy .i64 (fr:Int),v',jx aF lF cF,jx aE lE cE] ep)→GR 4 entP lo h' n' 76 v' E'→Tr n h n' h'→(∀c,c<3*n→c≠bp→¬BkOf vO c→h' c=h c)→(∀c,BkOf v' c→BkOf vO c∨3*n≤c)→EW Ns E' b i N→CoI Ns (dD A S) E' b i N→gP E'≤9*b+3*i+(N-i)→Q (.exit 4) ⟨t',h',n',[]⟩):
  EC (ctx (k+19) n0 (Tryz.f5).ntmps) c ⟨t,h,n,[]⟩ Q:=by
 obtain rfl:=A0 (hc.symm.trans (rfl:oH Tryz.f5 ([1,1,1,1,1,1,1,1,0,1,0,0,1,1,0,0,1,1,1,1,0,0,1,0,0,0,1]++[0])=some _));clear hc;have b7:=(oc.1 G).1;refine sF (α:=Nat×List Ent×Value) (fun z=>[(3,y3),(4,kS (some ⟨bp,0,none⟩)),(5,y5),(6,y6),(7,y7),(8,slN (gP Ns) bS),(9,y9),(11,jy .i64 (b:Int)),(12,jy .i64 (N:Int)),(13,y13),(14,slN N ts),(15,jy .i64 (i:Int)),(16,jy .i64 (z.1:Int)),(46,z46),(47,z47),(48,jy .i64 (b:Int))])
  (fun z h' n' w'=>w'=[]∧n≤n'∧h' bp=some (.row [jx aB lB cB,jy .i64 (fr:Int),z.2.2,jx aF lF cF,jx aE lE cE] ep)∧GR 4 entP lo h' n' 76 z.2.2 z.2.1∧Tr n h n' h'∧(∀c,c<3*n→c≠bp→¬BkOf vO c→h' c=h c)∧(∀c,BkOf z.2.2 c→BkOf vO c∨3*n≤c)∧EW Ns z.2.1 b i z.1∧CoI Ns (dD A S) z.2.1 b i z.1∧gP z.2.1≤9*b+3*i+(z.1-i)∧i≤z.1∧z.1≤N) (fun z=>N-z.1)
  (i,E,vO) ⟨rfl,eT,pP,gO,Tr.refl _ _,fun _ _ _ _=>rfl,fun c hc=>.inl hc,p,o,by show gP E≤9*b+3*i+(i-i);omega,eT,Nat.le_of_lt hi⟩ ?_ (hl:=hL)
 clear p o gO W;rintro ⟨m,E,v⟩ t h1 g _ ⟨rfl,y1,p1,g1,O,x1,U,p,o,W,u,ah⟩;have y1:n≤g:=y1;have g1:GR 4 entP lo h1 g 76 v E:=g1;obtain ⟨av,rfl⟩:=g1.shape rfl;have p1:h1 bp=some (.row [jx aB lB cB,jy .i64 (fr:Int),jx av (gP E) (gP E),jx aF lF cF,jx aE lE cE] ep):=p1;have U:∀c,BkOf (jx av (gP E) (gP E)) c→BkOf vO c∨3*n≤c:=U;have p:EW Ns E b i m:=p;have o:CoI Ns (dD A S) E b i m:=o;have W:gP E≤9*b+3*i+(m-i):=W;have u:i≤m:=u;have ah:m≤N:=ah;refine zG ?_;by_cases qm:(m:Int)<(N:Int)
 ·have hm:m<N:=zo;have ad:∀c,c=bS∨c∈tbs∨yR rbs c→h1 c=h c:=fun c hc=>x1 c (by
   rcases hc with rfl|hc|hc
   ·exact mS.s.1
   ·exact mS.tlt hc
   ·exact mS.rlt hc) (H c (by rcases hc with h|h|h;exact .inl h;exact .inr (.inl h);exact .inr (.inr (.inl h)))).1 (H c (by rcases hc with h|h|h;exact .inl h;exact .inr (.inl h);exact .inr (.inr (.inl h)))).2
  have K:RMs h1 g bS Ns tbs rbs A:=mS.go O ad;have ae:∀c,c=ts∨c∈rt→h1 c=h c:=fun c hc=>x1 c (by rcases hc with rfl|hc;exact mT.t.1;exact mT.blt hc) (H c (by rcases hc with h|h;exact .inr (.inr (.inr (.inl h)));exact .inr (.inr (.inr (.inr h))))).1 (H c (by rcases hc with h|h;exact .inr (.inr (.inr (.inl h)));exact .inr (.inr (.inr (.inr h))))).2;have d:RM h1 g ts N rt (S b):=mT.go O ae;obtain ⟨tk,rk,ba,c9,f⟩:=K.get G;obtain ⟨b1,af,_,an⟩:=f.get hi;obtain ⟨b2,ag,_,ao⟩:=d.get hi;obtain ⟨s3,a3,l3,c3,s4,a4,l4,c4,t3,i3,j3⟩:=f.el af hm;obtain ⟨s5,a5,l5,c5,s6,a6,l6,c6,t5,i5,j5⟩:=d.el ag hm;refine zG ?_;refine zm [0,0,3,7,0,31,63,0,255,511,0,0,3072,7168,0,31744,64512,131071,0,524287] rfl ?_;refine zH ?_;refine dI (j:=b) (len:=gP Ns) rfl b7 ?_;refine dL (K.tab G ba) K.s.1 0 ?_;refine zH ?_;refine dI (j:=i) (len:=N) rfl hi ?_;refine dL (f.row af) f.t.1 0 ?_;refine zH ?_;refine dI (j:=m) (len:=N) rfl hm ?_;refine dL t3 (f.blt an) 0 ?_;refine zH ?_;refine dI (j:=i) (len:=N) rfl hi ?_;refine dL (d.row ag) d.t.1 0 ?_;refine zH ?_;refine dI (j:=m) (len:=N) rfl hm ?_;refine dL t5 (d.blt ao) 0 ?_;refine dC (zmf _ i3 j3 i5 j5 (zA i m) (zS i m) zo) ?_;rintro _ h6 w ⟨s7,a7,l7,c7,s8,a8,l8,c8,rfl,i7,j7⟩ y6 x6;have eD:A b i m-S b i m=dD A S b i m:=by unfold dD;grind
  rw [eD] at i7 j7;refine dB [kz false,jx none 0 0,kz false,jx none 0 0] ?_;intro h8 p8 x8;refine dSx (n0:=n0) [kz s7,jx a7 l7 c7,kz s8,jx a8 l8 c8] p8 ?_;intro h9 p9 s9;rw [yo (show 3*n0≤3*w+2 by omega)];have i9:=i7.t (Tr.s s9 ⟨ux w,fun c hc=>.inl (x8 c hc)⟩);have j9:=j7.t (Tr.s s9 ⟨ux w,fun c hc=>.inl (x8 c hc)⟩);have X9:Ex0 g h1 h9:=⟨fun c hc=>(s9.1 c zo).trans ((x8 c zo).trans (x6 c hc))⟩;have y9:w+1≤w+1:=AK _;have zc:FN 24 3840 (cv (dD A S) b i m):=by
   unfold cv;split
   ·show FN (1*24) (2*(960*2)) (((2:Int):Rat)*dD A S b i m);exact (FN.int 2 (B:=2) zd).mul (zD i m)
   exact (zD i m).mono zd
  clear x6 x8 p8 s9 i3 j3 i5 j5 t3 t5 f K d i7 j7 ad ae;refine zG ?_;rcases (show (i:Int)<(m:Int)∨¬(i:Int)<(m:Int) by omega) with qi|qi
  case' inl=>
   refine zG ?_;refine zm [0,0,3,7] rfl ?_;refine zH ?_;refine dC (rX _ _ _ 2 zd) ?_;rintro _ bv ca ⟨cc,bo,l10,bq,br,bs,bt,bu,rfl,ai,aj⟩ am y;refine zH ?_;refine dC (iL _ ai aj (i9.x ⟨am,y⟩) (j9.x ⟨am,y⟩) (a:=2) ⟨by decide+kernel,by decide+kernel⟩ ((zD i m).sz (P:=11) zd zd zd) zo) ?_;rintro _ bw bd ⟨bh,aw,l11,ax,ay,az,b0,b3,rfl,Z,a0⟩ ce a9;refine dSx (n0:=n0) [kz bh,jx aw l11 ax,kz ay,jx az b0 b3] ((a9 _ zo).trans ((y _ zo).trans p9)) ?_;intro b5 a2 L;rw [yo (show 3*n0≤3*w+2 by omega)];have ec:(((2:Int):Rat))*dD A S b i m=cv (dD A S) b i m:=by unfold cv;rw [eN zo];rfl
   rw [ec] at Z a0;have T:Ex0 g h1 b5:=⟨fun c hc=>(L.1 c zo).trans ((a9 c zo).trans ((y c zo).trans (X9.e c hc)))⟩;have I:=Z.t (Tr.s L (Tr.refl _ _));have J:=a0.t (Tr.s L (Tr.refl _ _));have bm:w+1≤bd:=zo;clear y a9 L p9 i9 j9 X9 ai aj Z a0 y9
  case' inr=>
   have ec:dD A S b i m=cv (dD A S) b i m:=by unfold cv;rw [cC zo]
   rw [ec] at i9 j9;have T:=X9;have I:=i9;have J:=j9;have a2:=p9;have bm:=y9;refine zG ?_;clear p9 i9 j9 X9 y9
  all_goals
   refine zG ?_;refine sC (jh _ I J) ?_;rintro _ F a1 hv y13 C;obtain ⟨cd,rfl,hs⟩:=hv.or;have l:Ex0 g h1 F:=⟨fun c hc=>(C c zo).trans (T.e c hc)⟩;have bb:=I.x ⟨y13,C⟩;have bc:=J.x ⟨y13,C⟩;have cb:=(C (3*w+2) zo).trans a2;have al:=(l.e bp zo).trans p1;have R:Tr g h1 a1 F:=⟨zo,fun c hc=>.inl (l.e c hc)⟩;have V:=g1.go entP.kp R (fun b Y=>l.e b (g1.bk b Y).2.1);clear C T I J a2 hv;rcases hs with ⟨hs,h0⟩|⟨hs,h0⟩
   ·refine zG ?_;exact sK (m+1,E,jx av (gP E) (gP E)) ⟨rfl,zo,al,V,O.trans R,fun c hc hn hv=>(l.e c zo).trans (x1 c hc hn hv),U,p.mono (.inr ⟨rfl,.inr ⟨rfl,zo⟩⟩),o.skip u (B7.1 h0),by show gP E≤9*b+3*i+(m+1-i);omega,by show i≤m+1;omega,hm⟩
   refine zG ?_;refine zm [0,1,0,0,0,0,32,124,252,511,1023,2047] rfl ?_;refine zH ?_;refine dC (zc7 _ bb bc (m:=12) (zc.sz zd zd zd) zd).cx ?_;rintro _ bx ak rfl cf bj;refine dT #[jy .i64 (b:Int),jy .i64 (i:Int),jy .i64 (m:Int),kF ⟨⟨ratT (cv (dD A S) b i m)⟩⟩] ?_;refine dMs [jy .i64 (b:Int),jy .i64 (i:Int),jy .i64 (m:Int),kF ⟨⟨ratT (cv (dD A S) b i m)⟩⟩] ?_;intro ac be bl;have D:∀c,c<3*a1→ac c=F c:=fun c hc=>(bl c zo).trans (bj c hc);have aa:Tr a1 F (ak+1) ac:=⟨zo,fun c hc=>.inl (D c hc)⟩;have b4:=V.go entP.kp aa (fun b Y=>D b (V.bk b Y).2.1);refine dGm (n0:=n0) [jy .i64 (b:Int),jy .i64 (i:Int),jy .i64 (m:Int),kF ⟨⟨ratT (cv (dD A S) b i m)⟩⟩] [(⟨(b:Int),(i:Int),(m:Int),ratT (cv (dD A S) b i m)⟩:Ent)] b4 entP.kp (.cons (c:=[jy .i64 (b:Int),jy .i64 (i:Int),jy .i64 (m:Int),kF ⟨⟨ratT (cv (dD A S) b i m)⟩⟩]) rfl rfl .nil) ⟨rfl,rfl⟩ (yH be R2) eT (by show gP E+1<_;omega) zo ?_;intro bi b6 bn q ar au aq ap;have q:GR 4 entP lo b6 (ak+1+1) 76 bi (E++[⟨(b:Int),(i:Int),(m:Int),ratT (cv (dD A S) b i m)⟩]):=q;obtain ⟨ab,rfl⟩:=q.shape rfl;have bg:=(au bp zo).trans ((D bp zo).trans al);refine zH ?_;refine dSx (n0:=n0) [jx aB lB cB,jy .i64 (fr:Int),jx ab _ _,jx aF lF cF,jx aE lE cE] bg ?_;intro bz bf M;rw [yo (show 3*n0≤bp from b8.1)];refine zG ?_;exact sK (m+1,E++[⟨(b:Int),(i:Int),(m:Int),ratT (cv (dD A S) b i m)⟩],jx ab _ _) ⟨rfl,zo,bf,q.go entP.kp (Tr.s M (Tr.refl _ _)) (fun b Y=>M.1 b (by have:=(q.bk b Y).1;omega)),(O.trans (R.trans (aa.trans ar))).trans (Tr.s M (Tr.refl _ _)),fun c hc hn hv=>(M.1 c hn).trans ((aq c zo (fun h=>by rcases U c h with h|h;exact hv h;omega)).trans ((D c zo).trans ((l.e c zo).trans (x1 c hc hn hv)))),fun c hc=>.inr (by have:=ap c hc;omega),p.snoc G u hm zc (fun e=>h0 (by rw [e];rfl)),o.snoc u,by show gP (E++[_])≤9*b+3*i+(m+1-i);rw [nn];show (gP E)+1≤_;omega,by show i≤m+1;omega,hm⟩
 have b9:m=N:=zo;subst b9;refine zG ?_;exact hQ _ h1 g E _ ⟨rfl,rfl,rfl,rfl,rfl,rfl,rfl,rfl,rfl,rfl,rfl,rfl,rfl,rfl,rfl,eP⟩ y1 p1 g1 O x1 U p o W
end
end
section
set_option maxRecDepth 100000
theorem zgm {N:Nat}{a s:Nat→Nat→Rat}{i:Nat}:∀{j:Nat},j≤N→dR (rowQ N a i) (rowQ N s i) j=sm (fun c=>a i c*s i c) j:=by
 intro j;induction j with
 |zero=>intro _;rfl
 |succ j ih=>
  intro d;rw [zgl (uQ zo) (uQ zo),ih zo];rfl
theorem zbh {D B:Nat}{f:Nat→Rat}(h:∀i,FN D B (f i))(n:Nat):FN D (B*n) (sm f n):=by
 induction n with
 |zero=>exact FN.zero _ _
 |succ n ih=>exact (ih.add (h n)).mono (by rw [Ch];omega)
section
variable {lo fr:Nat}{Ns:List Nat}{A S M:Nat→Nat→Nat→Rat}
noncomputable def gpR (M S:Nat→Nat→Nat→Rat)(b N:Nat)(i:Nat):Rat:=sm (fun r=>sm (fun c=>M b r c*S b r c) N) i
theorem duI (k:Nat){c:Code}(hc:oH Tryz.f5 ([1,1,1,1,1,1,1,1,0,1,0,0,1,1,0,0,1,1,1,1]++[0])=some c){Q:Ex→SV→Prop}
  (hL:wU t [(3,y3),(4,kS (some ⟨bp,0,none⟩)),(5,y5),(6,y6),(7,kS (some ⟨bg,0,none⟩)),(8,slN (gP Ns) bS),(9,y9),(11,jy .i64 (b:Int)),(12,jy .i64 (N:Int)),(13,slN N tm),(14,slN N ts),(15,jy .i64 ((0:Nat):Int)),(46,z46),(47,z47),(48,jy .i64 (b:Int))])
  (J:Ns[b]?=some N)(ae:1≤N∧N≤3)(ar:b≤1)(aj:n0≤lo∧lo≤n)(ag:3*n0≤bp∧bp<3*lo)(K:3*n0≤bg∧bg<3*lo∧bg≠bp)
  (mS:RMs h n bS Ns tbs rbs A)(mT:RM h n ts N rt (S b))(mM:RM h n tm N rm (M b))(zA:∀i j,Sz 11 (A b i j))(zS:∀i j,FN 1 8 (S b i j))(zM:∀i j,FN 1 8 (M b i j))(zD:∀i j,FN 24 (960*2) (dD A S b i j))
  (d:∀c,c=bS∨c∈tbs∨yR rbs c∨(c=ts∨c∈rt)∨c=tm∨c∈rm→c<3*n∧c≠bp∧c≠bg∧¬BkOf vO c)
  (pP:h bp=some (.row [jx aB lB cB,jy .i64 (fr:Int),vO,jx aF lF cF,jx aE lE cE] ep))(pG:Box4 h n bg g0)(ah:FN 1 (576*b) g0)(gO:GR 4 entP lo h n 76 vO E)(o:EW Ns E b 0 0)(m:CoI Ns (dD A S) E b 0 0)(F:gP E≤9*b)
  (hQ:∀(t':TF) (h':HF) (n':Nat) (E':List Ent) (v':Value),wU t' [(3,y3),(4,kS (some ⟨bp,0,none⟩)),(5,y5),(6,y6),(7,kS (some ⟨bg,0,none⟩)),(8,slN (gP Ns) bS),(9,y9),(11,jy .i64 (b:Int)),(12,jy .i64 (N:Int)),(46,z46),(47,z47),(48,jy .i64 (b:Int))]→n≤n'→h' bp=some (.row [jx aB lB cB,jy .i64 (fr:Int),v',jx aF lF cF,jx aE lE cE] ep)→Box4 h' n' bg (g0+gpR M S b N N)→GR 4 entP lo h' n' 76 v' E'→Tr n h n' h'→(∀c,c<3*n→c≠bp→c≠bg→¬BkOf vO c→h' c=h c)→(∀c,BkOf v' c→BkOf vO c∨3*n≤c)→EW Ns E' (b+1) 0 0→CoI Ns (dD A S) E' (b+1) 0 0→gP E'≤9*(b+1)→Q (.exit 2) ⟨t',h',n',[]⟩):
  EC (ctx (k+19) n0 (Tryz.f5).ntmps) c ⟨t,h,n,[]⟩ Q:=by
 obtain rfl:=A0 (hc.symm.trans (rfl:oH Tryz.f5 ([1,1,1,1,1,1,1,1,0,1,0,0,1,1,0,0,1,1,1,1]++[0])=some _));clear hc;refine sF (α:=Nat×List Ent×Value) (fun z=>[(3,y3),(4,kS (some ⟨bp,0,none⟩)),(5,y5),(6,y6),(7,kS (some ⟨bg,0,none⟩)),(8,slN (gP Ns) bS),(9,y9),(11,jy .i64 (b:Int)),(12,jy .i64 (N:Int)),(13,slN N tm),(14,slN N ts),(15,jy .i64 (z.1:Int)),(46,z46),(47,z47),(48,jy .i64 (b:Int))])
  (fun z h' n' w'=>w'=[]∧n≤n'∧h' bp=some (.row [jx aB lB cB,jy .i64 (fr:Int),z.2.2,jx aF lF cF,jx aE lE cE] ep)∧Box4 h' n' bg (g0+gpR M S b N z.1)∧GR 4 entP lo h' n' 76 z.2.2 z.2.1∧Tr n h n' h'∧(∀c,c<3*n→c≠bp→c≠bg→¬BkOf vO c→h' c=h c)∧(∀c,BkOf z.2.2 c→BkOf vO c∨3*n≤c)∧EW Ns z.2.1 b z.1 z.1∧CoI Ns (dD A S) z.2.1 b z.1 z.1∧gP z.2.1≤9*b+3*z.1∧z.1≤N) (fun z=>N-z.1)
  (0,E,vO) ⟨rfl,eT,pP,(by show Box4 h n bg (g0+0);rw [A2];exact pG),gO,Tr.refl _ _,fun _ _ _ _ _=>rfl,fun c hc=>.inl hc,o,m,F,eU⟩ ?_ (hl:=hL)
 clear o m gO F pG;rintro ⟨i,E,v⟩ t h1 u _ ⟨rfl,y1,O,H,g1,I,x1,f,o,m,F,a3⟩;have y1:n≤u:=y1;have O:h1 bp=some (.row [jx aB lB cB,jy .i64 (fr:Int),v,jx aF lF cF,jx aE lE cE] ep):=O;have H:Box4 h1 u bg (g0+gpR M S b N i):=H;have g1:GR 4 entP lo h1 u 76 v E:=g1;have f:∀c,BkOf v c→BkOf vO c∨3*n≤c:=f;have o:EW Ns E b i i:=o;have m:CoI Ns (dD A S) E b i i:=m;have F:gP E≤9*b+3*i:=F;have a3:i≤N:=a3;refine zG ?_;by_cases qi:(i:Int)<(N:Int)
 ·have hi:i<N:=zo;have e:∀c,c=bS∨c∈tbs∨yR rbs c∨(c=ts∨c∈rt)∨c=tm∨c∈rm→h1 c=h c:=fun c hc=>x1 c (d c hc).1 (d c hc).2.1 (d c hc).2.2.1 (d c hc).2.2.2;have aa:RMs h1 u bS Ns tbs rbs A:=mS.go I fun c hc=>e c (by rcases hc with h|h|h;exact .inl h;exact .inr (.inl h);exact .inr (.inr (.inl h)));have g:RM h1 u ts N rt (S b):=mT.go I fun c hc=>e c (.inr (.inr (.inr (.inl hc))));have w:RM h1 u tm N rm (M b):=mM.go I fun c hc=>e c (.inr (.inr (.inr (.inr hc))));clear e;refine zG ?_;refine duK k rfl ⟨rfl,rfl,rfl,rfl,rfl,rfl,rfl,rfl,rfl,rfl,rfl,rfl,rfl,rfl,rfl,rfl,eP⟩ J ae.2 zo hi ⟨aj.1,zo⟩ ag aa g zA (fun i j=>(zS i j).sz zd zd zd) zD (fun c hc=>?_) O g1 o m F ?_
  ·have h2:=d c (by rcases hc with h|h|h|h|h;exact .inl h;exact .inr (.inl h);exact .inr (.inr (.inl h));exact .inr (.inr (.inr (.inl (.inl h))));exact .inr (.inr (.inr (.inl (.inr h)))));exact ⟨h2.2.1,fun hv=>by rcases f c hv with h|h;exact h2.2.2.2 h;omega⟩
  intro t h2 G E2 v2 a0 y2 p2 g2 R U f2 ac ab aq;rw [←xO a0];clear a0;have q2:Box4 h2 G bg (g0+gpR M S b N i):=H.go R (U bg H.1 K.2.2 fun hv=>by
   have:=(g1.bk bg hv).1;omega)
  have C:RM h2 G ts N rt (S b):=g.go R fun c hc=>U c (by rcases hc with rfl|hc;exact g.t.1;exact g.blt hc) (d c (.inr (.inr (.inr (.inl hc))))).2.1 fun hv=>by
   have D:=d c (.inr (.inr (.inr (.inl hc))));rcases f c hv with h|h
   ·exact D.2.2.2 h
   omega
  have y:RM h2 G tm N rm (M b):=w.go R fun c hc=>U c (by rcases hc with rfl|hc;exact w.t.1;exact w.blt hc) (d c (.inr (.inr (.inr (.inr hc))))).2.1 fun hv=>by
   have D:=d c (.inr (.inr (.inr (.inr hc))));rcases f c hv with h|h
   ·exact D.2.2.2 h
   omega
  clear aa g w H O;obtain ⟨b1,a1,_,an⟩:=y.get hi;obtain ⟨b2,a2,_,ao⟩:=C.get hi;obtain ⟨af,s4,a4,l4,c4,s5,a5,l5,c5,ap,p4,i4,j4⟩:=q2;have im:=NS.of (y.r i b1 a1) (L:=N) (c:=N) yV.symm eT;have is:=NS.of (C.r i b2 a2) (L:=N) (c:=N) yV.symm eT;have z5:∀{a:Nat→Nat→Rat},(∀i j,FN 1 8 (a i j))→∀q∈rowQ N a i,Sz 5 q:=fun ha q hq=>by
   obtain ⟨j,_,rfl⟩:=Ay.1 hq;exact (ha i j).sz zd zd zd
  have Y:∀j,j≤N→FN 1 (64*j) (dR (rowQ N (M b) i) (rowQ N (S b) i) j):=fun j hj=>by
   rw [zgm hj];exact zbh (fun c=>(zM i c).mul (zS i c)) j
  have zg:FN 1 (576*b+192*i) (g0+gpR M S b N i):=(ah.add (zbh (B:=192) (fun r=>(zbh (fun c=>(zM r c).mul (zS r c)) N).mono zo) i)).mono eT;refine zG ?_;refine zm [0,0,0,6,14,0,0,96,224,510,1023,2047] rfl ?_;refine zH ?_;refine dI (j:=i) (len:=N) rfl hi ?_;refine dL (y.row a1) y.t.1 0 ?_;refine zH ?_;refine dI (j:=i) (len:=N) rfl hi ?_;refine dL (C.row a2) C.t.1 0 ?_;have p:=zqk (k+12) im is (by rw [yV,yV]) (z5 zM) (z5 zS) (fun j hj=>(Y j (by rw [yV] at hj;exact hj)).sz zd zd (by rw [yV] at hj;omega)) (by rw [yV];omega);rw [yV,zgm eT] at p;refine dC p ?_;rintro _ h6 n6 ⟨s6,a6,l6,c6,s7,a7,l7,c7,rfl,i7,j7⟩ y6 V;refine dC (mb _ (i4.x ⟨y6,V⟩) (j4.x ⟨y6,V⟩) i7 j7 (a:=11) (b:=8) (zg.sz zd zd zo) ((by have:=Y N eT;rw [zgm eT] at this;exact this.sz zd zd zo)) zo) ?_;rintro _ h8 n8 ⟨s8,a8,l8,c8,s9,a9,l9,c9,rfl,i9,j9⟩ y8 x8;have T:Ext G h2 h8:=fun c hc=>(x8 c zo).trans (V c hc);refine dSx (n0:=n0) [kz s8,jx a8 l8 c8,kz s9,jx a9 l9 c9] ((T bg af).trans p4) ?_;intro Z am l;rw [yo (show 3*n0≤bg from K.1)];have W:Tr G h2 n8 Z:=Tr.s l ⟨zo,fun c hc=>.inl (T c hc)⟩;have P:∀c,c<3*G→c≠bg→Z c=h2 c:=fun c hc hn=>(l.1 c hn).trans (T c hc);have eg:g0+gpR M S b N i+sm (fun c=>M b i c*S b i c) N=g0+gpR M S b N (i+1):=by show _=g0+(gpR M S b N i+_);rw [Cx]
  rw [eg] at i9 j9;have ak:=i9.t (Tr.s l (Tr.refl _ _));have al:=j9.t (Tr.s l (Tr.refl _ _));have ad:=g2.go entP.kp W (fun c hc=>P c (g2.bk c hc).2.1 (by have:=(g2.bk c hc).1;omega));clear V x8 T l i9 j9 i7 j7 i4 j4 p4 p;refine zG ?_;exact sK (i+1,E2,v2) ⟨rfl,zo,(P bp zo (DN K.2.2)).trans p2,⟨zo,_,_,_,_,_,_,_,_,_,am,ak,al⟩,ad,(I.trans R).trans W,fun c hc D h4 h5=>(P c zo h4).trans ((U c zo D fun hv=>by rcases f c hv with h|h;exact h5 h;omega).trans (x1 c hc D h4 h5)),fun c hc=>by
   rcases f2 c hc with h|h
   ·exact f c h
   ·exact .inr zo,ac.mono (.inr ⟨rfl,.inl (Dt i)⟩),ab.row J,by show gP E2≤9*b+3*(i+1);omega,hi⟩
 have ai:i=N:=zo;subst ai;refine zG ?_;exact hQ _ h1 u E v ⟨rfl,rfl,rfl,rfl,rfl,rfl,rfl,rfl,rfl,rfl,rfl,rfl,eP⟩ y1 O H g1 I x1 f (o.mono (.inl (Dt b))) (m.blk J) zo
end
end
theorem zrq:∀{a c:List Nat},gP c=gP a→(mds a c).map (·.n)=a:=by
 intro a;induction a with
 |nil=>intro c _;rfl
 |cons N a ih=>
  intro c h;cases c with
  |nil=>cases h
  |cons b c=>show N::(mds a c).map (·.n)=_;rw [ih (Nat.succ.inj h)]
section
variable {p:Sdp}
theorem zpv (k:Nat){m:Int}(i:0<m∧m<1000000000)(l:Tp h T)(j:T.m≤n):CF (cal (k+1)) 10 [kS (some ⟨T.bt,0,none⟩),jy .i64 m] h n fun v a c w=>TLeft T h n a c w∧∃r:Int,v=jy .i64 r∧0≤r∧r<m:=by
 refine yg (uY k i l j) ?_;rintro v a c w ⟨d,rfl,e,f,r⟩;exact ⟨⟨d,eT,e,fun b _ g=>f b g⟩,r⟩
end
section
set_option maxRecDepth 100000
variable {k:Nat}
def upB (M:Nat→Nat→Nat→Rat)(b:Nat)(a:Nat→Nat→Rat):Nat→Nat→Nat→Rat:=fun k=>if k=b then a else M k
theorem cg (M:Nat→Nat→Nat→Rat)(b:Nat)(a:Nat→Nat→Rat):upB M b a b=a:=eN rfl
theorem jV {M:Nat→Nat→Nat→Rat}{a:Nat→Nat→Rat}(h:k≠b):upB M b a k=M k:=cC h
theorem kV {P:(Nat→Nat→Rat)→Prop}{M:Nat→Nat→Nat→Rat}{a:Nat→Nat→Rat}(h:∀k,P (M k))(c:P a)(k:Nat):P (upB M b a k):=by
 by_cases hk:k=b
 ·rw [hk,cg];exact c
 rw [jV hk];exact h k
theorem CoI.up {Ns:List Nat}{A S:Nat→Nat→Nat→Rat}{s:Nat→Nat→Rat}(h:CoI Ns (dD A S) E b 0 0):CoI Ns (dD A (upB S b s)) E b 0 0:=fun k N r c a d e=>by
 rw [h k N r c a d e];by_cases hb:Bef k r c b 0 0
 ·rw [eN hb,eN hb];unfold dD;rw [jV (show k≠b by unfold Bef at hb;omega)]
 rw [cC hb,cC hb]
noncomputable def gpB (M S:Nat→Nat→Nat→Rat)(Ns:List Nat)(b:Nat):Rat:=sm (fun k=>gpR M S k ((Ns[k]?).getD 0) ((Ns[k]?).getD 0)) b
theorem zp6 {M S:Nat→Nat→Nat→Rat}{Ns:List Nat}{m s:Nat→Nat→Rat}:gpB (upB M b m) (upB S b s) Ns b=gpB M S Ns b:=yP fun k a=>by
 unfold gpR;rw [jV (show k≠b by omega),jV (show k≠b by omega)]
theorem zk5 {M S:Nat→Nat→Nat→Rat}{Ns:List Nat}(d:∀N∈Ns,N≤3)(zM:∀k i j,FN 1 8 (M k i j))(zS:∀k i j,FN 1 8 (S k i j))(b:Nat):FN 1 (576*b) (gpB M S Ns b):=by
 refine zbh (B:=576) (fun k=>?_) b;have a:(Ns[k]?).getD 0≤3:=by
  cases h:Ns[k]? with
  |none=>exact Nat.zero_le _
  |some N=>exact d N (ns h)
 generalize (Ns[k]?).getD 0=N at a;exact (zbh (B:=192) (fun r=>(zbh (fun c=>(zM k r c).mul (zS k r c)) N).mono zo) N).mono zo
section
variable {Ns:List Nat}{A:Nat→Nat→Nat→Rat}{fr:Nat}{p:Sdp}
structure DuB (T:TapeI)(Ns:List Nat)(A:Nat→Nat→Nat→Rat)(h:HF)(n n0 bp bx bg ep ex:Nat)(fr:Nat)(aB aF aE:Option Addr)(lB cB lF cF lE cE:Nat)(h':HF)(n':Nat)(j:Nat)(bs:List Nat)(vX:Value)(M S:Nat→Nat→Nat→Rat)(E:List Ent)(vO:Value):Prop where
 le:n≤n'
 tp:Tp h' T
 fx:∀c,c<3*n→c≠T.bt→c≠bp→c≠bx→c≠bg→h' c=h c
 tr:Tr n h n' h'
 pP:h' bp=some (.row [jx aB lB cB,jy .i64 (fr:Int),vO,jx aF lF cF,jx aE lE cE] ep)
 pX:h' bx=some (.row [vX,jx none 0 0] ex)
 pG:Box4 h' n' bg (gpB M S Ns j)
 gX:GR 3 mdP n h' n' 70 vX (mds (Ns.take j) bs)
 o:∀(k N b:Nat),Ns[k]?=some N→bs[k]?=some b→OT h' n' b ((tabL N (M k)).map ratT)∧¬BkOf vX b∧¬BkOf vO b
 fb:∀b∈bs,3*n≤b
 gO:GR 4 entP n h' n' 76 vO E
 di:∀c,BkOf vX c→¬BkOf vO c
 ew:EW Ns E j 0 0
 co:CoI Ns (dD A S) E j 0 0
 el:gP E≤9*j
 mg:∀k,Gram (M k)
 sg:∀k,Gram (S k)
 mz:∀k,∀i j,FN 1 8 (M k i j)
 sz:∀k,∀i j,FN 1 8 (S k i j)
 lj:gP bs=j
theorem Gram.zero:Gram fun _ _=>0:=⟨fun _=>0,fun _=>0,fun _ _=>by grind⟩
theorem Gram.sym {a:Nat→Nat→Rat}(g:Gram a)(i j:Nat):a i j=a j i:=by
 obtain ⟨x,y,h⟩:=g;rw [h,h]
 grind
theorem duB (k:Nat){c:Code}(hc:oH Tryz.f5 ([1,1,1,1,1,1,1,1,0,1]++[0])=some c){Q:Ex→SV→Prop}
  (hL:wU t [(3,kS (some ⟨T.bt,0,none⟩)),(4,kS (some ⟨bp,0,none⟩)),(5,y5),(6,kS (some ⟨bx,0,none⟩)),(7,kS (some ⟨bg,0,none⟩)),(8,slN (gP Ns) bS),(9,y9),(46,jx aB lB cB),(47,jy .i64 (lB:Int)),(48,jy .i64 ((0:Nat):Int))])
  (bo:Ns=dimN p)(cf:1≤gP Ns∧gP Ns≤2)(bw:lB=gP Ns)(ay:∀d∈p.blocks,1≤d∧d≤3)(hB:Sl h n 1 (jx aB lB cB) (i64s p.blocks))
  (bu:∀a,aB=some a→a.block≠T.bt∧a.block≠bp∧a.block≠bx∧a.block≠bg)
  (ht:Tp h T)(ci:T.m≤n)(bz:n0≤n)(a6:3*n0≤T.bt∧T.bt<3*T.m)(ch:3*T.m≤bp∧3*T.m≤bx∧3*T.m≤bg)(a5:3*n0≤bp∧bp<3*n∧bp≠T.bt)(J:3*n0≤bx∧bx<3*n∧bx≠T.bt∧bx≠bp)(F:3*n0≤bg∧bg<3*n∧bg≠T.bt∧bg≠bp∧bg≠bx)
  (mS:RMs h n bS Ns tbs rbs A)(zA:∀k i j,FN 24 1728 (A k i j))(a9:∀c,c=bS∨c∈tbs∨yR rbs c→c≠T.bt∧c≠bp∧c≠bx∧c≠bg)
  (pP:h bp=some (.row [jx aB lB cB,jy .i64 (fr:Int),jx none 0 0,jx aF lF cF,jx aE lE cE] ep))(pX:h bx=some (.row [jx none 0 0,jx none 0 0] ex))(pG:Box4 h n bg 0)
  (hQ:∀(t':TF) (h':HF) (n':Nat) (bs:List Nat) (vX:Value) (M S:Nat→Nat→Nat→Rat) (E:List Ent) (vO:Value),wU t' [(3,kS (some ⟨T.bt,0,none⟩)),(4,kS (some ⟨bp,0,none⟩)),(5,y5),(6,kS (some ⟨bx,0,none⟩)),(7,kS (some ⟨bg,0,none⟩)),(9,y9)]→DuB T Ns A h n n0 bp bx bg ep ex fr aB aF aE lB cB lF cF lE cE h' n' (gP Ns) bs vX M S E vO→Q (.exit 0) ⟨t',h',n',[]⟩):
  EC (ctx (k+19) n0 (Tryz.f5).ntmps) c ⟨t,h,n,[]⟩ Q:=by
 obtain rfl:=A0 (hc.symm.trans (rfl:oH Tryz.f5 ([1,1,1,1,1,1,1,1,0,1]++[0])=some _));clear hc;have aw:∀{j N:Nat},Ns[j]?=some N→p.blocks[j]?=some (N:Int)∧1≤N∧N≤3:=fun {j N} hj=>by
  rw [bo] at hj;unfold dimN at hj;rw [sr] at hj;cases f:p.blocks[j]? with
  |none=>rw [f] at hj;cases hj
  |some d=>
   rw [f] at hj;have:=ay d (ns f);have hj:d.toNat=N:=A0 hj;rw [show (N:Int)=d by omega];exact ⟨rfl,zo,zo⟩
 have bn:∀N∈Ns,N≤3:=fun N hN=>by
  obtain ⟨j,hj,rfl⟩:=List.mem_iff_getElem.1 hN;exact (aw (k4 hj)).2.2
 subst bw;refine sF (α:=Nat×List Nat×Value×(Nat→Nat→Nat→Rat)×(Nat→Nat→Nat→Rat)×List Ent×Value) (fun z=>[(3,kS (some ⟨T.bt,0,none⟩)),(4,kS (some ⟨bp,0,none⟩)),(5,y5),(6,kS (some ⟨bx,0,none⟩)),(7,kS (some ⟨bg,0,none⟩)),(8,slN (gP Ns) bS),(9,y9),(46,jx aB (gP Ns) cB),(47,jy .i64 (gP Ns:Int)),(48,jy .i64 (z.1:Int))])
  (fun z h' n' w'=>w'=[]∧DuB T Ns A h n n0 bp bx bg ep ex fr aB aF aE (gP Ns) cB lF cF lE cE h' n' z.1 z.2.1 z.2.2.1 z.2.2.2.1 z.2.2.2.2.1 z.2.2.2.2.2.1 z.2.2.2.2.2.2∧z.1≤gP Ns) (fun z=>gP Ns-z.1)
  (0,[],jx none 0 0,fun _ _ _=>0,fun _ _ _=>0,[],jx none 0 0) ⟨rfl,⟨eT,ht,fun _ _ _ _ _ _=>rfl,Tr.refl _ _,pP,pX,pG,GR.nil,fun k N b _ h=>(by have h:([]:List Nat)[k]?=some b:=h;simp at h),fun b f=>cA f nN,GR.nil,fun c ⟨o,l,c',e⟩=>(by cases e),EW.nil Ns,CoI.nil Ns _,eU,fun _=>Gram.zero,fun _=>Gram.zero,fun _ _ _=>FN.zero _ _,fun _ _ _=>FN.zero _ _,rfl⟩,eU⟩ ?_ (hl:=hL)
 clear pP pX pG;rintro ⟨j,bs,vX,M,S,E,vO⟩ t h1 y _ ⟨rfl,D,hj⟩;have D:DuB T Ns A h n n0 bp bx bg ep ex fr aB aF aE (gP Ns) cB lF cF lE cE h1 y j bs vX M S E vO:=D;have hj:j≤gP Ns:=hj;have lj:=D.lj;subst lj;have y1:=D.le;have az:(mds (Ns.take (gP bs)) bs).length=gP bs:=by rw [rP (by rw [Af];omega),Af];omega
 obtain ⟨av,rfl⟩:=D.gX.shape (L:=gP bs) az;refine zG ?_;by_cases qj:(gP bs:Int)<(gP Ns:Int)
 ·obtain ⟨N,a0⟩:∃N,Ns[gP bs]?=some N:=⟨_,k4 zo⟩;obtain ⟨c0,hN⟩:=aw a0;obtain ⟨b3,o3,e4,m3,r3,t3⟩:=rf hB c0;have a8:=bu _ e4;have t3:At h1 b3 (o3+gP bs*1) [jy .i64 (N:Int)]:=t3.keep (D.fx b3 m3 a8.1 a8.2.1 a8.2.2.1 a8.2.2.2);refine zG ?_;refine sI (j:=gP bs) e4 r3 ?_;refine sL t3 (show b3<3*y by omega) 0 ?_;refine zG ?_;have aa:=zpv (k+18) (m:=2) zd D.tp (show T.m≤y by omega);refine zB _ R5 aa ?_;rintro _ h4 n4 w4 ⟨l4,r,rfl,c2,c3⟩;have T4:=l4.tr D.tp;obtain ⟨b0,y4,ah,b5⟩:=l4;rw [vW,z0 (W:=w4) (fun b f=>by rw [b0 b f];exact a6.1)];obtain ⟨s,rfl⟩:∃s:Nat,r=(s:Int):=⟨r.toNat,zo⟩;refine zG ?_;have a7:=zlm (k+11) (N:=N) (K:=1+s) hN zo ah (show T.m≤n4 by omega);refine zB _ R5 a7 ?_;rintro _ h5 n5 w5 ⟨l5,tm,rm,a,rfl,m5,_,z5,g5,f5⟩;have T5:=l5.tr ah;obtain ⟨b1,cn,ai,b6⟩:=l5;rw [vW,z0 (W:=w5) (fun b f=>by rw [b1 b f];exact a6.1)];refine zG ?_;have aa:=zpv (k+18) (m:=2) zd ai (show T.m≤n5 by omega);refine zB _ R5 aa ?_;rintro _ h6 n6 w6 ⟨l6,r,rfl,c4,c5⟩;have T6:=l6.tr ai;obtain ⟨b2,cp,aj,ak⟩:=l6;rw [vW,z0 (W:=w6) (fun b f=>by rw [b2 b f];exact a6.1)];obtain ⟨s',rfl⟩:∃s:Nat,r=(s:Int):=⟨r.toNat,zo⟩;refine zG ?_;have a7:=zlm (k+11) (N:=N) (K:=1+s') hN zo aj (show T.m≤n6 by omega);refine zB _ R5 a7 ?_;rintro _ h7 C w7 ⟨l7,ts,rt,d,rfl,m7,_,z7,g7,f7⟩;have T7:=l7.tr aj;obtain ⟨b4,cq,c6,al⟩:=l7;rw [vW,z0 (W:=w7) (fun b f=>by rw [b4 b f];exact a6.1)];have b9:RM h7 C tm N rm a:=m5.go (T6.trans T7) fun c hc=>by
   have h1:c<3*n5:=by rcases hc with rfl|hc;exact m5.t.1;exact m5.blt hc
   have h2:=f5 c hc;exact (al c zo zo).trans (ak c h1 zo)
  have V:Tr y h1 C h7:=((T4.trans T5).trans T6).trans T7;have u:∀c,c<3*y→c≠T.bt→h7 c=h1 c:=fun c hc f=>(al c zo f).trans ((ak c zo f).trans ((b6 c zo f).trans (b5 c hc f)));have cm:y≤C:=zo;have a3:∀c,c=tm∨c∈rm→3*y≤c∧c<3*C:=fun c hc=>by
   have h1:c<3*n5:=by rcases hc with rfl|hc;exact m5.t.1;exact m5.blt hc
   have h2:=f5 c hc;omega
  have a4:∀c,c=ts∨c∈rt→3*y≤c∧c<3*C:=fun c hc=>by
   have h1:c<3*C:=by rcases hc with rfl|hc;exact m7.t.1;exact m7.blt hc
   have h2:=f7 c hc;omega
  clear aa a7 b0 b1 b2 b4 T4 T5 T6 T7 b5 b6 ak al ah ai aj m5 f5 f7 c2 c3 c4 c5 t3;have ck:=(u bx zo J.2.2.1).trans D.pX;refine zG ?_;refine zm [0,1,0,4,12,31,63,127] rfl ?_;refine zH ?_;have c1:=zmr (k+12) b9.rd hN (P:=4) (fun i j _ _=>(z5 i j).sz zd zd zd) zd;refine dC c1 ?_;rintro _ h8 H ⟨g,rfl,f8,o8⟩ y8 x8;refine dMs [jy .i64 (N:Int),jy .i64 (N:Int),jx (some ⟨g,0,none⟩) (N*N) (N*N)] ?_;intro h9 p9 x9;have a2:∀c,c<3*C→h9 c=h7 c:=fun c hc=>(x9 c zo).trans (x8 c hc);have ar:Tr C h7 (H+1) h9:=⟨zo,fun c hc=>.inl (a2 c hc)⟩;have o9:=o8.ext strP.kp x9 zs;have cj:=o8.1;have bm:=D.gX.go mdP.kp (V.trans ar) (fun b f=>(a2 b (by have:=(D.gX.bk b f).2.1;omega)).trans (u b (D.gX.bk b f).2.1 (by have:=(D.gX.bk b f).1;omega)));refine dGm (n0:=n0) [jy .i64 (N:Int),jy .i64 (N:Int),jx (some ⟨g,0,none⟩) (N*N) (N*N)] [⟨N,some ⟨g,0,none⟩,N*N⟩] bm mdP.kp (.cons (c:=[jy .i64 (N:Int),jy .i64 (N:Int),jx (some ⟨g,0,none⟩) (N*N) (N*N)]) rfl rfl .nil) ⟨rfl,rfl⟩ (yH p9 R2) eT (by rw [az];show (gP bs)+1<_;omega) zo ?_;intro cb au ce Y aq bj ap bi;have Y:GR 3 mdP n au (H+1+1) 70 cb (mds (Ns.take (gP bs+1)) (bs++[g])):=Y.as (pE (fun N b=>(⟨N,some ⟨b,0,none⟩,N*N⟩:MD)) a0).symm;obtain ⟨ad,rfl⟩:=Y.shape (L:=gP bs+1) (by rw [rP (by rw [Af,nn];show (gP bs)+1=_;omega),Af];omega);have bf:au bx=some (.row [jx av (gP bs) (gP bs),jx none 0 0] ex):=(bj bx zo).trans ((a2 bx zo).trans ((u bx zo J.2.2.1).trans D.pX));refine zH ?_;refine dSx (n0:=n0) [jx ad (gP bs+1) (gP bs+1),jx none 0 0] bf ?_;intro v c8 R;rw [yo (show 3*n0≤bx from J.1)];have q:∀c,c<3*C→c≠bx→¬BkOf (jx av (gP bs) (gP bs)) c→v c=h7 c:=fun c hc hn hv=>(R.1 c hn).trans ((ap c zo hv).trans (a2 c hc));have w:Tr C h7 (H+1+1) v:=(ar.trans aq).trans (Tr.s R (Tr.refl _ _));have nX:∀c,c<3*n→¬BkOf (jx av (gP bs) (gP bs)) c:=fun c hc hv=>by have:=(D.gX.bk c hv).1;omega
  have am:∀c,3*y≤c→¬BkOf (jx av (gP bs) (gP bs)) c:=fun c hc hv=>by have:=(D.gX.bk c hv).2.1;omega
  have O:∀c,3*y≤c→¬BkOf vO c:=fun c hc hv=>by have:=(D.gO.bk c hv).2.1;omega
  have nO:∀c,c<3*n→¬BkOf vO c:=fun c hc hv=>by have:=(D.gO.bk c hv).1;omega
  have ab:∀c,c<3*n→c≠T.bt→c≠bp→c≠bx→c≠bg→v c=h c:=fun c hc e1 e2 e3 e4=>(q c zo e3 (nX c hc)).trans ((u c zo e1).trans (D.fx c hc e1 e2 e3 e4));have b7:RM v (H+1+1) tm N rm (upB M (gP bs) a (gP bs)):=by
   rw [cg];exact b9.go w fun c hc=>q c (a3 c hc).2 (by have:=(a3 c hc).1;omega) (am c (a3 c hc).1)
  have ao:RM v (H+1+1) ts N rt (upB S (gP bs) d (gP bs)):=by
   rw [cg];exact m7.go w fun c hc=>q c (a4 c hc).2 (by have:=(a4 c hc).1;omega) (am c (a4 c hc).1)
  have ac:Tr n h (H+1+1) v:=(D.tr.trans V).trans w;have G:RMs v (H+1+1) bS Ns tbs rbs A:=mS.go ac fun c hc=>by
   have h1:c<3*n:=by
    rcases hc with rfl|hc|hc
    ·exact mS.s.1
    ·exact mS.tlt hc
    exact mS.rlt hc
   have h2:=a9 c hc;exact ab c h1 h2.1 h2.2.1 h2.2.2.1 h2.2.2.2
  have an:=(q bp zo (DN J.2.2.2) (nX bp a5.2.1)).trans ((u bp zo a5.2.2).trans D.pP);have bb:Box4 v (H+1+1) bg (gpB (upB M (gP bs) a) (upB S (gP bs) d) Ns (gP bs)):=by
   rw [zp6];exact D.pG.go (V.trans w) ((q bg zo F.2.2.2.2 (nX bg F.2.1)).trans (u bg zo F.2.2.1))
  have be:=D.gO.go entP.kp (V.trans w) (fun c hc=>(q c (by have:=(D.gO.bk c hc).2.1;omega) (by have:=(D.gO.bk c hc).1;omega) (fun hv=>D.di c hv hc)).trans (u c (D.gO.bk c hc).2.1 (by have:=(D.gO.bk c hc).1;omega)));have bh:Tp v T:=c6.ext (n:=T.m) (fun c hc=>q c zo zo (nX c zo)) eT;have zMa:∀k,∀i j,FN 1 8 (upB M (gP bs) a k i j):=kV (P:=fun a=>∀i j,FN 1 8 (a i j)) D.mz z5;have zSa:∀k,∀i j,FN 1 8 (upB S (gP bs) d k i j):=kV (P:=fun a=>∀i j,FN 1 8 (a i j)) D.sz z7;have zDa:∀i j,FN 24 (960*2) (dD A (upB S (gP bs) d) (gP bs) i j):=fun i j=>by
   have h1:=(FN.int (-1) (B:=1) zd).mul (zSa (gP bs) i j);exact ((zA (gP bs) i j).add ((h1.up 24).mono (B1:=192) zd)).mono zd
  refine zG ?_;refine duI k (lo:=n) (S:=upB S (gP bs) d) (M:=upB M (gP bs) a) rfl ⟨rfl,rfl,rfl,rfl,rfl,rfl,rfl,rfl,rfl,rfl,rfl,rfl,rfl,rfl,rfl,eP⟩ a0 hN zo ⟨bz,zo⟩ ⟨a5.1,a5.2.1⟩ ⟨F.1,F.2.1,F.2.2.2.1⟩ G ao b7 (fun i j=>(zA _ i j).sz zd zd zd) (zSa _) (zMa _) zDa (fun c hc=>?_) an bb (zk5 bn zMa zSa _) be D.ew D.co.up D.el ?_
  ·rcases hc with hc|hc|hc|hc|hc
   ·subst hc;have h2:=a9 c (.inl rfl);exact ⟨G.s.1,h2.2.1,h2.2.2.2,nO c mS.s.1⟩
   ·have h2:=a9 c (.inr (.inl hc));exact ⟨G.tlt hc,h2.2.1,h2.2.2.2,nO c (mS.tlt hc)⟩
   ·have h2:=a9 c (.inr (.inr hc));exact ⟨G.rlt hc,h2.2.1,h2.2.2.2,nO c (mS.rlt hc)⟩
   ·have h3:=a4 c hc;exact ⟨zo,zo,zo,O c h3.1⟩
   have h3:=a3 c hc;exact ⟨zo,zo,zo,O c h3.1⟩
  intro t af ba E2 v2 ax cl c9 ca bl a1 cc ae bd bc cd;rw [←xO ax];clear ax G b7 ao an bb;have Z:∀c,BkOf (jx ad (gP bs+1) (gP bs+1)) c→3*(H+1)≤c∧c<3*(H+1+1):=fun c hc=>⟨bi c hc,(Y.bk c hc).2.1⟩;have I:∀c,c<3*(H+1+1)→c≠bp→c≠bg→¬BkOf vO c→af c=v c:=cc;refine zG ?_;refine sK (gP bs+1,bs++[g],jx ad (gP bs+1) (gP bs+1),upB M (gP bs) a,upB S (gP bs) d,E2,v2) ⟨rfl,?_,by show gP bs+1≤_;omega⟩;refine ⟨zo,bh.ext (n:=T.m) (fun c hc=>I c zo zo zo (nO c zo)) eT,fun c hc e1 e2 e3 e4=>(I c zo e2 e4 (nO c hc)).trans (ab c hc e1 e2 e3 e4),ac.trans a1,c9,(I bx zo J.2.2.2 (DN F.2.2.2.2) (nO bx J.2.1)).trans c8,?_,?_,?_,?_,bl,?_,bd,bc,zo,kV D.mg g5,kV D.sg g7,zMa,zSa,by rw [nn];rfl⟩
  ·have e:gpB (upB M (gP bs) a) (upB S (gP bs) d) Ns (gP bs+1)=gpB (upB M (gP bs) a) (upB S (gP bs) d) Ns (gP bs)+gpR (upB M (gP bs) a) (upB S (gP bs) d) (gP bs) N N:=by
    show _+gpR _ _ _ ((Ns[gP bs]?).getD 0) ((Ns[gP bs]?).getD 0)=_;rw [a0];rfl
   rw [e];exact ca
  ·exact (Y.go mdP.kp (Tr.s R (Tr.refl _ _)) (fun c hc=>R.1 c (by have:=(Z c hc).1;omega))).go mdP.kp a1 fun c hc=>I c (Z c hc).2 (by have:=(Z c hc).1;omega) (by have:=(Z c hc).1;omega) (O c (by have:=(Z c hc).1;omega))
  ·intro k' N' U h0 h1;have h1:(bs++[g])[k']?=some U:=h1;have ag:=(oc.1 h1).1;rw [nn] at ag;have ag:k'<gP bs+1:=ag;by_cases hk:k'<gP bs
   ·rw [AZ hk] at h1;show OT af ba U ((tabL N' (upB M (gP bs) a k')).map ratT)∧_;rw [jV (show k'≠gP bs by omega)];obtain ⟨u1,u2,u3⟩:=D.o k' N' U h0 h1;have bq:=u1.1;have ay:=D.fb U (ns h1);refine ⟨(u1.go strP.kp (V.trans w) ((q U zo zo u2).trans (u U bq zo))).go strP.kp a1 (I U zo zo zo u3),fun hv=>by have:=(Z U hv).1;omega,fun hv=>?_⟩;rcases ae U hv with h|h
    ·exact u3 h
    omega
   have hk:k'=gP bs:=zo;subst hk;rw [AE eT,A7] at h1;rw [a0] at h0;cases h0;cases h1;show OT af ba g ((tabL N (upB M (gP bs) a (gP bs))).map ratT)∧_;rw [cg];have br:3*C≤g:=f8;have h9:¬BkOf (jx av (gP bs) (gP bs)) g:=am g zo;refine ⟨(((o9.go strP.kp aq (ap g zo h9)).go strP.kp (Tr.s R (Tr.refl _ _)) (R.1 g zo))).go strP.kp a1 (I g zo zo zo (O g zo)),fun hv=>by have:=(Z g hv).1;omega,fun hv=>?_⟩;rcases ae g hv with h|h
   ·exact O g zo h
   omega
  ·intro b f;rcases Al.1 f with f|f
   ·exact D.fb b f
   have br:3*C≤g:=f8;rw [nP.1 f];omega
  intro c hc hv;have h1:=Z c hc;rcases ae c hv with h|h
  ·exact O c zo h
  omega
 have bv:gP bs=gP Ns:=zo;refine zG ?_;refine hQ _ h1 y bs (jx av (gP bs) (gP bs)) M S E vO ⟨rfl,rfl,rfl,rfl,rfl,rfl,eP⟩ ?_;have c7:∀j',j'=gP bs→DuB T Ns A h n n0 bp bx bg ep ex fr aB aF aE (gP Ns) cB lF cF lE cE h1 y j' bs (jx av (gP bs) (gP bs)) M S E vO:=by
  rintro j' rfl;exact D
 exact c7 _ bv.symm
end
end
section
variable {len:Nat}
def Dis (u v:Value):Prop:=∀a l c a' l' c',u=jx (some a) l c→v=jx (some a') l' c'→a.block≠a'.block
theorem Gro.keep {lo:Nat}(g:Gro h lo n e sz v len c)(d:∀a l cap,v=jx (some a) l cap→h' a.block=h a.block)(f:n≤n'):Gro h' lo n' e sz v len c:=by
 cases g with
 |nil=>exact .nil
 |at_ hg hlo hb hr hl ho=>exact .at_ hg hlo zo ((d _ _ _ rfl).trans hr) hl ho
theorem Gro.lo {lo:Nat}(g:Gro h lo n e sz v len c)(hl:lo'≤lo):Gro h lo' n e sz v len c:=by
 cases g with
 |nil=>exact .nil
 |at_ hg hlo hb hr hl ho=>exact .at_ hg zo hb hr hl ho
theorem Gro.spot {lo:Nat}(g:Gro h lo n e sz v len c){o:Nat}{d:Option Nat}(a:v=jx (some ⟨b,o,d⟩) l k):True∧True∧d=none:=by
 cases g with
 |nil=>cases a
 |at_ hg hlo hb hr hl ho=>injection a with h1 h2 h3;injection h1 with h1;injection h1 with _ _ h4;exact ⟨trivial,trivial,h4.symm⟩
inductive EqG (h:HF) (lo n:Nat):List Value→List Eqn→Prop
 |nil:EqG h lo n [] []
 |cons {ve vf:Value} {q:Eqn} {cs:List Value} {qs:List Eqn} (h1:Gro h lo n 76 4 ve (gP q.es) (ents q.es)) (h2:Sl h n 1 vf (strs q.fr)) (h3:EqG h lo n cs qs):EqG h lo n (ve::vf:: kF ⟨⟨q.rhs⟩⟩::cs) (q::qs)
theorem EqG.toR {lo:Nat}(e:EqG h lo n cs qs):EqR h n cs qs:=by
 induction e with
 |nil=>exact .nil
 |cons h1 h2 h3 ih=>exact .cons h1.sl h2 ih
theorem EqG.keep {lo:Nat}(e:EqG h lo n cs qs)(d:∀v∈cs,∀a l c,v=jx (some a) l c→h' a.block=h a.block)(f:n≤n'):EqG h' lo n' cs qs:=by
 induction e with
 |nil=>exact .nil
 |cons h1 h2 h3 ih=>exact .cons (h1.keep (d _ gN) f) (h2.keep (d _ gN) f) (ih fun v g=>d v (by simp [g]))
theorem EqG.snoc {lo:Nat}{a d:Value}{q:Eqn}(e:EqG h lo n cs qs)(f:Gro h lo n 76 4 a (gP q.es) (ents q.es))(g:Sl h n 1 d (strs q.fr)):EqG h lo n (cs++[a,d,kF ⟨⟨q.rhs⟩⟩]) (qs++[q]):=by
 induction e with
 |nil=>exact .cons f g .nil
 |cons g1 g2 g3 ih=>exact .cons g1 g2 ih
def SdpG (h:HF)(lo n:Nat)(vB vO vF vE:Value)(p:Sdp):Prop:=∃l1 l2 l3 ce,lo≤l1∧l1≤l2∧l2≤l3∧l3≤n∧Gro h lo n 3 1 vB (gP p.blocks) (i64s p.blocks)∧Below l1 vB∧Gro h l1 n 76 4 vO (gP p.obj) (ents p.obj)∧Below l2 vO∧Gro h l2 n 9 1 vF p.free (strs p.objFree)∧Below l3 vF∧Gro h l3 n 81 3 vE (gP p.eqs) ce∧EqG h l3 n ce p.eqs∧ce.Pairwise Dis∧(∀v∈ce,Dis v vE)∧∀v∈ce,Pt (fun b=>3*l3≤b) v
theorem fV (k:Nat){T:TapeI}(hF:F≤100∧least≤4)(ht:Tp h T)(hn:T.m≤n):CF (cal (k+6)) 7 [kS (some ⟨T.bt,0,none⟩),jy .i64 (F:Int),jy .i64 (least:Int)] h n fun v h' n' w=>TLeft T h n h' n' w∧∃p vB vO vF vE,v=.agg #[vB,jy .i64 (p.free:Int),vO,vF,vE]∧SdpG h' n n' vB vO vF vE p∧SdpOk F least p:=by
 have dq:=ht.bt;refine zu (fn:=Tryz.f7) R4 ?_;refine zN ?_;refine yd R5 ?_;refine Zf ?_;refine zB _ R5 (uY (k+4) zo (ht.upd zo) zo) ?_;rintro _ L _ w1 ⟨d8,rfl,d2,br,fr,rfl,dr,ds⟩;obtain ⟨f,rfl⟩:∃f:Nat,fr=(f:Int):=⟨fr.toNat,zo⟩;refine zF (v:=.agg #[jx none 0 0,jy .i64 (f:Int),jx none 0 0,jx none 0 0,jx none 0 0]) R5 ?_;refine yd R5 ?_;refine zK [jx none 0 0,jy .i64 (f:Int),jx none 0 0,jx none 0 0,jx none 0 0] R7 rfl (zh _ _ _) rfl (by show 3*n≤_;omega) ?_;rw [xq];refine Zf ?_;generalize hh:upd L (3*(n+1)+2) _=I;have cu:∃e,I (3*(n+1)+2)=some (.row [jx none 0 0,jy .i64 (f:Int),jx none 0 0,jx none 0 0,jx none 0 0] e):=⟨_,by rw [←hh,zh]⟩;have cy:∃e,I (3*n+2)=some (.row [jx none 0 0,jy .i64 0,jx none 0 0,jx none 0 0,jx none 0 0] e):=⟨_,by rw [←hh,zj zo,br _ zo,zh];rfl⟩;have dc:ExtT n T.bt h I:=fun b A g=>by rw [←hh,zj zo,br b g,zj zo]
 have d3:Tp I T:=by rw [←hh];exact d2.upd zo
 refine zB _ R5 (uY (k+4) (m:=2) zo d3 zo) ?_;rintro _ h3 _ w3 ⟨d9,rfl,d4,ba,i0,rfl,du,dv⟩;obtain ⟨i0,rfl⟩:∃f:Nat,i0=(f:Int):=⟨i0.toNat,zo⟩;refine Za ?_;have cl:=yB (n0:=(ctx (k+5) n (Tryz.f7).ntmps).n0) d9 (yB (n0:=(ctx (k+5) n (Tryz.f7).ntmps).n0) (w:=[]) d8 (fun b A=>cA A nN));have cv:∃e,h3 (3*(n+1)+2)=some (.row [jx none 0 0,jy .i64 (f:Int),jx none 0 0,jx none 0 0,jx none 0 0] e):=by rw [ba _ zo];exact cu
 have cz:∃e,h3 (3*n+2)=some (.row [jx none 0 0,jy .i64 0,jx none 0 0,jx none 0 0,jx none 0 0] e):=by rw [ba _ zo];exact cy
 have cd:ExtT n T.bt h h3:=fun b A g=>(ba b g).trans (dc b A g);refine z9 (α:=Nat×Value×List Int) (fun z=>[(0,kS (some ⟨T.bt,0,none⟩)),(2,jy .i64 (least:Int)),(6,kS (some ⟨3*n+2,0,none⟩)),(7,kS (some ⟨3*(n+1)+2,0,none⟩)),(8,jy .i64 (z.1:Int))])
  (fun z h' n' w=>(∀b∈w,b=T.bt)∧n+2≤n'∧Tp h' T∧ExtT n T.bt h h'∧(∃e,h' (3*n+2)=some (.row [jx none 0 0,jy .i64 0,jx none 0 0,jx none 0 0,jx none 0 0] e))∧(∃e,h' (3*(n+1)+2)=some (.row [z.2.1,jy .i64 (f:Int),jx none 0 0,jx none 0 0,jx none 0 0] e))∧z.1+gP z.2.2=i0+1∧(∀d∈z.2.2,1≤d∧d≤3)∧Gro h' (n+2) n' 3 1 z.2.1 (gP z.2.2) (i64s z.2.2)) (fun z=>z.1)
  (i0+1,jx none 0 0,[]) ⟨rfl,rfl,rfl,rfl,by show jy .i64 _=jy .i64 _;congr 1;omega,eP⟩ ⟨cl,eT,d4,cd,cz,cv,rfl,fun d V=>cA V nN,.nil⟩ (by show i0+1<LL;unfold LL;omega) ?_
 rintro ⟨i,vB,B⟩ t h4 n4 w4 ⟨bq,dz,bo,bs,bn,⟨e4,ad⟩,cr,ab,Z⟩;simp only at ad cr ab Z;obtain ⟨P,rfl,_⟩:=Z.shape;refine zN ?_;cases i with
 |succ i=>
  refine Zp ?_;refine zm [0,1,0,4,12,28,63,127,255] rfl ?_;repeat refine zE ?_
  refine zZ R6 (zX rfl ad R2) R2 ?_;repeat refine zE ?_
  refine mI (bt:=T.bt) _ R7 (uY (k+4) (m:=3) zo bo zo) (fun v h' n' W M=>⟨M.1,by rw [M.2.1];exact AK _⟩) (by simp;omega) ?_;rintro _ h5 n4 w5 ⟨b7,rfl,b3,O,rr,rfl,e3,e5⟩;repeat refine zE ?_
  refine zf8 (cs:=i64s [1+rr]) R5 ?_;refine zll (mm:=1) R8 zd rfl rfl rfl ((Z.extT (fun b A g=>O b g) zo eT).ext (Ext.upd zo) zs) (yH (zh _ _ _) R2) eT zo rfl rfl (by show n≤n+2∧_;omega) ?_;intro v6 h6 W6 bk J dw dt;obtain ⟨a6,rfl,_⟩:=bk.shape;repeat refine zE ?_
  have b1:h6 (3*(n+1)+2)=some (.row [jx P (gP B) (gP B),jy .i64 (f:Int),jx none 0 0,jx none 0 0,jx none 0 0] e4):=by rw [J _ zo,zj zo,O _ zo];exact ad
  refine xn (cs:=[jx a6 (gP B+1) (gP B+1)]) R7 rfl b1 zb (by show 3*n≤_;omega) R3 ?_;refine Zb ?_;refine goOn (i,jx a6 (gP B+1) (gP B+1),B++[1+rr]) (by show i<i+1;omega) ⟨rfl,rfl,rfl,rfl,by show jy .i64 _=jy .i64 _;congr 1;omega,eP⟩ ⟨yB b7 bq,by show n+2≤n4+1+1;omega,?_,?_,?_,⟨e4,zh _ _ _⟩,by show i+gP (B++[_])=_;simp;omega,?_,?_⟩
  ·exact ((b3.upd zo).ext J zo).upd zo
  ·exact fun b A g=>(zj zo).trans ((J b zo).trans ((zj zo).trans ((O b g).trans (bs b A g))))
  ·obtain ⟨e,he⟩:=bn;exact ⟨e,(zj zo).trans ((J _ zo).trans ((zj zo).trans ((O _ zo).trans he)))⟩
  ·intro d V;rcases Al.1 V with V|V
   ·exact ab d V
   simp at V;subst V;omega
  show Gro (upd h6 _ _) _ _ _ _ _ (gP (B++[_])) (i64s (B++[_]));have:i64s (B++[1+rr])=i64s B++i64s [1+rr]:=by simp [i64s]
  rw [this,nn];exact bk.extT (bt:=3*(n+1)+2) (fun b A g=>zj g) zo eT
 |zero=>
  have dp:gP B=i0+1:=zo;refine Zw ?_;refine zl R6 ad (v:=jx P (gP B) (gP B)) R2 ?_;have an:yj (n+2) (jx P (gP B) (gP B)):=Z.fresh;refine zB _ R5 (kK k ⟨zo,fun d V=>by have:=ab d V;omega⟩ bo zo Z.sl (fun x hx=>by subst hx;have:3*(n+2)≤x.block:=an;omega)) ?_;rintro vO h5 n5 w5 ⟨⟨b7,ct,b3,O⟩,E,hE,ci,ap⟩;obtain ⟨Y,rfl,_⟩:=ap.shape;have cw:h5 (3*(n+1)+2)=some (.row [jx P (gP B) (gP B),jy .i64 (f:Int),jx none 0 0,jx none 0 0,jx none 0 0] e4):=by rw [O _ zo zo];exact ad
  repeat refine zR ?_
  refine y0 (cs:=[jx Y (gP E) (gP E)]) R8 cw zb (by show 3*n≤3*(n+1)+2;omega) ?_;refine Zf ?_;refine zl R6 (zh _ _ _) (v:=jy .i64 (f:Int)) R2 ?_;refine zB _ R5 (jQ k (N:=f) zo (b3.upd zo) zo) ?_;rintro vF h6 n6 w6 ⟨⟨da,bl,d5,J⟩,S,cj,ck,ay⟩;obtain ⟨aF,rfl,_⟩:=ay.shape;have b1:h6 (3*(n+1)+2)=some (.row [jx P (gP B) (gP B),jy .i64 (f:Int),jx Y (gP E) (gP E),jx none 0 0,jx none 0 0] e4):=by rw [J _ zo zo,zh];rfl
  repeat refine zR ?_
  refine y0 (cs:=[jx aF f f]) R8 b1 zb (by show 3*n≤3*(n+1)+2;omega) ?_;refine Zf ?_;refine zB _ R5 (uY (k+4) zo (d5.upd zo) zo) ?_;rintro _ h7 C w7 ⟨db,rfl,d6,a4,i1,rfl,di,dj⟩;obtain ⟨i1,rfl⟩:∃f:Nat,i1=(f:Int):=⟨i1.toNat,zo⟩;refine Za ?_;have cx:∃e,h7 (3*(n+1)+2)=some (.row [jx P (gP B) (gP B),jy .i64 (f:Int),jx Y (gP E) (gP E),jx aF f f,jx none 0 0] e):=⟨e4,by rw [a4 _ zo,zh];rfl⟩;have d0:∃e,h7 (3*n+2)=some (.row [jx none 0 0,jy .i64 0,jx none 0 0,jx none 0 0,jx none 0 0] e):=by
   obtain ⟨e,he⟩:=bn;exact ⟨e,by rw [a4 _ zo,zj zo,J _ zo zo,zj zo,O _ zo zo];exact he⟩
  have cf:ExtT n T.bt h h7:=fun b A g=>by rw [a4 b g,zj zo,J b zo g,zj zo,O b zo g];exact bs b A g
  have ax:Gro h7 (n+2) C 3 1 (jx P (gP B) (gP B)) (gP B) (i64s B):=
   ((((Z.extT O zo ct).extT (bt:=3*(n+1)+2) (fun b A g=>zj g) zo eT).extT J zo bl).extT (bt:=3*(n+1)+2) (fun b A g=>zj g) zo eT).extT (bt:=T.bt) (fun b A g=>a4 b g) zo eT
  have az:Gro h7 n4 C 76 4 (jx Y (gP E) (gP E)) (gP E) (ents E):=
   (((ap.extT (bt:=3*(n+1)+2) (fun b A g=>zj g) zo eT).extT J zo bl).extT (bt:=3*(n+1)+2) (fun b A g=>zj g) zo eT).extT (bt:=T.bt) (fun b A g=>a4 b g) zo eT
  have ah:Gro h7 n5 C 9 1 (jx aF f f) f (strs S):=
   (ay.extT (bt:=3*(n+1)+2) (fun b A g=>zj g) zo eT).extT (bt:=T.bt) (fun b A g=>a4 b g) zo eT
  have cc:∀b∈addW (ctx (k+5) n (Tryz.f7).ntmps).n0 w7 (addW (ctx (k+5) n (Tryz.f7).ntmps).n0 w6 (addW (ctx (k+5) n (Tryz.f7).ntmps).n0 w5 w4)),b=T.bt:=yB db (yB da (yB b7 bq));have bj:yj n4 (jx Y (gP E) (gP E)):=ap.fresh;have bi:yj n5 (jx aF f f):=ay.fresh;refine z9 (α:=Nat×Value×List Value×List Eqn) (fun z=>[(0,kS (some ⟨T.bt,0,none⟩)),(6,kS (some ⟨3*n+2,0,none⟩)),(7,kS (some ⟨3*(n+1)+2,0,none⟩)),(9,jy .i64 (z.1:Int))])
   (fun z h' n' w=>(∀b∈w,b=T.bt)∧C≤n'∧Tp h' T∧ExtT n T.bt h h'∧(∃e,h' (3*n+2)=some (.row [jx none 0 0,jy .i64 0,jx none 0 0,jx none 0 0,jx none 0 0] e))∧(∃e,h' (3*(n+1)+2)=some (.row [jx P (gP B) (gP B),jy .i64 (f:Int),jx Y (gP E) (gP E),jx aF f f,z.2.1] e))∧z.1+gP z.2.2.2=least+i1∧
    Gro h' (n+2) n' 3 1 (jx P (gP B) (gP B)) (gP B) (i64s B)∧Gro h' n4 n' 76 4 (jx Y (gP E) (gP E)) (gP E) (ents E)∧Gro h' n5 n' 9 1 (jx aF f f) f (strs S)∧Gro h' C n' 81 3 z.2.1 (gP z.2.2.2) z.2.2.1∧EqG h' C n' z.2.2.1 z.2.2.2∧z.2.2.1.Pairwise Dis∧(∀v∈z.2.2.1,Pt (fun b=>3*C≤b) v)∧(∀v∈z.2.2.1,∀b o l c,z.2.1=jx (some ⟨b,o,none⟩) l c→Pt (fun b'=>b'≠b) v)∧
    (∀q∈z.2.2.2,EOk B q.es (gP B) 0 0∧gP q.es≤256∧gP q.fr=f∧(∀s∈q.fr,wn 2 s)∧wn 4 q.rhs)) (fun z=>z.1)
   (least+i1,jx none 0 0,[],[]) ⟨rfl,rfl,rfl,by show jy .i64 _=jy .i64 _;congr 1,eP⟩ ⟨cc,eT,d6,cf,d0,cx,rfl,ax,az,ah,.nil,.nil,.nil,fun v j=>cA j nN,fun v j=>cA j nN,fun q hq=>cA hq nN⟩ (by show least+i1<LL;unfold LL;omega) ?_
  rintro ⟨i,vE,ce,qs⟩ t h8 n8 w8 ⟨b8,e2,bp,bu,a3,⟨e8,a2⟩,cq,ar,bg,bf,a0,am,ae,ac,af,b2⟩;simp only at a2 cq a0 am ae ac af b2;obtain ⟨aE,rfl,dg⟩:=a0.shape;have bh:yj C (jx aE (gP qs) (gP qs)):=a0.fresh;refine zN ?_;cases i with
  |zero=>
   refine Zj ?_;refine zV (v:=.agg #[jx P (gP B) (gP B),jy .i64 (f:Int),jx Y (gP E) (gP E),jx aF f f,jx aE (gP qs) (gP qs)]) R5 (zT R2 a2 rfl zb rfl) ?_;obtain ⟨er,a3⟩:=a3;refine zK [jx P (gP B) (gP B),jy .i64 (f:Int),jx Y (gP E) (gP E),jx aF f f,jx aE (gP qs) (gP qs)] R7 rfl a3 rfl (by show 3*n≤3*n+2;omega) ?_;refine zN ?_;refine xu R5 (zh _ _ _) rfl ⟨⟨b8,by show n≤n8;omega,bp.upd zo,fun b A g=>(zj zo).trans (bu b A g)⟩,⟨B,f,E,S,qs⟩,_,_,_,_,rfl,⟨n4,n5,C,ce,zo,zo,zo,by show C≤n8;omega,(ar.keep (fun a l c e=>zj (by have:=Pt.of_fresh an a l c e;omega)) eT).lo zo,Z.below,bg.keep (fun a l c e=>zj (by have:=Pt.of_fresh bj a l c e;omega)) eT,ap.below,bf.keep (fun a l c e=>zj (by have:=Pt.of_fresh bi a l c e;omega)) eT,ah.below,a0.keep (fun a l c e=>zj (by have:=Pt.of_fresh bh a l c e;omega)) eT,am.keep (fun v j a l H e=>zj (by have:=ac v j a l H e;omega)) eT,ae,?_,ac⟩,?_⟩
   ·intro v j a l c a' l' H e U;obtain ⟨b',o',sp⟩:=a';obtain ⟨_,_,e0⟩:=Gro.spot a0 U;subst e0;exact af v j _ _ _ _ U a l c e
   exact ⟨by show 1≤gP B∧gP B≤2;omega,ab,by show f≤F;omega,hE,ci,cj,ck,by show least≤gP qs∧gP qs≤4;omega,b2⟩
  |succ i=>
   refine Zp ?_;refine zm [0,1,0,0,8,28,0,0,128,508,0,2044,4092,8188,16380,32767,65535,131071] rfl ?_;repeat refine zE ?_
   refine zZ R6 (zX rfl a2 R2) R2 ?_;repeat refine zE ?_
   refine zZ R6 (zX rfl a2 R2) R2 ?_;refine mI (bt:=T.bt) _ R7 (kK k ⟨zo,fun d V=>by have:=ab d V;omega⟩ bp zo ar.sl (fun x hx=>by subst hx;have:3*(n+2)≤x.block:=an;omega)) (fun v h' n' W M=>⟨M.1.w,M.1.le⟩) (by simp;omega) ?_;rintro v9 h9 n9 w9 ⟨⟨b9,bm,d7,bv⟩,D,ch,bz,ao⟩;obtain ⟨a9,rfl,_⟩:=ao.shape;repeat refine zE ?_
   refine zZ R6 (zX rfl a2 R2) ⟨(zbs (b:=3*(n+1)+2) (bt:=T.bt) zo (by simp;exact b9)),rfl⟩ ?_;refine mI (bt:=T.bt) _ R7 (jQ k (N:=f) zo d7 zo) (fun v h' n' W M=>⟨M.1.w,M.1.le⟩) (by simp;omega) ?_;rintro e7 dl df ea ⟨⟨b5,c4,ca,ak⟩,aq,bb,bc,a7⟩;obtain ⟨R,rfl,_⟩:=a7.shape;repeat refine zE ?_
   refine mI (bt:=T.bt) _ R7 (oK (k+1) (K:=4) zo ca zo) (fun v h' n' W M=>⟨M.1,M.2.1⟩) (by simp;omega) ?_;rintro _ dm e6 eb ⟨b6,c5,cb,aa,m1,m2,ln,y,rfl,c8,dd,de,dh,dx⟩;refine mI (bt:=T.bt) _ R7 (nw (k+1) c8 (by simp;omega)) (fun v h' n' W M=>⟨by rw [M.2.2.1];exact fun b A=>cA A nN,by rw [M.2.1];exact AK _⟩) (by simp;omega) ?_;rintro _ be G ec ⟨cg,bx,rfl,rfl⟩;subst cg bx;refine yy (v:=.agg #[jx a9 (gP D) (gP D),jx R f f,kF ⟨⟨ratT ((y:Int):Rat)⟩⟩]) rfl rfl rfl rfl rfl ?_;refine zf8 (cs:=[jx a9 (gP D) (gP D),jx R f f,kF ⟨⟨ratT ((y:Int):Rat)⟩⟩]) R5 ?_;have b0:∀b,b<3*n8→b≠T.bt→upd be (3*G+2) (some (.row [jx a9 (gP D) (gP D),jx R f f,kF ⟨⟨ratT ((y:Int):Rat)⟩⟩] 81)) b=h8 b:=fun b A g=>by rw [zj zo,aa b zo g,ak b zo g,bv b A g]
   have c3:=(((a0.extT bv zo bm).extT ak zo c4).extT aa zo c5).ext (Ext.upd (b:=3*G+2) (x:=some (.row [jx a9 (gP D) (gP D),jx R f f,kF ⟨⟨ratT ((y:Int):Rat)⟩⟩] 81)) zo) (ux G);refine zll (mm:=1) R8 zd rfl rfl rfl c3 (yH (zh _ _ _) R2) eT zo rfl rfl (by show n≤C∧_;omega) ?_;intro e9 a1 dk aw al ai c1;obtain ⟨bd,rfl,_⟩:=aw.shape;repeat refine zE ?_
   have c7:a1 (3*(n+1)+2)=some (.row [jx P (gP B) (gP B),jy .i64 (f:Int),jx Y (gP E) (gP E),jx aF f f,jx aE (gP qs) (gP qs)] e8):=by rw [al _ zo,b0 _ zo zo];exact a2
   refine xn (cs:=[jx bd (gP qs+1) (gP qs+1)]) R7 rfl c7 zb (by show 3*n≤3*(n+1)+2;omega) R3 ?_;refine Zb ?_;have cn:Below n8 (jx aE (gP qs) (gP qs)):=a0.below;have cm:Below C (jx P (gP B) (gP B)):=ax.below;have cp:Below C (jx Y (gP E) (gP E)):=az.below;have co:Below C (jx aF f f):=ah.below;have au:Below n9 (jx a9 (gP D) (gP D)):=ao.below;have c0:Below df (jx R f f):=a7.below;have av:yj n8 (jx a9 (gP D) (gP D)):=ao.fresh;have a5:yj n9 (jx R f f):=a7.fresh;have bw:∀b,(b<3*C∨3*n8≤b)→∀o l c,jx aE (gP qs) (gP qs)≠jx (some ⟨b,o,none⟩) l c:=fun b A o l c e=>by
    injection e with e1
    subst e1;have L:b<3*n8:=cn;have I:3*C≤b:=bh;omega
   have aj:∀{x:Option BF} b,b<3*C→b≠T.bt→b≠3*(n+1)+2→upd a1 (3*(n+1)+2) x b=h8 b:=fun b A L I=>(zj I).trans ((al b A).trans (b0 b zo L));have a8:∀{x:Option BF} {lo:Nat} {e:TypeId} {sz len:Nat} {v:Value} {c:List Value},Gro h8 lo n8 e sz v len c→Below C v→yj (n+2) v→Gro (upd a1 (3*(n+1)+2) x) lo (G+1+1) e sz v len c:=fun hs A hf=>hs.keep (fun a l c e=>by
    subst e;have L:a.block<3*C:=A;have I:3*(n+2)≤a.block:=hf;exact aj _ L zo zo) zo
   have c6:∀{x:Option BF} {sz:Nat} {v:Value} {c:List Value} {hh:HF} {m m':Nat},Sl hh m' sz v c→yj m v→n8≤m→m'≤G→(∀b,3*m≤b→b<3*m'→be b=hh b)→Sl (upd a1 (3*(n+1)+2) x) (G+1+1) sz v c:=fun hs hf hm dy hk=>hs.keep (fun a l c e=>by
    subst e;have I:3*_≤a.block:=hf;have L:a.block<3*_:=hs.below;refine (zj zo).trans ((ai _ zo (bw _ (.inr zo))).trans ((zj zo).trans (hk _ I L)))) zo
   have d1:∀{x:Option BF},Gro (upd a1 (3*(n+1)+2) x) C (G+1+1) 76 4 (jx a9 (gP D) (gP D)) (gP D) (ents D):=(ao.keep (fun a l c e=>by
    have I:=Pt.of_fresh av a l c e;have L:=Pt.of_below au a l c e;refine (zj zo).trans ((ai _ zo (bw _ (.inr zo))).trans ((zj zo).trans ?_));rw [aa _ zo zo,ak _ zo zo]) zo).lo zo
   have c9:∀{x:Option BF},Sl (upd a1 (3*(n+1)+2) x) (G+1+1) 1 (jx R f f) (strs aq):=c6 a7.sl a5 bm zo fun b L I=>by rw [aa b zo zo]
   have ag:=am.toR.belows;refine goOn (i,jx bd (gP qs+1) (gP qs+1),ce++[jx a9 (gP D) (gP D),jx R f f,kF ⟨⟨ratT ((y:Int):Rat)⟩⟩],qs++[⟨D,aq,ratT ((y:Int):Rat)⟩]) (by show i<i+1;omega) ⟨rfl,rfl,rfl,by show jy .i64 _=jy .i64 _;congr 1;omega,eP⟩ ⟨?_,by show C≤G+1+1;omega,?_,?_,?_,⟨e8,zh _ _ _⟩,by show i+gP (qs++[_])=_;simp;omega,a8 ar cm an,a8 bg cp (bj.mono zo),a8 bf co (bi.mono zo),?_,?_,?_,?_,?_,?_⟩
   ·have b4:∀b∈([]:List Nat),b=T.bt:=fun b A=>cA A nN;first|exact yB b4 (yB b6 (yB b5 (yB b9 b8)))|exact yB b4 (yB b4 (yB b6 (yB b5 (yB b9 b8))))
   ·exact ((cb.upd zo).ext al zo).upd zo
   ·exact fun b A g=>(aj b zo g zo).trans (bu b A g)
   ·obtain ⟨er,a3⟩:=a3;exact ⟨er,(aj _ zo zo zo).trans a3⟩
   ·show Gro _ _ _ _ _ _ (gP (qs++[_])) _;rw [nn];exact aw.extT (bt:=3*(n+1)+2) (fun b A g=>zj g) zo eT
   ·refine EqG.snoc (q:=⟨D,aq,ratT ((y:Int):Rat)⟩) (am.keep (fun v j a l H e=>?_) (by show n8≤G+1+1;omega)) d1 c9;have L:=ag v j a l H e;have I:=ac v j a l H e;refine (zj zo).trans ((ai _ zo fun o l2 c2 ee=>?_).trans (b0 _ L zo));exact af v j _ _ _ _ ee a l H e rfl
   ·show (ce++[_,_,_]).Pairwise Dis;rw [E0];refine ⟨ae,?_,fun u hu v j=>?_⟩
    ·refine .cons ?_ (.cons ?_ (.cons ?_ .nil))
     ·intro v j;simp only [sP,nN,or_false] at j;rcases j with rfl|rfl
      ·intro a l c a' l' H e U;have L:=Pt.of_below au a l c e;have I:=Pt.of_fresh a5 a' l' H U;omega
      exact fun a l c a' l' H e U=>by cases U
     ·intro v j;simp only [sP,nN,or_false] at j;subst j;exact fun a l c a' l' H e U=>by cases U
     exact fun v j=>cA j nN
    intro a l c a' l' H e U;have L:=ag u hu a l c e;simp only [sP,nN,or_false] at j;rcases j with rfl|rfl|rfl
    ·have I:=Pt.of_fresh av a' l' H U;omega
    ·have I:=Pt.of_fresh a5 a' l' H U;omega
    cases U
   ·intro v j;rcases Al.1 j with j|j
    ·exact ac v j
    simp only [sP,nN,or_false] at j;rcases j with rfl|rfl|rfl
    ·exact fun a l c e=>by have:=Pt.of_fresh av a l c e;omega
    ·exact fun a l c e=>by have:=Pt.of_fresh a5 a l c e;omega
    exact fun a l c e=>by cases e
   ·intro v j b o l c ee a l' H e;simp only at ee;have dn:3*(G+1)≤b:=by
     have:3*(G+1)≤_:=Pt.of_fresh c1 _ _ _ ee;exact this
    rcases Al.1 j with j|j
    ·have:=ag v j a l' H e;omega
    simp only [sP,nN,or_false] at j;rcases j with rfl|rfl|rfl
    ·have:=Pt.of_below au a l' H e;omega
    ·have:=Pt.of_below c0 a l' H e;omega
    cases e
   intro q hq;rcases Al.1 hq with hq|hq
   ·exact b2 q hq
   simp at hq;subst hq;exact ⟨ch,bz,bb,bc,y,dd,de,rfl⟩
end
section
variable {len:Nat}
theorem Dis.lt (hu:Below m u)(i:yj m v):Dis u v:=fun a l c d j f e g=>by
 have o:=Pt.of_below hu a l c e;have q:=Pt.of_fresh i d j f g;omega
theorem Below.mono (h:Below m v)(a:m≤m'):Below m' v:=by
 unfold Below at*
 split<;>simp_all;omega
structure SdpD (h:HF)(lo n:Nat)(vB vO vF vE:Value)(p:Sdp)(ce:List Value):Prop where
 gB:Gro h lo n 3 1 vB (gP p.blocks) (i64s p.blocks)
 gO:Gro h lo n 76 4 vO (gP p.obj) (ents p.obj)
 gF:Gro h lo n 9 1 vF p.free (strs p.objFree)
 gE:Gro h lo n 81 3 vE (gP p.eqs) ce
 qE:EqG h lo n ce p.eqs
 dBO:Dis vB vO
 dBF:Dis vB vF
 dBE:Dis vB vE
 dOF:Dis vO vF
 dOE:Dis vO vE
 dFE:Dis vF vE
 dC:∀v∈ce,Dis v vB∧Dis v vO∧Dis v vF∧Dis v vE
 dP:ce.Pairwise Dis
theorem EqG.lo {h:HF}{lo n:Nat}(e:EqG h lo n cs qs)(hl:lo'≤lo):EqG h lo' n cs qs:=by
 induction e with
 |nil=>exact .nil
 |cons h1 h2 h3 ih=>exact .cons (h1.lo hl) h2 ih
theorem SdpG.toD {h:HF}{lo n:Nat}{vB vO vF vE:Value}{p:Sdp}(g:SdpG h lo n vB vO vF vE p):∃ce,SdpD h lo n vB vO vF vE p ce:=by
 obtain ⟨T,U,L,ce,G,H,I,R,F,f,w,j,q,s,i,N,C,B,M⟩:=g;have o:∀{m:Nat} {u:Value},m≤L→Below m u→∀v∈ce,Dis v u:=fun S J v d a l c y K A e D=>by
  have O:=M v d a l c e;have P:=Pt.of_below J y K A D;omega
 exact ⟨ce,F,w.lo G,q.lo zo,i.lo zo,N.lo zo,Dis.lt f w.fresh,Dis.lt (f.mono H) q.fresh,Dis.lt (f.mono zo) i.fresh,Dis.lt j q.fresh,Dis.lt (j.mono I) i.fresh,Dis.lt s i.fresh,fun v d=>⟨o zo f v d,o zo j v d,o eT s v d,B v d⟩,C⟩
theorem SdpD.toR {h:HF}{lo n:Nat}{vB vO vF vE:Value}{p:Sdp}{ce:List Value}(g:SdpD h lo n vB vO vF vE p ce):SdpR h n vB vO vF vE p:=⟨g.gB.sl,g.gO.sl,g.gF.sl,ce,g.gE.sl,g.qE.toR⟩
section
variable {lo:Nat}{p:Sdp}
end
section
variable {lo:Nat}{p:Sdp}
end
end
section
variable {len:Nat}
theorem zd9:∀{c:List Value} {i:Nat},ones c=true→ones (c.set i (kF ⟨⟨s⟩⟩))=true:=by
 intro c;induction c with
 |nil=>intro i h;exact h
 |cons v c ih=>
  intro i h;have a:ones (v::c)=true:=h;cases i with
  |zero=>cases v<;>first|exact a|(simp [ones] at a)
  |succ i=>cases v<;>first|exact ih a|(simp [ones] at a)
theorem Gro.ones {h:HF}{lo n:Nat}(g:Gro h lo n e sz v len c):Go.GL.ones c=true:=by
 cases g with
 |nil=>rfl
 |at_ hg hlo hb hr hl ho=>exact ho
structure SdpQ (h:HF)(lo n:Nat)(vB vE:Value)(B:List Int)(qs:List Eqn)(ce:List Value):Prop where
 sB:Sl h n 1 vB (i64s B)
 fB:Pt (fun b=>3*lo≤b) vB
 gE:Gro h lo n 81 3 vE (gP qs) ce
 qE:EqR h n ce qs
 pt:∀v∈ce,Pt (fun b=>3*lo≤b) v
 dB:Dis vB vE
 dE:∀v∈ce,Dis v vE
theorem SdpG.toQ {h:HF}{lo n:Nat}{vB vE:Value}{p:Sdp}(g:SdpG h lo n vB vO vF vE p):∃ce,SdpQ h lo n vB vE p.blocks p.eqs ce:=by
 obtain ⟨K,L,M,ce,G,H,I,J,d,i,F,A,D,y,f,w,C,o,u⟩:=g;exact ⟨ce,d.sl,Pt.of_fresh d.fresh,f.lo zo,w.toR,fun v q a l c e=>by have:=u v q a l c e;omega,Dis.lt (i.mono zo) f.fresh,o⟩
section
variable {lo:Nat}{B:List Int}
theorem Sl.goP (s:Sl h n sz v c)(f:Pt (fun b=>3*lo≤b) v)(x:∀b,3*lo≤b→b<3*n→h' b=h b)(g:n≤n'):Sl h' n' sz v c:=
 s.keep (fun a l d e=>x a.block (f a l d e) (Pt.of_below s.below a l d e)) g
theorem SdpQ.go (g:SdpQ h lo n vB vE B qs ce)(x:∀b,3*lo≤b→b<3*n→h' b=h b)(hn:n≤n'):SdpQ h' lo n' vB vE B qs ce:=
 ⟨g.sB.goP g.fB x hn,g.fB,g.gE.keep (fun a l d e=>by
  have f:=Pt.of_fresh g.gE.fresh a l d e;have i:=Pt.of_below g.gE.sl.below a l d e;exact x a.block f i) hn,g.qE.mapS fun v o sz c s=>s.goP (g.pt v o) x hn,g.pt,g.dB,g.dE⟩
theorem EqR.put (e:EqR h n ce qs):∀{j:Nat} {q:Eqn},qs[j]?=some q→EqR h n (ce.set (j*3+2) (kF ⟨⟨s⟩⟩)) (qs.set j ⟨q.es,q.fr,s⟩):=by
 induction e with
 |nil=>intro j q a;simp at a
 | @cons ve vf q0 cs qs h1 h2 h3 ih=>
  intro j q a;cases j with
  |zero=>
   simp only [List.getElem?_cons_zero,C6] at a;subst a;exact .cons (q:=⟨q0.es,q0.fr,s⟩) h1 h2 h3
  |succ j=>
   simp only [List.getElem?_cons_succ] at a;rw [show (j+1)*3+2=j*3+2+3 by omega];exact .cons h1 h2 (ih a)
theorem SdpQ.set {q:Eqn}(g:SdpQ h lo n vB (jx (some ⟨b,0,none⟩) m m) B qs ce)(w:qs[j]?=some q)(p:h' b=some (.row (ce.set (j*3+2) (kF ⟨⟨s⟩⟩)) 81))(x:∀c,c≠b→h' c=h c):
  SdpQ h' lo n vB (jx (some ⟨b,0,none⟩) m m) B (qs.set j ⟨q.es,q.fr,s⟩) (ce.set (j*3+2) (kF ⟨⟨s⟩⟩)):=by
 have u:∀{v:Value},Dis v (jx (some ⟨b,0,none⟩) m m)→∀a l d,v=jx (some a) l d→h' a.block=h a.block:=fun hd a l d e=>x _ (hd a l d ⟨b,0,none⟩ m m e rfl);have i:∀v∈ce.set (j*3+2) (kF ⟨⟨s⟩⟩),v∈ce∨v=kF ⟨⟨s⟩⟩:=fun v o=>List.mem_or_eq_of_mem_set o;refine ⟨g.sB.keep (u g.dB) eT,g.fB,?_,(g.qE.put w).mapS fun v o sz c G=>G.keep (fun a l d e=>?_) eT,fun v o=>?_,g.dB,fun v o=>?_⟩
 ·rw [AY];have H:=(oc.1 w).1;obtain ⟨J,y,f,A,C,L,D⟩:=g.gE.inv2 zo;cases y;have F:=g.gE.ones;exact .at_ f A C p (by rw [AY];exact D) (zd9 F)
 ·rcases i v o with f|rfl
  ·exact u (g.dE v f) a l d e
  cases e
 ·rcases i v o with f|rfl
  ·exact g.pt v f
  exact fun a l c e=>by cases e
 rcases i v o with f|rfl
 ·exact g.dE v f
 exact fun a l c I M K e=>by cases e
end
end
section
set_option maxRecDepth 100000
variable {j:Nat}{v:Value}
theorem EqR.nu {h:HF}{n:Nat}{ce:List Value}{qs:List Eqn}(e:EqR h n ce qs):ce.all nu=true:=by
 induction e with
 |nil=>rfl
 |cons h1 h2 h3 ih=>
  obtain ⟨a,f,c,rfl,_⟩:=h1.len;obtain ⟨b,g,d,rfl,_⟩:=h2.len;exact ih
theorem RS.keepT {D:Type}{P:List Value→D→HF→Nat→Prop}{h:HF}{n:Nat}{l:List D}(r:RS sz P h n v l)(d:KP sz P)(t:Tr n h n' h')(e:∀a k c,v=jx (some a) k c→h' a.block=h a.block):RS sz P h' n' v l:=by
 obtain ⟨b,s,q⟩:=r;exact ⟨b,s.keep e t.1,q.mono fun _ _ r=>d.t r t⟩
def UpR (qs:List Eqn)(L:Nat→Rat)(j:Nat)(qs':List Eqn):Prop:=∀i,qs'[i]?=(qs[i]?).map fun q=>if i<j then ⟨q.es,q.fr,ratT (L i)⟩ else q
theorem UpR.start (qs:List Eqn)(L:Nat→Rat):UpR qs L 0 qs:=fun i=>by
 cases h:qs[i]? with
 |none=>rfl
 |some q=>rfl
theorem UpR.len {qs a:List Eqn}{L:Nat→Rat}(u:UpR qs L j a):gP a=gP qs:=by
 have b:=u (gP qs);have c:=u (gP a);rw [Ad eT] at b c;have b:=FJ.1 b;cases h:qs[gP a]? with
 |none=>have:=FJ.1 h;omega
 |some q=>rw [h] at c;cases c
theorem UpR.step {qs a:List Eqn}{L:Nat→Rat}{q:Eqn}(u:UpR qs L j a)(b:qs[j]?=some q):UpR qs L (j+1) (a.set j ⟨q.es,q.fr,ratT (L j)⟩):=fun i=>by
 have d:=u.len;have c:=(oc.1 b).1;rw [Cc];by_cases h:j=i
 ·subst h;rw [eN rfl,eN zo,b];show some _=some (if j<j+1 then (⟨q.es,q.fr,ratT (L j)⟩:Eqn) else q);rw [eN zo]
 rw [cC h,u i];cases hi:qs[i]? with
 |none=>rfl
 |some q2=>
  show some (if i<j then (⟨q2.es,q2.fr,ratT (L i)⟩:Eqn) else q2)=some (if i<j+1 then (⟨q2.es,q2.fr,ratT (L i)⟩:Eqn) else q2);by_cases h2:i<j
  ·rw [eN h2,eN zo]
  rw [cC h2,cC zo]
section
variable {lo fr:Nat}{B:List Int}
theorem duR (k:Nat){c:Code}(hc:oH Tryz.f5 ([1,1,1,1,1,1,1,1,1,1,1,0,1]++[0])=some c){Q:Ex→SV→Prop}
  (hL:wU t [(4,kS (some ⟨bp,0,none⟩)),(5,y5),(6,y6),(7,y7),(144,jx aR m cR),(145,jy .i64 (m:Int)),(146,jy .i64 ((0:Nat):Int))])
  (hm:m=gP qs)(bf:m≤4)(be:n0≤lo)(a1:3*n0≤bp∧bp<3*n)(I:∀a l c,vE=jx (some a) l c→a.block≠bp)
  (pP:h bp=some (.row [jx aB lB cB,jy .i64 (fr:Int),vO,jx aF lF cF,vE] ep))(g:SdpQ h lo n (jx aB lB cB) vE B qs ce)(iR:NS h n (jx aR m cR) rs)(hR:∀a,aR=some a→∀b l c,vE=jx (some b) l c→a.block≠b.block)
  (a7:∀i q,qs[i]?=some q→∃x,q.rhs=ratT x∧Sz 6 x∧rs[i]?=some (L i-x))(zL:∀i,FN 12 131072 (L i))(zr:∀r∈rs,Sz 18 r)
  (hQ:∀(t':TF) (h':HF) (n':Nat) (qs':List Eqn) (ce':List Value),wU t' [(4,kS (some ⟨bp,0,none⟩)),(5,y5),(6,y6),(7,y7)]→n≤n'→UpR qs L m qs'→SdpQ h' lo n' (jx aB lB cB) vE B qs' ce'→(∀c,c<3*n→(∀a l k,vE=jx (some a) l k→a.block≠c)→h' c=h c)→Tr n h n' h'→Q (.exit 6) ⟨t',h',n',[]⟩):
  EC (ctx (k+19) n0 (Tryz.f5).ntmps) c ⟨t,h,n,[]⟩ Q:=by
 obtain rfl:=A0 (hc.symm.trans (rfl:oH Tryz.f5 ([1,1,1,1,1,1,1,1,1,1,1,0,1]++[0])=some _));clear hc;refine sF (α:=Nat×List Eqn×List Value) (fun z=>[(4,kS (some ⟨bp,0,none⟩)),(5,y5),(6,y6),(7,y7),(144,jx aR m cR),(145,jy .i64 (m:Int)),(146,jy .i64 (z.1:Int))])
  (fun z h' n' w'=>w'=[]∧n≤n'∧UpR qs L z.1 z.2.1∧SdpQ h' lo n' (jx aB lB cB) vE B z.2.1 z.2.2∧(∀c,c<3*n→(∀a l k,vE=jx (some a) l k→a.block≠c)→h' c=h c)∧Tr n h n' h'∧z.1≤m) (fun z=>m-z.1)
  (0,qs,ce) ⟨rfl,eT,UpR.start qs L,g,fun _ _ _=>rfl,Tr.refl _ _,eU⟩ ?_ (hl:=hL)
 clear g;rintro ⟨j,qs',ce⟩ t h1 d _ ⟨rfl,T,w,g1,H,R,hj⟩;have T:n≤d:=T;have w:UpR qs L j qs':=w;have g1:SdpQ h1 lo d (jx aB lB cB) vE B qs' ce:=g1;have hj:j≤m:=hj;refine zG ?_;by_cases qj:(j:Int)<(m:Int)
 ·obtain ⟨q,S⟩:∃q,qs[j]?=some q:=⟨_,k4 zo⟩;obtain ⟨x,a8,M,N⟩:=a7 j q S;have J:qs'[j]?=some q:=by
   rw [w j,S];show some (if j<j then (⟨q.es,q.fr,ratT (L j)⟩:Eqn) else q)=some q;rw [cC (BK j)]
  have bd:=w.len;have a4:gP qs'=m:=zo;obtain ⟨y,K,bc,an,D,a6,a2⟩:=g1.gE.inv2 zo;rw [a4] at K a2;subst K;have bg:=I ⟨y,0,none⟩ m m rfl;obtain ⟨ve,vf,ec,_,_⟩:=g1.qE.get J;rw [a8] at ec;obtain ⟨b9,o9,e9,_,_,t9⟩:=uP g1.gE.sl ec rfl zd;cases e9;have ai:=(H bp a1.2 (fun a l k e=>I a l k e)).trans pP;have ab:NS h1 d (jx aR m cR) rs:=RS.keepT iR numP.kp R fun a l k e=>by
   cases e;obtain ⟨_,sR,_⟩:=iR;exact H a.block (Pt.of_below sR.below a _ _ rfl) fun b l c e=>(hR a rfl b l c e).symm
  obtain ⟨b7,o7,W,V,l5,Y,Z,e5,f5,g5,e7,m7,r7,t7,i7,j7⟩:=NS.at ab N;refine zG ?_;refine sI (j:=j) e7 r7 ?_;refine sL t7 m7 0 ?_;refine sA ?_;intro b6 af ak;refine zG ?_;refine sS [kz W,jx V l5 Y,kz Z,jx e5 f5 g5] ?_;intro p ag ae;have f:Ext d h1 p:=(zx:Tx d h1 (d+1) p).2;obtain ⟨ay,q7⟩:∃e,p (3*d+2)=some (.row [kz W,jx V l5 Y,kz Z,jx e5 f5 g5] e):=⟨_,zp⟩;have bl:=(f bp zo).trans ai;have aj:=t9.ext f D;clear ak af ae ag;refine zG ?_;refine zm [0,1,0,0,8,0,56,120,248,504,0,2040,4088,8191,16383,32767] rfl ?_;refine zH ?_;refine dI (j:=j) (len:=m) rfl zo ?_;refine zH ?_;refine dL aj (show y<3*(d+1) by omega) 2 ?_;have F:=numU (k+12) p (d+1) (ratT x) (tv (wg (M.mono zd)) zd);rw [zn] at F;refine dC F ?_;rintro _ b8 bj ⟨aq,ao,bh,au,aw,az,b1,b3,rfl,a9,ac⟩ P u;have bm:=(u (3*d+2) zo).trans q7;refine zH ?_;have C:=mb (k+13) a9 ac ((i7.ext f (ux d)).x ⟨P,u⟩) ((j7.ext f (ux d)).x ⟨P,u⟩) M (zr _ (ns N)) zo;rw [show x+(L j-x)=L j by grind] at C;refine dC C ?_;rintro _ ba bk ⟨ar,ap,bi,av,ax,b0,b2,b4,rfl,aa,ad⟩ bn al;refine dC (zc7 _ aa ad (m:=18) ((zL j).sz zd zd zd) zd).cx ?_;rintro _ A O rfl bo am;have o:∀c,c<3*d→A c=h1 c:=fun c hc=>(am c zo).trans ((al c zo).trans ((u c zo).trans (f c hc)));have U:Tr d h1 O A:=⟨zo,fun c hc=>.inl (o c hc)⟩;refine zH ?_;refine dI (j:=j) (len:=m) rfl zo ?_;refine zH ?_;refine dSx (n0:=n0) (off:=0+j*3+2) (sz:=1) (cs:=[kF ⟨⟨ratT (L j)⟩⟩]) (ce.set (j*3+2) (kF ⟨⟨ratT (L j)⟩⟩)) ((o y D).trans a6) ?_ (hu:=g1.qE.nu) (hl:=zo) (hsp:=by rw [AA];exact splice_one _ _ _ zo);intro bb ah G;rw [yo (show 3*n0≤y by omega)];have a0:=(g1.go (h':=A) (n':=O) (fun b _ hb=>o b hb) zo).set J ah G.1;refine zG ?_;exact sK (j+1,qs'.set j ⟨q.es,q.fr,ratT (L j)⟩,ce.set (j*3+2) (kF ⟨⟨ratT (L j)⟩⟩)) ⟨rfl,zo,w.step S,a0,fun c hc hv=>(G.1 c (hv ⟨y,0,none⟩ m m rfl).symm).trans ((o c zo).trans (H c hc hv)),(R.trans U).trans (Tr.s G (Tr.refl _ _)),by show j+1≤m;omega⟩
 have a3:j=m:=zo;subst a3;refine zG ?_;exact hQ _ h1 d qs' ce ⟨rfl,rfl,rfl,rfl,eP⟩ T w g1 H R
end
end
section
variable {i:Nat}{Ns:List Nat}
theorem zd3 (n:Nat):∀(m k:Nat) (a b:Nat→Nat→Rat),k+m=n→(∀i j,k≤i→k≤j→i<n→j<n→a i j=b i j)→psdA n m k a→psdA n m k b:=by
 intro m;induction m with
 |zero=>intro _ _ _ _ _ _;trivial
 |succ m ih=>
  intro k a b v h ⟨l,o,s⟩;have d:=h k k (AK k) (AK k) zo zo;refine ⟨by rw [←d];exact l,fun e i g c=>?_,ih (k+1) _ _ zo (fun i j g u c f=>?_) s⟩
  ·rw [←h i k zo (AK k) c zo];exact o (by rw [d];exact e) i g c
  unfold qt;rw [h i j zo zo c f,h i k zo (AK k) c zo,d,h k j (AK k) zo zo f]
theorem Gram.psd {a:Nat→Nat→Rat}(g:Gram a)(N:Nat):psdA N N 0 a:=by
 obtain ⟨x,y,h⟩:=g;exact zij N N 0 a 1 x y zd fun i j _ _=>by rw [h,Dv]
theorem zri {f:Nat→Rat}(h:∀i,i<n→0≤f i):0≤sm f n:=by
 induction n with
 |zero=>exact Rat.le_refl
 |succ n ih=>exact Rat.add_nonneg (ih fun i a=>h i zo) (h n zo)
theorem zfc (M S:Nat→Nat→Nat→Rat)(Ns:List Nat):gpB M S Ns (gP Ns)=trB Ns S M:=yP fun k _=>yP fun r _=>yP fun c _=>BO _ _
theorem zot {M S:Nat→Nat→Nat→Rat}(m:∀k,Gram (M k))(s:∀k,Gram (S k)):0≤trB Ns S M:=zri fun k _=>by
 obtain ⟨x,y,a⟩:=m k;obtain ⟨u,v,b⟩:=s k;exact zos b a
theorem NumR.fn (h:NumR q):FN 12 108 q:=PtB.uf (p:=⟨[],1,[],[],[]⟩) (ds:=[]) (M:=fun _ _ _=>0) (us:=[q]) ⟨rfl,rfl,fun _ _ _=>rfl,fun _ _ _=>FN.zero _ _,fun u a=>by rw [nP.1 a];exact h⟩ (nP.2 rfl)
theorem UpR.get {qs':List Eqn}{L:Nat→Rat}(u:UpR qs L m qs')(d:gP qs≤m){b:Eqn}(h:qs'[i]?=some b):∃q,qs[i]?=some q∧b=⟨q.es,q.fr,ratT (L i)⟩:=by
 have a:=u i;rw [h] at a;cases hq:qs[i]? with
 |none=>rw [hq] at a;cases a
 |some q=>
  rw [hq] at a;have c:=(oc.1 hq).1;have a:some b=some (if i<m then (⟨q.es,q.fr,ratT (L i)⟩:Eqn) else q):=a;rw [eN zo] at a;cases a;exact ⟨q,rfl,rfl⟩
section
variable {p:Sdp}{M S:Nat→Nat→Nat→Rat}
noncomputable def dSt (p:Sdp)(ys:List Rat):List (List UInt8):=((AC p.free).map (cmF p ys (gP p.eqs))).map ratT
noncomputable def dP1 (p:Sdp)(ys:List Rat)(E:List Ent):Sdp:={p with obj:=E,objFree:=dSt p ys}
noncomputable def dP2 (p:Sdp)(ys:List Rat)(E:List Ent)(qs':List Eqn):Sdp:={p with obj:=E,objFree:=dSt p ys,eqs:=qs'}
noncomputable def lhs (p:Sdp)(M:Nat→Nat→Nat→Rat)(us:List Rat)(i:Nat):Rat:=if i<gP p.eqs then fm M (eqEs p i)+dt (eqFs p i) us p.free else 0
theorem dp:gP (dSt p ys)=p.free:=by unfold dSt;rw [oo,oo,Aj]
theorem zqo (a:SdpOk F least p)(d:YB ys):∀s∈dSt p ys,TxF 12 864 s:=fun s c=>by
 obtain ⟨q,b,rfl⟩:=Ay.1 c;obtain ⟨t,_,rfl⟩:=Ay.1 b;exact ⟨_,rfl,(a.w.nf d _ t).mono (by have:=a.eql.2;omega)⟩
theorem zln (hok:SdpOk F least p)(yb:YB ys)(ew:EW (dimN p) E (gP (dimN p)) 0 0)(hl:gP E≤256):SdpW F (dP1 p ys E) 48 where
 bl:=hok.bl
 b3:=hok.b3
 free:=hok.free
 objv:=ew.listV rfl fun d hd=>(hok.b3 d hd).1
 obj:=ew.d
 objl:=hl
 ofl:=dp
 ofs:=zqo hok yb
 eql:=hok.w.eql
 eqv:=hok.w.eqv
 eqo:=hok.w.eqo
theorem zev (c:SdpOk F least p)(l:F≤100)(B:PtB p ds M us)(i:Nat):FN 12 75000 (lhs p M us i):=by
 unfold lhs;split
 ·next hi=>
  obtain ⟨x,a⟩:=c.w.eqd (k4 hi);have d:=(zb3 B.b a.ee).up 12;have e:=zb5 a.f2 (fun u f=>B.uf f) p.free;have g:=a.el;have j:=c.free;rw [a.es,a.fs];exact (d.add e).mono zo
 exact FN.zero _ _
theorem zqq (b:SdpOk F least p)(C:F≤100)(B:PtB p ds M us)(G:YB ys)(j:EW (dimN p) E (gP (dimN p)) 0 0)(hl:gP E≤256)(u:UpR p.eqs (lhs p M us) (gP p.eqs) qs'):SdpW F (dP2 p ys E qs') 131072:=by
 have a:=zln b G j hl;have f:∀c∈qs',∃q∈p.eqs,c.es=q.es∧c.fr=q.fr∧TxF 12 131072 c.rhs:=fun c e=>by
  obtain ⟨i,D⟩:=List.mem_iff_getElem?.1 e;obtain ⟨q,d,rfl⟩:=u.get eT D;exact ⟨q,ns d,rfl,rfl,_,rfl,(zev b C B i).mono zd⟩
 refine ⟨a.bl,a.b3,a.free,a.objv,a.obj,a.objl,a.ofl,a.ofs,by have:=u.len;have:=b.eql.2;show (gP qs')≤4;omega,fun c e=>?_,fun c e=>?_⟩
 ·obtain ⟨q,d,g,_,_⟩:=f c e;rw [g];exact b.w.eqv q d
 obtain ⟨q,d,g,y,A⟩:=f c e;obtain ⟨l,o,s,v,_⟩:=b.w.eqo q d;rw [g,y];exact ⟨l,o,s,v,A⟩
theorem zry (hok:SdpOk F least p)(ew:EW (dimN p) E (gP (dimN p)) 0 0)(co:CoI (dimN p) (dD (cmM p ys (gP p.eqs)) S) E (gP (dimN p)) 0 0)(mg:∀k,Gram (M k))(sg:∀k,Gram (S k))(u:UpR p.eqs (lhs p M us) (gP p.eqs) qs'):Built p (dP2 p ys E qs') ys us M S where
 bl:=rfl
 fr:=rfl
 len:=u.len
 es:=fun i=>by
  show ((qs'[i]?).map (·.es)).getD []=((p.eqs[i]?).map (·.es)).getD [];rw [u i];cases p.eqs[i]? with
  |none=>rfl
  |some q=>show (if i<gP p.eqs then (⟨q.es,q.fr,ratT (lhs p M us i)⟩:Eqn) else q).es=q.es;split<;>rfl
 fs:=fun i=>by
  show ((qs'[i]?).map (·.fr)).getD []=((p.eqs[i]?).map (·.fr)).getD [];rw [u i];cases p.eqs[i]? with
  |none=>rfl
  |some q=>show (if i<gP p.eqs then (⟨q.es,q.fr,ratT (lhs p M us i)⟩:Eqn) else q).fr=q.fr;split<;>rfl
 rh:=fun i hi=>by
  show numOf (((qs'[i]?).map (·.rhs)).getD [48])=_;rw [u i,k4 hi];show numOf (if i<gP p.eqs then (⟨_,_,ratT (lhs p M us i)⟩:Eqn) else _).rhs=_;rw [eN hi];show numOf (ratT (lhs p M us i))=_;rw [zn];exact eN hi
 ob:=fun k N i j hk hi hj=>co.all (fun k i j=>by
  unfold dD;rw [(sg k).sym i j];have h1:=zgu p ys (gP p.eqs) k i j;have h2:=zgu p ys (gP p.eqs) k j i;have h3:=jd p ys (gP p.eqs) k i j;have h4:=qJ p.obj k i j
  grind) hk hi hj
 of:=fun t ht=>by
  show numOf (((((AC p.free).map (cmF p ys (gP p.eqs))).map ratT)[t]?).getD [48])=_;rw [sr,sr,AL ht];exact zn _
 ee:=fun i=>⟨1,2,fun e he=>((hok.w.ef i).1 e he).d⟩
 eo:=⟨24,3840,ew.d⟩
 sy:=fun k i j=>(mg k).sym i j
theorem zg2 {p2:Sdp}(b:Built p p2 ys us M S)(hok:SdpOk F least p)(sz:∀k i j,FN 1 8 (S k i j)):MOk 4 1 8 (mds (dimN p) bs) (slM p2 ys (gP p2.eqs)) where
 hn:=fun k d hd=>by
  obtain ⟨N,b,h1,h2,rfl⟩:=mo hd;obtain ⟨x,hx,rfl⟩:=Ay.1 (ns h1);have:=hok.b3 x hx;show 1≤x.toNat∧x.toNat≤3;omega
 hs:=fun k d _ i j _ _=>jd p2 ys _ k i j
 P1:=by decide
 P2:=by decide
 D0:=by decide
 D2:=by decide
 hB:=fun k d hd i j hi hj=>by
  obtain ⟨N,b',h1,h2,rfl⟩:=mo hd;rw [b.slack h1 hi hj];exact sz k i j
 B1:=by decide
 B2:=by decide
theorem dw {a:Sdp}(b:Built p a ys us M S)(d:∀k,Gram (M k)):zq5 a M us:=⟨fun m c=>b.res (by rw [←b.len];exact c),fun k N _=>(d k).psd N⟩
theorem dz {a:Sdp}(b:Built p a ys us M S)(d:dimN a=dimN p)(l:∀k,Gram (S k)):zq6 a ys:=⟨fun t g=>b.free (by rw [←b.fr];exact g),fun k N c=>by
 rw [d] at c;exact zd3 N N 0 (S k) _ (AA N) (fun i j _ _ e f=>(b.slack c e f).symm) ((l k).psd N)⟩
theorem zrx (b:SdpOk F least p)(d:YB ys)(m k i j:Nat):FN 24 (432*m) (cmM p ys m k i j):=by
 induction m with
 |zero=>exact FN.zero _ _
 |succ m ih=>
  have a:FN 2 4 (coL (eqEs p m) k i j):=by
   unfold eqEs;cases hq:p.eqs[m]? with
   |none=>exact FN.zero _ _
   |some q=>
    obtain ⟨a,_⟩:=b.eqo q (ns hq);exact zqt (fun e c=>(a.ok e c).f) a.asc k i j
  exact (ih.add ((d.f m).mul a)).mono zo
end
end
theorem ze3 (k:Nat){h:HF}(a:GK.G h)(n:Nat):VF (cal (k+1)) 9 [] h n fun v=>v=kz true:=⟨_,_,_,_,zg0 k a n,rfl,rfl,rfl,rfl⟩
structure Sdp60 (p:Sdp):Prop where
 ol:gP p.obj≤60
 fl:gP p.objFree≤60
 el:gP p.eqs≤60
 qs:∀q∈p.eqs,gP q.es≤60∧gP q.fr≤60
section
variable {v:Value}{S:List (List UInt8)}
theorem Sl.tape {h h':HF}{n n' b:Nat}{C:List Value}{e:TypeId}(s:Sl h n sz v c)(j:h b=some (.row C e))(q:∀x,x<3*n→x≠b→h' x=h x)(p:n≤n')(i:0<sz)(g:c≠[]→∀o,(C.drop o).take (gP c)≠c):Sl h' n' sz v c:=by
 cases s with
 |nil ha=>exact .nil (vR ha p)
 | @at_ b' off len cap x cs cells hb hx' hc hcap hl he=>
  have d:gP c=len*sz:=by rw [←he,Af,Ak];omega
  by_cases e':b'=b
  ·subst e';rw [j] at hx';cases hx';cases hc;by_cases hc0:c=[]
   ·subst hc0;have:len=0:=by
     rcases Nat.eq_zero_or_pos len with f|f
     ·exact f
     have:=CQ f i;have d:0=len*sz:=d;omega
    subst this;exact .nil (.inr ⟨_,_,_,rfl,zo⟩)
   exact cA (d▸he) (g hc0 off)
  exact .at_ zo ((q _ hb e').trans hx') hc hcap hl he
section
variable {k:Nat}{z:Int}
theorem et (hl:3≤gP c)(o:Nat):(([jx a l k,jy .i64 z]:List Value).drop o).take (gP c)≠c:=fun h=>by
 have:=congrArg gP h;rw [Af,Ak] at this;have d:gP ([jx a l k,jy .i64 z]:List Value)=2:=rfl;omega
theorem zej (h0:strs S≠[])(o:Nat):(([jx a l k,jy .i64 z]:List Value).drop o).take (gP (strs S))≠strs S:=fun h=>by
 cases S with
 |nil=>exact h0 rfl
 |cons s S=>
  have h1:kF ⟨⟨s⟩⟩∈(([jx a l k,jy .i64 z]:List Value).drop o).take (gP (strs (s::S))):=by rw [h];exact As
  have d:=List.mem_of_mem_drop (List.mem_of_mem_take h1);rcases sP.1 d with d|d
  ·cases d
  rw [nP] at d;cases d
theorem EqR.tape (r:EqR h n ce qs)(f:h b=some (.row [jx a l k,jy .i64 z] e))(i:∀x,x<3*n→x≠b→h' x=h x)(g:n≤n'):EqR h' n' ce qs:=by
 induction r with
 |nil=>exact .nil
 | @cons ve vf q cs qs h1 h2 h3 ih=>
  exact .cons (h1.tape f i g zd (fun d=>et (by
   cases hq:q.es with
   |nil=>rw [hq] at d;exact cA rfl d
   |cons x y=>rw [xk,Au];omega))) (h2.tape f i g zd zej) ih
theorem SdpR.tape {p:Sdp}(r:SdpR h n vB vO vF vE p)(j:h b=some (.row [jx a l k,jy .i64 z] e))(g:∀x,x<3*n→x≠b→h' x=h x)(f:n≤n')(C:yj m vB)(G:b<3*m):SdpR h' n' vB vO vF vE p:=by
 obtain ⟨q,u,w,ce,A,i⟩:=r;refine ⟨q.keep (fun o H D s=>?_) f,u.tape j g f zd (fun d=>et (by
   cases hq:p.obj with
   |nil=>rw [hq] at d;exact cA rfl d
   |cons x y=>rw [xk,Au];omega)),w.tape j g f zd zej,ce,A.tape j g f zd (fun d=>et (by
   rw [i.len];cases hq:p.eqs with
   |nil=>rw [hq] at i;cases i;exact cA rfl d
   |cons x y=>rw [Au];omega)),i.tape j g f⟩
 subst s;have F:3*m≤o.block:=C;have B:o.block<3*n:=q.below;exact g _ B zo
end
end
section
set_option maxRecDepth 100000
variable {lo:Nat}{v:Value}
theorem Rec.toEnts {C:List Value}(r:Rec 4 (fun c e=>entP c e h n) C E):C=ents E:=by
 induction r with
 |nil=>rfl
 |cons h1 h2 h3 ih=>rw [ih,show _=entC _ from h2];rfl
theorem GR.ents (g:GR 4 entP lo h n e v E):Sl h n 4 v (ents E):=by
 obtain ⟨C,a,b,_⟩:=g;rw [←b.toEnts];exact a.sl
theorem jg (k:Nat)(hG:GK.G h)(hn:20≤n){aL:Option Addr}{lL cL:Nat}{L:List Int}(fp:∀ad,aL=some ad→ad.spot=none)(hL:Sl h n 1 (jx aL lL cL) (i64s L)):
  VF (cal (k+20)) 5 [jx aL lL cL] h n fun v=>v=kz true:=by
 have g:GG h n:=⟨hG,hn⟩;refine zI (fn:=Tryz.f5) R4 ?_;refine zG ?_;refine zB _ R5 (zpw (k+18) fp hL) ?_;rintro _ h1 _ _ ⟨rfl,rfl,e7,rfl,dm⟩;refine zG ?_;have d6:=fV (k+13) (F:=2) (least:=0) zo dm (n:=n+1) eT;refine zB _ R5 d6 ?_;rintro _ h2 f w2 ⟨⟨ch,cf,dn,bf⟩,p,vB,vO,vF,vE,rfl,gp,I⟩;have ch:∀b∈w2,b=3*n+2:=ch;have bf:∀b,b<3*(n+1)→b≠3*n+2→h2 b=h1 b:=bf;obtain ⟨ce,Q2⟩:=gp.toQ;obtain ⟨i8,gd⟩:=gp.toD;have hp:=gd.toR;have dv:=gd.gB.fresh;have ft:=Q2.gE.fresh;clear gd gp;obtain ⟨aB,lB,cB,rfl,_⟩:=hp.blocks.len;obtain ⟨aO,lO,cO,rfl,_⟩:=hp.obj.len;obtain ⟨aF,lF,cF,rfl,_⟩:=hp.objFree.len;obtain ⟨i9,c2,c4⟩:=hp.eqs;obtain ⟨aE,lE,cE,rfl,_⟩:=c2.len;have fw:=I.free;have fs:=I.eql.2;have iy:=I.bl;have fr:gP (dimN p)=gP p.blocks:=oo ..;have g9:lE=gP p.eqs:=c2.lenEq zo c4.len;have g7:lB=gP (dimN p):=by rw [fr];exact hp.blocks.lenEq zo (by unfold i64s;rw [oo,AO])
 subst g9 g7;rw [vW,z0 (W:=w2) (fun b hb=>by have:=ch b hb;omega)];have X2:Ex0 n h h2:=⟨fun c hc=>(bf c zo zo).trans (e7 c hc)⟩;have fo:∀a,aB=some a→3*(n+1)≤a.block∧a.block<3*f:=fun a e=>⟨Pt.of_fresh dv a _ _ (by rw [e]),Pt.of_below Q2.sB.below a _ _ (by rw [e])⟩;have bc:∀a l c,jx aE (gP p.eqs) cE=jx (some a) l c→3*(n+1)≤a.block∧a.block<3*f:=fun a l c e=>⟨Pt.of_fresh ft a l c e,Pt.of_below Q2.gE.sl.below a l c e⟩;clear e7 bf dm c2 c4;refine Zh ?_;intro h3 p3 x3;refine sS [jx aB (gP (dimN p)) cB,jy .i64 (p.free:Int),jx aO lO cO,jx aF lF cF,jx aE (gP p.eqs) cE] ?_;intro h4 p4 o4;have az:Ext f h2 h4:=(zx:Tx f h2 (f+1) h4).2;obtain ⟨ep,q4⟩:∃e,h4 (3*f+2)=some (.row [jx aB (gP (dimN p)) cB,jy .i64 (p.free:Int),jx aO lO cO,jx aF lF cF,jx aE (gP p.eqs) cE] e):=⟨_,zp⟩;have e1:=hp.ext0 az (show f≤f+1 by omega);have ca:=dn.ext az (show n+1≤f by omega);have E4:Ex0 n h h4:=⟨fun c hc=>(az c zo).trans (X2.e c hc)⟩;clear x3 p3 o4 hp dn X2 p4;refine zG ?_;have ap:=zpt (k+12) ca (show n+1≤f+1 by omega) (N:=gP p.eqs) zo;refine zB _ R5 ap ?_;rintro _ h5 y w5 ⟨l5,aY,A,rfl,bi,cj,ea,fY⟩;obtain ⟨ci,y5,dq,ab⟩:=l5;have ci:∀b∈w5,b=3*n+2:=ci;have ab:∀b,b<3*(f+1)→b≠3*n+2→h5 b=h4 b:=ab;rw [vW,z0 (W:=w5) (fun b hb=>by have:=ci b hb;omega)];obtain ⟨gx,e4,be,_⟩:=ca.row;have e2:=e1.tape be ab y5 dv (show 3*n+2<3*(n+1) by omega);have q5:=(ab (3*f+2) zo zo).trans q4;have yb:YB A:=fun q U=>(cj q U).fn;clear be e1 ca q4;refine Zh ?_;intro h6 p6 x6;refine Zh ?_;intro h7 p7 x7;have a7:Ext y h5 h7:=fun c hc=>(x7 c zo).trans (x6 c hc);have ei:=(x7 (3*y+2) zo).trans p6;have e3:=e2.ext0 a7 (show y≤y+1+1 by omega);have b5:=ea.ext a7 (show y≤y+1+1 by omega);have q7:=(a7 (3*f+2) zo).trans q5;have dr:=dq.ext a7 (show n+1≤y by omega);clear x6 x7 p6 e2 q5 dq;refine zG ?_;have d5:=zrv (k+10) (F:=2) zo e3 I b5 bi yb;refine sC d5 ?_;rintro _ h8 n8 ⟨bS,gr,gn,bF,s8,a8,l8,c8,d8,e8,f8,g8,rfl,mS,oF,_,_,dx,it,iu,iv,iw⟩ y8 x8;refine Zh ?_;intro h9 p9 x9;refine zG ?_;refine sS [kz s8,jx a8 l8 c8,kz d8,jx e8 f8 g8] ?_;intro c0 gj gg;have a9:Ext n8 h8 c0:=(zx:Tx n8 h8 (n8+1) c0).2;have T:Ext (y+1+1) h7 c0:=fun c hc=>(a9 c zo).trans (x8 c hc);have ej:=(T (3*f+2) zo).trans q7;have cs:=(T (3*y+2) zo).trans ei;have ct:=(T (3*(y+1)+2) zo).trans p7;have c7:=dr.ext T (show n+1≤y+1+1 by omega);clear x8 x9 p9 gj gg e3 dr q7 ei p7;refine zG ?_;refine sSx (n0:=n) [jx aB (gP (dimN p)) cB,jy .i64 (p.free:Int),jx none 0 0,jx aF lF cF,jx aE (gP p.eqs) cE] ej ?_;intro a1 eg Y;rw [yo (show 3*n≤3*f+2 by omega)];have br:Tr n8 h8 (n8+1) a1:=Tr.s Y ⟨ux n8,fun c hc=>.inl (a9 c hc)⟩;have cm:RMs a1 (n8+1) bS (dimN p) gr gn (cmM p A (gP p.eqs)):=mS.go br fun c hc=>by
  have h1:=dx c hc;have h2:c<3*n8:=by
   rcases hc with hc|hc|hc
   ·rw [hc];exact mS.s.1
   ·exact mS.tlt hc
   exact mS.rlt hc
  exact (Y.1 c zo).trans (a9 c h2)
 have b1:∀c,3*(n+1)≤c→c<3*f→a1 c=h2 c:=fun c h1 h2=>(Y.1 c zo).trans ((T c zo).trans ((a7 c zo).trans ((ab c zo zo).trans (az c h2))));have d7:Ex0 n h a1:=⟨fun c hc=>(Y.1 c zo).trans ((T c zo).trans ((a7 c zo).trans ((ab c zo zo).trans (E4.e c hc))))⟩;have de:=Q2.go (h':=a1) (n':=n8+1) b1 zo;have c9:Tp a1 _:=c7.ext (n:=n+1) (fun c hc=>Y.1 c zo) eT;have bw:∀c,c<3*(y+1+1)→c≠3*f+2→a1 c=h7 c:=fun c h1 h2=>(Y.1 c h2).trans (T c h1);have bu:Tr (y+1+1) h7 (n8+1) a1:=Tr.trans ⟨zo,fun c hc=>.inl (T c hc)⟩ (Tr.s Y (Tr.refl _ _));have au:OR 4 numP a1 (n8+1) bF ((AC p.free).map (cmF p A (gP p.eqs))):=oF.go numP.kp br ((Y.1 bF zo).trans (a9 bF oF.1));refine zG ?_;refine duB k (p:=p) (Ns:=dimN p) (n0:=n) (bp:=3*f+2) (bx:=3*y+2) (bg:=3*(y+1)+2) rfl ⟨rfl,rfl,rfl,rfl,rfl,rfl,rfl,rfl,rfl,rfl,eP⟩ rfl zo rfl I.b3 de.sB (fun a e=>?_) c9 (show n+1≤n8+1 by omega) zo ⟨show 3*n≤3*n+2 by omega,show 3*n+2<3*(n+1) by omega⟩ ⟨show 3*(n+1)≤3*f+2 by omega,show 3*(n+1)≤3*y+2 by omega,show 3*(n+1)≤3*(y+1)+2 by omega⟩ ⟨zo,zo,show 3*f+2≠3*n+2 by omega⟩ ⟨zo,zo,show 3*y+2≠3*n+2 by omega,zo⟩ ⟨zo,zo,show 3*(y+1)+2≠3*n+2 by omega,zo,zo⟩ cm (fun k i j=>(zrx I yb _ k i j).mono zo) (fun c hc=>?_) eg ((Y.1 _ zo).trans cs) ⟨zo,false,none,0,0,false,none,0,0,_,(Y.1 _ zo).trans ct,UI.zero _ _,UI.zero _ _⟩ ?_
 ·have h1:=fo a e;exact ⟨show a.block≠3*n+2 by omega,zo,zo,zo⟩
 ·have h1:=dx c hc;exact ⟨show c≠3*n+2 by omega,zo,zo,zo⟩
 intro jb af ag bs vX M S E jd c5 D;rw [←xO c5];clear c5;have f0:(mds ((dimN p).take (gP (dimN p))) bs).length=gP (dimN p):=by rw [Ax,rP D.lj]
 obtain ⟨bm,eX,_,iz,oX,_⟩:=D.gX.or f0 zo;subst eX;obtain ⟨bz,eO⟩:=D.gO.shape (L:=gP E) rfl;subst eO;rw [Ax] at oX;have ek:=D.pP;have cw:=D.pX;have jf:=D.le;have ax:∀c,c<3*(n8+1)→c≠3*n+2→c≠3*f+2→c≠3*y+2→c≠3*(y+1)+2→af c=a1 c:=D.fx;refine zG ?_;have ap:=zpt (k+12) D.tp (show n+1≤ag by omega) (N:=p.free) zo;refine zB _ R5 ap ?_;rintro _ fe j5 eo ⟨eb,aU,us,rfl,ec,e6,e9,_⟩;have df:=eb.tr D.tp;obtain ⟨b4,ji,_,aa⟩:=eb;have b4:∀b∈eo,b=3*n+2:=b4;have aa:∀b,b<3*ag→b≠3*n+2→fe b=af b:=aa;rw [vW,z0 (W:=eo) (fun b hb=>by have:=b4 b hb;omega)];refine zG ?_;have g0:=zh8 (k+13) e9 zo (fun q U=>(e6 q U).ok.1) zo;refine sC g0 ?_;rintro _ dh bj ⟨bU,rfl,fU,oU⟩ gv bo;have cy:=(bo (3*y+2) zo).trans ((aa (3*y+2) zo zo).trans cw);refine zG ?_;refine sSx (n0:=n) [jx (some ⟨bm,0,none⟩) (gP (dimN p)) (gP (dimN p)),jx (some ⟨bU,0,none⟩) p.free p.free] cy ?_;intro c1 eh bn;rw [yo (show 3*n≤3*y+2 by omega)];have a4:∀c,c<3*ag→c≠3*n+2→c≠3*y+2→c1 c=af c:=fun c h1 h2 h3=>(bn.1 c h3).trans ((bo c zo).trans (aa c h1 h2));have al:Tr bj dh bj c1:=Tr.s bn (Tr.refl _ _);have ak:Tr ag af bj c1:=df.trans (Tr.trans ⟨gv,fun c hc=>.inl (bo c hc)⟩ al);have ix:=au.1;have cp:=(au.go numP.kp D.tr (ax bF au.1 zo zo zo zo)).go numP.kp ak (a4 bF zo zo zo);refine zG ?_;have fz:=jZ (k+14) (NS.of cp (L:=p.free) (c:=p.free) (by rw [oo,Aj]) eT) zo (m:=12) (fun q U=>by
  obtain ⟨t,_,rfl⟩:=Ay.1 U;exact (I.w.nf yb _ t).sz zd zd zo) zd
 refine sC fz ?_;rintro _ ff J ⟨bQ,rfl,fQ,oQ⟩ eu ae;have em:=(ae (3*f+2) zo).trans ((a4 (3*f+2) zo zo zo).trans ek);refine zG ?_;refine sSx (n0:=n) [jx aB (gP (dimN p)) cB,jy .i64 (p.free:Int),jx bz (gP E) (gP E),jx (some ⟨bQ,0,none⟩) p.free p.free,jx aE (gP p.eqs) cE] em ?_;intro H cr ah;rw [yo (show 3*n≤3*f+2 by omega)];have K:∀c,c<3*ag→c≠3*n+2→c≠3*f+2→c≠3*y+2→H c=af c:=fun c h1 h2 h3 h4=>(ah.1 c h3).trans ((ae c zo).trans (a4 c h1 h2 h4));have a3:Tr J ff J H:=Tr.s ah (Tr.refl _ _);have ba:Tr bj dh J H:=al.trans (Tr.trans ⟨eu,fun c hc=>.inl (ae c hc)⟩ a3);have Z:Tr ag af J H:=ak.trans (Tr.trans ⟨eu,fun c hc=>.inl (ae c hc)⟩ a3);have cz:=(ah.1 (3*y+2) zo).trans ((ae _ zo).trans eh);have b8:=oX.go mdP.kp Z (K bm oX.1 zo zo zo);have cq:∀(k' N b:Nat),(dimN p)[k']?=some N→bs[k']?=some b→OT H J b ((tabL N (M k')).map ratT)∧3*(n8+1)≤b:=fun k' N b h1 h2=>by
  have u:=(D.o k' N b h1 h2).1;have fq:=D.fb b (ns h2);exact ⟨u.go strP.kp Z (K b u.1 zo zo zo),fq⟩
 have b7:=oU.go strP.kp ba ((ah.1 bU zo).trans ((ae bU oU.1).trans (bn.1 bU zo)));have av:=oQ.go strP.kp a3 (ah.1 bQ zo);have ao:=D.gO.go entP.kp Z (fun b hb=>by
  have h1:=D.gO.bk b hb;exact K b h1.2.1 zo zo zo)
 have bq:Box4 H J (3*(y+1)+2) (gpB M S (dimN p) (gP (dimN p))):=D.pG.go Z (K _ zo zo zo zo);have B:PtB p (mds (dimN p) bs) M us:=⟨zrq D.lj,ec,fun k i j=>(D.mg k).sym i j,D.mz,e6⟩;have b6:∀{h':HF} {n':Nat} (p':Sdp),Tr J H n' h'→(∀c,3*f+3≤c→c<3*J→h' c=H c)→PtR h' n' (jx (some ⟨bm,0,none⟩) (gP (dimN p)) (gP (dimN p))) (jx (some ⟨bU,0,none⟩) p.free p.free) p' (mds (dimN p) bs) M us:=fun p' t x=>by
  refine ⟨⟨OR.sl (b8.go mdP.kp t (x bm zo b8.1)) (by rw [rP D.lj]) eT,fun k' d hd=>?_⟩,OT.sl (b7.go strP.kp t (x bU zo b7.1)) (by rw [oo];exact ec.symm) eT⟩;obtain ⟨N,b,h1,h2,rfl⟩:=mo hd;obtain ⟨u,hb⟩:=cq k' N b h1 h2;exact OT.sl (u.go strP.kp t (x b zo u.1)) (by rw [oo,yI]) eT
 have bv:∀c,3*(n+1)≤c→c<3*f→H c=h2 c:=fun c h1 h2=>(K c zo zo zo zo).trans ((ax c zo zo zo zo zo).trans (b1 c h1 h2));have d9:Ex0 n h H:=⟨fun c hc=>(K c zo zo zo zo).trans ((ax c zo zo zo zo zo).trans (d7.e c hc))⟩;have ay:=Q2.go (h':=H) (n':=J) bv zo;have c3:gP E≤256:=by have:=D.el;omega
 have gi:=zln I yb D.ew c3;have cg:SdpR H J (jx aB (gP (dimN p)) cB) (jx bz (gP E) (gP E)) (jx (some ⟨bQ,0,none⟩) p.free p.free) (jx aE (gP p.eqs) cE) (dP1 p A E):=⟨ay.sB,ao.ents,OT.sl av (show p.free=gP (dSt p A) from dp.symm) eT,ce,ay.gE.sl,ay.qE⟩;have ar:NS H J (jx aY (gP p.eqs) (gP p.eqs)) A:=by
  have hb:∀a l c,jx aY (gP p.eqs) (gP p.eqs)=jx (some a) l c→3*(f+1)≤a.block∧a.block<3*y:=fun a l c e=>by
   obtain ⟨_,sY,_⟩:=ea;exact ⟨Pt.of_fresh fY a l c e,Pt.of_below sY.below a l c e⟩
  have t:Tr (y+1+1) h7 J H:=bu.trans (D.tr.trans Z);exact b5.keepT numP.kp t fun a l c e=>by
   have h1:=hb a l c e;exact (K _ zo zo zo zo).trans ((ax _ zo zo zo zo zo).trans (bw _ zo zo))
 clear K Z ba a3 al ak a4 ah bn ae bo aa ax oX oU oQ cp au e9 df ek cw em cy eh b5 cm de br c9 bw bu b1 d7 a9 T Y eg ej cs ct c7 a7 ab az;have B1:PtB (dP1 p A E) (mds (dimN p) bs) M us:=⟨B.d,B.l,B.s,B.b,B.r⟩;refine zG ?_;have f1:=zmh (k+10) (F:=2) zo cg gi (b6 _ (Tr.refl _ _) (fun _ _ _=>rfl)) B1;refine sC f1 ?_;rintro _ fg ga ⟨aR,eR,iR,fR⟩ ev ai;have eR:_=jx aR (gP p.eqs) (gP p.eqs):=eR;subst eR;have iR:NS fg ga (jx aR (gP p.eqs) (gP p.eqs)) ((AC (gP p.eqs)).map (rsQ (dP1 p A E) M us)):=iR;have fR:yj J (jx aR (gP p.eqs) (gP p.eqs)):=fR;have en:=(ai (3*f+2) zo).trans cr;refine zG ?_;refine duR k (n0:=n) (lo:=n+1) (bp:=3*f+2) (L:=lhs p M us) rfl ⟨rfl,rfl,rfl,rfl,rfl,rfl,rfl,eP⟩ rfl fs zo ⟨zo,zo⟩ (fun a l c e=>by have:=bc a l c e;omega) en (ay.go (fun b _ hb=>ai b hb) ev) iR (fun a e b l c e'=>?_) (fun i q U=>?_) (fun i=>(zev I zo B i).mono zd) (fun r hr=>?_) ?_
 ·have h1:=bc b l c e';have h2:3*J≤a.block:=Pt.of_fresh fR a _ _ (by rw [e]);omega
 ·obtain ⟨x,hd⟩:=I.w.eqd U;have hi:=(oc.1 U).1;refine ⟨x,hd.r,hd.sx.sz zd zd zd,?_⟩;rw [sr,AL hi];show some (fm M (eqEs p i)+dt (eqFs p i) us p.free-numOf (eqRh p i))=some (lhs p M us i-x);unfold lhs;rw [eN hi,hd.rh]
 ·obtain ⟨i,hi,rfl⟩:=Ay.1 hr;have hi:=Cf.1 hi;obtain ⟨x,hd⟩:=I.w.eqd (k4 hi);show Sz 18 (fm M (eqEs p i)+dt (eqFs p i) us p.free-numOf (eqRh p i));have h1:=zev I zo B i;unfold lhs at h1;rw [eN hi] at h1;have h2:=h1.add ((FN.int (-1) (B:=1) zd).mul hd.sx);rw [hd.rh,show ∀a b:Rat,a-b=a+((-1:Int):Rat)*b from fun a b=>by rw [show ((-1:Int):Rat)= -1 from rfl];grind];exact h2.sz zd zd zd
 intro jc V C O ez c6 jj b0 b9 d1 dg;rw [←xO c6];clear c6;have fy:∀c,3*f≤c→∀a l k,jx aE (gP p.eqs) cE=jx (some a) l k→a.block≠c:=fun c hc a l k e=>by have:=bc a l k e;omega
 have a2:∀c,3*f≤c→c<3*J→V c=H c:=fun c h1 h2=>(d1 c zo (fy c h1)).trans (ai c h2);have a0:Tr J H C V:=Tr.trans ⟨ev,fun c hc=>.inl (ai c hc)⟩ dg;have bt:=zry I D.ew D.co D.mg D.sg b0;have ac:=zqq I zo B yb D.ew c3 b0;have B2:PtB (dP2 p A E O) (mds (dimN p) bs) M us:=⟨B.d,B.l,B.s,B.b,B.r⟩;have aq:SdpR V C (jx aB (gP (dimN p)) cB) (jx bz (gP E) (gP E)) (jx (some ⟨bQ,0,none⟩) p.free p.free) (jx aE (gP p.eqs) cE) (dP2 p A E O):=⟨b9.sB,(ao.go entP.kp a0 (fun b hb=>by
  have h1:=ao.bk b hb;exact a2 b zo h1.2.1)).ents,OT.sl (av.go strP.kp a0 (a2 bQ zo av.1)) (show p.free=gP (dSt p A) from dp.symm) eT,ez,b9.gE.sl,b9.qE⟩
 have cu:=b6 (dP2 p A E O) a0 (fun c h1 h2=>a2 c zo h2);have fd:=bq.go a0 (a2 _ zo bq.1);have bh:NS V C (jx aY (gP p.eqs) (gP p.eqs)) A:=ar.keepT numP.kp a0 fun a l c e=>by
  obtain ⟨_,sY,_⟩:=ar;exact a2 _ (by have:=Pt.of_fresh fY a l c e;omega) (Pt.of_below sY.below a l c e)
 have aw:Ex0 n h V:=⟨fun c hc=>(d1 c zo (fun a l k e=>by have:=bc a l k e;omega)).trans ((ai c zo).trans (d9.e c hc))⟩;have cv:=(a2 (3*f+2) zo zo).trans cr;have d0:=(a2 (3*y+2) zo zo).trans cz;obtain ⟨_,sG,aG,lG,cG,sH,aH,lH,cH,tG,f4,iG,jG⟩:=fd;have fa:n≤C:=zo;have j1:y+2≤C:=zo;have cd:gP (A.map ratT)=(dP2 p A E O).eqs.length:=by rw [oo,bi];exact b0.len.symm
 have cb:∀s∈A.map ratT,TxF 12 108 s:=fun s hs=>by
  obtain ⟨q,U,rfl⟩:=Ay.1 hs;exact ⟨q,rfl,yb q U⟩
 have b2:(A.map ratT).map numOf=A:=by
  rw [DA];exact (Ba fun q _=>zn q).trans (Da _)
 have cc:=bt.gap;rw [←zfc] at cc;have e0:=zot (Ns:=dimN p) D.mg D.sg;rw [←zfc] at e0;have zgap:Sz 11 (gpB M S (dimN p) (gP (dimN p))):=(zk5 (fun N hN=>by
  obtain ⟨d,hd,rfl⟩:=Ay.1 hN;have:=I.b3 d hd;omega) D.mz D.sz _).sz zd zd zo
 have zsl:FN 144 56623104 (slV (dP2 p A E O) A (dP2 p A E O).eqs.length):=(ac.vf yb _).mono (by have:=b0.len;show 108*131072*gP O≤_;omega);have zva:FN 144 56623104 (vaQ (dP2 p A E O) M us):=by
  have h1:=(zb3 B2.b ac.obj).up 6;have h2:=zb5 ac.ofs (fun u hu=>B2.uf hu) (dP2 p A E O).free;have h3:(dP2 p A E O).obj.length≤256:=c3;have h4:(dP2 p A E O).free≤2:=fw;exact (h1.add h2).mono zo
 clear iR fR ai ay cg a2 a0 d1 dg b0 b9 b6 b8 cq b7 av ao bq ar d9 bv cr en cz Q2;refine zG ?_;refine sC (zrs (k+1) (g.ext aw.e fa) (F:=2) zo aq eT ac cu B2).cx ?_;rintro _ fh j6 ⟨ok,rfl,fv⟩ gw aj;obtain rfl:ok=true:=fv.2 (dw bt D.mg);have gk:=(aj (3*f+2) zo).trans cv;have f7:=(aj (3*y+2) zo).trans d0;have da:Ex0 n h fh:=⟨fun c hc=>(aj c zo).trans (aw.e c hc)⟩;refine zG ?_;refine zm [0,0,2,7,15,31,31,63,255] rfl ?_;refine zH ?_;refine dC (jZ (k+14) (bh.ext aj gw) zo (m:=4) (fun q U=>(cj q U).ok.1) zo) ?_;rintro _ di ed ⟨bY,rfl,_,oY⟩ jk d2;refine zH ?_;have db:Ex0 n h di:=⟨fun c hc=>(d2 c zo).trans (da.e c hc)⟩;have am:Ext C V di:=fun c hc=>(d2 c zo).trans (aj c hc);have ds:=zf1 (k+1) (g.ext db.e (show n≤ed by omega)) (F:=2) zo (aq.ext0 am (show C≤ed by omega)) eT ac (OT.sl oY (len:=gP p.eqs) (cap:=gP p.eqs) (by rw [oo];exact bi.symm) eT) cb cd (fun {bs}=>by rw [b2];exact zg2 (p:=p) bt I D.sz);rw [b2] at ds;refine dC ds.cx ?_;rintro _ dj cn ⟨gh,rfl,fu⟩ jl eq;obtain rfl:gh=true:=fu.2 (dz bt rfl D.sg);have R:Ext C V dj:=fun c hc=>(eq c zo).trans (am c hc);have gl:=(R (3*f+2) zo).trans cv;have f9:=(R (3*y+2) zo).trans d0;have dc:Ex0 n h dj:=⟨fun c hc=>(R c zo).trans (aw.e c hc)⟩;clear gk f7 aj d2 eq db oY am da;refine zH ?_;refine zG ?_;refine sC (zoq (k+4) (g.ext dc.e (show n≤cn by omega)) (F:=2) zo (aq.ext0 R (show C≤cn by omega)) eT ac (cu.ext R (show C≤cn by omega)) B2).cx ?_;rintro _ fi gb rfl jm er;have a5:Ext C V fi:=fun c hc=>(er c zo).trans (R c hc);have gm:=(a5 (3*f+2) zo).trans cv;refine zG ?_;refine zm [0,0,2,7,15,31,31,63,255] rfl ?_;refine zH ?_;refine dC (jZ (k+14) (bh.ext a5 (show C≤gb by omega)) zo (m:=4) (fun q U=>(cj q U).ok.1) zo) ?_;rintro _ dk ee ⟨bY,rfl,_,oY⟩ jn es;refine zH ?_;have a6:Ext C V dk:=fun c hc=>(es c zo).trans (a5 c hc);have dd:Ex0 n h dk:=⟨fun c hc=>(a6 c zo).trans (aw.e c hc)⟩;have du:=zjj (k+7) (g.ext dd.e (show n≤ee by omega)) (F:=2) zo (aq.ext0 a6 (show C≤ee by omega)) eT ac (OT.sl oY (len:=gP p.eqs) (cap:=gP p.eqs) (by rw [oo];exact bi.symm) eT) cb cd;rw [b2] at du;refine dC du.cx ?_;rintro _ dl gc rfl jo et;have bb:Ext C V dl:=fun c hc=>(et c zo).trans (a6 c hc);have fc:Ex0 n h dl:=⟨fun c hc=>(bb c zo).trans (aw.e c hc)⟩;clear gl f9 er es et gm oY a5 a6 dd dc R;refine zH ?_;refine zG ?_;refine zm [0,1,3,7,15,31,63,127,255,511,1023,2047,4095,8191,16383,32767,65535,131071,262143,524287,1048575,2097151,4194303,8388607,16777215,33554431,16777215,134217727,268435455,16777215,1073741823,2147483647,4294967295,8589934591,17179869183,34359738367,68719476735,137438953471,274877906943] rfl ?_;refine zH ?_;refine dC (ze3 (k+18) (g.ext fc.e (show n≤gc by omega)).1 _).cx ?_;rintro _ fj ge rfl jp gs;refine zH ?_;have bd:∀{q:Rat},FN 144 56623104 q→RdS (ratT q)∧q.num.natAbs<2^26∧q.den<2^8:=fun {q} U=>by
  have h1:=U.num_le zd;have h2:=Nat.le_of_dvd zd U.den;have h3:=(U.sz (P:=29) zd zd zd).len29;exact ⟨⟨zo,.inr ⟨q,rfl,zo⟩⟩,zo,zo⟩
 have dy:=zmt (k+12) fj ge (ratT (slV (dP2 p A E O) A (dP2 p A E O).eqs.length)) (bd zsl).1;rw [zn] at dy;refine dC dy ?_;rintro _ fk gf ⟨i2,gz,j2,i5,ia,id,ii,il,rfl,g1,g4⟩ jq gt;refine zH ?_;have cf:=zmt (k+12) fk gf (ratT (vaQ (dP2 p A E O) M us)) (bd zva).1;rw [zn] at cf;refine dC cf ?_;rintro _ ip j7 ⟨i3,i0,j3,i6,ib,ie,ij,im,rfl,g2,g5⟩ ex d3;have e5:=zko (k+12) (g1.x ⟨ex,d3⟩) (g4.x ⟨ex,d3⟩) g2 g5 (bd zsl).2 (bd zva).2 zo zo zo;rw [cc] at e5;refine dC e5 ?_;rintro _ fl ef ⟨i4,i1,j4,i7,ic,ig,ik,io,rfl,g3,g6⟩ jr gu;have an:Ext C V fl:=fun c hc=>(gu c zo).trans ((d3 c zo).trans ((gt c zo).trans ((gs c zo).trans (bb c hc))));have f6:=(an (3*(y+1)+2) zo).trans f4;have ck:=iG.ext an (show C≤ef by omega);have cl:=jG.ext an (show C≤ef by omega);refine zH ?_;refine dC (zpg (k+11) g3 g6 ck cl zgap zgap zo).cx ?_;rintro _ iq j8 ⟨gq,rfl,f2⟩ ey d4;obtain rfl:gq=0:=by
  rcases f2 with ⟨_,h⟩|⟨h,_⟩|⟨_,h⟩
  ·exact cA h Rat.lt_irrefl
  ·exact h
  exact cA h Rat.lt_irrefl
 have gy:=(d4 (3*(y+1)+2) zo).trans f6;refine zH ?_;refine dC (jh (k+17) (ck.ext d4 ey) (cl.ext d4 ey)) ?_;rintro _ ir j9 ⟨ja,rfl,f3⟩ js je;have j0:=Rat.num_nonneg.2 e0;rcases f3 with ⟨rfl,h⟩|⟨rfl,h⟩|⟨rfl,h⟩
 ·omega
 ·refine zH ?_;refine Zq ?_;rfl
 refine zH ?_;refine Zq ?_;rfl
end
def upFn (nm:Nat→Nat):Fn→Fn
 | .yield l=>.yield (nm l)
 |f=>f
mutual
def up (nm:Nat→Nat):Value→Value
 | kS (some a)=>kS (some ⟨nm a.block,a.off,a.spot⟩)
 | jx (some a) l c=>jx (some ⟨nm a.block,a.off,a.spot⟩) l c
 | .func f a b=>.func (upFn nm f) (upA nm a) (upA nm b)
 | .agg cs=>.agg (upA nm cs)
 | .tuple cs=>.tuple (upA nm cs)
 |v=>v
def upA (nm:Nat→Nat):Array Value→Array Value
 |⟨l⟩=>⟨upL nm l⟩
def upL (nm:Nat→Nat):List Value→List Value
 |[]=>[]
 |v::r=>up nm v::upL nm r
end
mutual
theorem dq {j:Nat→Nat}(d:∀b,ρ.b (j b)=b)(i:∀b,ρ.x (j b)=0)(g:∀b,gro (j b)=false):∀v:Value,conc ρ (up j v)=v
 | kS none=>rfl
 | kS (some a)=>by simp [up,conc,Ren.addr,d]
 | jx none _ _=>rfl
 | jx (some a) l c=>by
  simp only [up,conc];rw [ρ.adrS_old (g a.block),i];simp [Ren.addr,d]
 | .func f a b=>by
  have h1:ρ.fn (upFn j f)=f:=by cases f<;>simp [upFn,Ren.fn,d]
  simp only [up,conc,h1,ng d i g a,ng d i g b]
 | .agg cs=>by simp only [up,conc,ng d i g cs]
 | .tuple cs=>by simp only [up,conc,ng d i g cs]
 | kz _=>by simp [up,conc]
 | jy _ _=>by simp [up,conc]
 | .float _ _=>by simp [up,conc]
 | .complex _ _ _=>by simp [up,conc]
 | kF _=>by simp [up,conc]
 | .map _=>by simp [up,conc]
 | .chan _=>by simp [up,conc]
 | .nilFunc=>by simp [up,conc]
 | .nilIface=>by simp [up,conc]
 | .iface _ _=>by simp [up,conc]
theorem ng {nm:Nat→Nat}(hb:∀b,ρ.b (nm b)=b)(hx:∀b,ρ.x (nm b)=0)(hg:∀b,gro (nm b)=false):∀a:Array Value,mR ρ (upA nm a)=a
 |⟨l⟩=>by simp only [upA,mR,zap hb hx hg l]
theorem zap {nm:Nat→Nat}(hb:∀b,ρ.b (nm b)=b)(hx:∀b,ρ.x (nm b)=0)(hg:∀b,gro (nm b)=false):∀l:List Value,kc ρ (upL nm l)=l
 |[]=>rfl
 |v::r=>by simp only [upL,kc,dq hb hx hg v,zap hb hx hg r]
end
def bdFn:Fn→Nat
 | .yield l=>l+1
 |_=>0
mutual
def bd:Value→Nat
 | kS (some a)=>a.block+1
 | jx (some a) _ _=>a.block+1
 | .func f a b=>bdFn f+bdA a+bdA b
 | .agg cs=>bdA cs
 | .tuple cs=>bdA cs
 |_=>0
def bdA:Array Value→Nat
 |⟨l⟩=>bdL l
def bdL:List Value→Nat
 |[]=>0
 |v::r=>bd v+bdL r
end
theorem zj7 (c:Agr m ρ ρ'){a:Addr}(h:a.block<m):ρ'.addr a=ρ.addr a:=by
 unfold Ren.addr;rw [(c _ h).1]
theorem zj6 (d:Agr m ρ ρ'){a:Addr}(h:a.block<m){c:Nat}:ρ'.adrS a l c=ρ.adrS a l c:=by
 unfold Ren.adrS Ren.addr;rw [(d _ h).1,(d _ h).2]
mutual
theorem zmx:∀(v:Value) (m:Nat),bd v≤m→Nb m v
 | kS none,m,_=>fun ρ ρ' _=>by simp
 | kS (some a),m,h=>fun ρ ρ' d=>by
  simp only [bd] at h;simp only [conc,zj7 d (show a.block<m by omega)]
 | jx none _ _,m,_=>fun ρ ρ' _=>by simp
 | jx (some a) l c,m,h=>fun ρ ρ' d=>by
  simp only [bd] at h;simp only [conc,zj6 d (show a.block<m by omega),(d _ (show a.block<m by omega)).2]
 | .func f a b,m,h=>fun ρ ρ' d=>by
  simp only [bd] at h;have h1:ρ'.fn f=ρ.fn f:=by
   cases f<;>simp [Ren.fn];rename_i l;exact (d l (by simp only [bdFn] at h;omega)).1
  simp only [conc,h1,bM a m zo ρ ρ' d,bM b m zo ρ ρ' d]
 | .agg cs,m,h=>fun ρ ρ' d=>by
  simp only [bd] at h;simp only [conc,bM cs m h ρ ρ' d]
 | .tuple cs,m,h=>fun ρ ρ' d=>by
  simp only [bd] at h;simp only [conc,bM cs m h ρ ρ' d]
 | kz _,m,_=>fun ρ ρ' _=>by simp [conc]
 | jy _ _,m,_=>fun ρ ρ' _=>by simp [conc]
 | .float _ _,m,_=>fun ρ ρ' _=>by simp [conc]
 | .complex _ _ _,m,_=>fun ρ ρ' _=>by simp [conc]
 | kF _,m,_=>fun ρ ρ' _=>by simp [conc]
 | .map _,m,_=>fun ρ ρ' _=>by simp [conc]
 | .chan _,m,_=>fun ρ ρ' _=>by simp [conc]
 | .nilFunc,m,_=>fun ρ ρ' _=>by simp [conc]
 | .nilIface,m,_=>fun ρ ρ' _=>by simp [conc]
 | .iface _ _,m,_=>fun ρ ρ' _=>by simp [conc]
theorem bM:∀(a:Array Value) (m:Nat),bdA a≤m→∀ρ ρ':Ren,Agr m ρ ρ'→mR ρ' a=mR ρ a
 |⟨l⟩,m,h=>fun ρ ρ' ha=>by
  simp only [bdA] at h;simp only [mR,zk0 l m h ρ ρ' ha]
theorem zk0:∀(l:List Value) (m:Nat),bdL l≤m→∀ρ ρ':Ren,Agr m ρ ρ'→kc ρ' l=kc ρ l
 |[],m,_=>fun ρ ρ' _=>rfl
 |v::r,m,h=>fun ρ ρ' ha=>by
  simp only [bdL] at h;simp only [kc,zmx v m zo ρ ρ' ha,zk0 r m zo ρ ρ' ha]
end
theorem zg7:∀{l:List Value} {v:Value},v∈l→bd v≤bdL l:=by
 intro l;induction l with
 |nil=>intro v c;cases c
 |cons a l ih=>
  intro v c;simp only [bdL];rcases sP.1 c with rfl|c
  ·omega
  have:=ih c;omega
def tW (W:World)(b:Nat):Option (List Value):=match W.heap[b]? with|some (.cells c _ _)=>some c.toList|_=>none
noncomputable def wh (nm:Nat→Nat)(W:World):Nat→Hp
 |0=>.lf
 |k+1=>match tW W k with|some c=>Tr.put (wh nm W k) (nm k) (some (.ro (c.map (up nm))))|none=>wh nm W k
theorem zc0 {d:Nat→Nat}(p:∀a b,d a=d b→a=b)(W:World):∀k x y,(wh d W k).at x=some y↔∃b,b<k∧x=d b∧∃c,tW W b=some c∧y=.ro (c.map (up d)):=by
 intro k;induction k with
 |zero=>
  intro x y;constructor
  ·intro h;cases h
  rintro ⟨b,g,_⟩;omega
 |succ k ih=>
  intro x y;unfold wh;cases hc:tW W k with
  |none=>
   simp only;rw [ih];constructor
   ·rintro ⟨b,g,h⟩;exact ⟨b,zo,h⟩
   rintro ⟨b,g,rfl,c,f,i⟩;have:b≠k:=fun e=>by rw [e,hc] at f;cases f
   exact ⟨b,zo,rfl,c,f,i⟩
  |some c=>
   simp only;show Tr.get none (Tr.put (wh d W k) (d k) _) x=some y↔_;rw [Tr.get_put none rfl];by_cases hx:x=d k
   ·rw [eN hx];constructor
    ·intro h;injection h with h;exact ⟨k,zo,hx,c,hc,h.symm⟩
    rintro ⟨b,g,e,q,f,i⟩;have j:b=k:=p _ _ (e.symm.trans hx);rw [j,hc] at f;injection f with f
    rw [i,f]
   rw [cC hx];show (wh d W k).at x=some y↔_;rw [ih];constructor
   ·rintro ⟨b,g,h⟩;exact ⟨b,zo,h⟩
   rintro ⟨b,g,e,h⟩;have:b≠k:=fun o=>hx (by rw [e,o]);exact ⟨b,zo,e,h⟩
def nm (b:Nat):Nat:=if b=1∨b=0∨b=4 then 3*b else 3*b+2
theorem iX (a b:Nat)(h:nm a=nm b):a=b:=by
 unfold nm at h;split at h<;>split at h<;>omega
def ren0:Ren:=⟨fun x=>x/3,fun _=>0,fun _ _=>rfl,fun g=>by simp⟩
theorem ma (b:Nat):ren0.b (nm b)=b:=by
 unfold nm ren0;split<;>simp<;>omega
theorem zmu (h:b<n):nm b<3*n:=by
 unfold nm;split<;>omega
theorem zky (b:Nat):gro (nm b)=false:=by
 unfold nm gro;split
 ·rw [Nat.mul_mod_right];rfl
 rw [Nat.mul_add_mod];rfl
noncomputable def wH (W:World):Hp:=wh nm W W.heap.size
theorem zop (W:World):Sim rel ren0 (wH W) W:=by
 refine ⟨fun x y h=>?_,fun x o h f e=>?_⟩
 ·obtain ⟨b,j,rfl,c,a,rfl⟩:=(zc0 iX W _ _ _).1 h;unfold tW at a;split at a
  ·rename_i c' e fz hW;injection a with a
   subst a;refine ⟨_,by rw [ma];exact hW,e,fz,?_⟩;rw [DA];have:(c'.toList.map (conc ren0 ∘ up nm))=c'.toList:=by
    conv=>rhs;rw [←Da c'.toList]
    exact Ba fun v _=>dq ma (fun _=>rfl) zky v
   rw [this]
  cases a
 obtain ⟨y,g⟩:=AB.1 h;obtain ⟨p,d⟩:=AB.1 f;obtain ⟨b,_,rfl,_⟩:=(zc0 iX W _ _ _).1 g;obtain ⟨i,_,rfl,_⟩:=(zc0 iX W _ _ _).1 d;rw [ma,ma] at e;rw [e]
structure Wn (W:World)(n:Nat):Prop where
 sz:W.heap.size≤n
 le:∀(b:Nat) (c:Array Value) (e:TypeId) (fz:Nat×Nat),W.heap[b]?=some (Obj.cells c e fz)→∀v∈c.toList,bd (up nm v)≤3*n
theorem zrc (W:World)(d:List Value):∃n,20≤n∧Wn W n∧HNb (3*n) (wH W)∧∀v∈d,bd v≤3*n:=by
 have s:∀k,∃m,∀b,b<k→∀c,tW W b=some c→bdL (c.map (up nm))≤m:=by
  intro k;induction k with
  |zero=>exact ⟨0,fun b a=>zo⟩
  |succ k ih=>
   obtain ⟨m,g⟩:=ih;cases i:tW W k with
   |none=>exact ⟨m,fun b a c h=>g b (by (have:b≠k:=fun e=>by rw [e,i] at h;cases h);omega) c h⟩
   |some c'=>
    refine ⟨m+bdL (c'.map (up nm)),fun b a c h=>?_⟩;by_cases hbk:b=k
    ·rw [hbk,i] at h;injection h with h;subst h;omega
    have:=g b zo c h;omega
 obtain ⟨m,g⟩:=s W.heap.size;refine ⟨20+W.heap.size+m+bdL d,zo,⟨zo,fun b c e u o v q=>?_⟩,fun x y h=>?_,fun v p=>by have:=zg7 p;omega⟩
 ·have a:b<W.heap.size:=by
   rcases Ci b W.heap.size with j|j
   ·exact j
   rw [BH j] at o;cases o
  have w:=g b a c.toList (by unfold tW;rw [o]);have A:=zg7 (List.mem_map_of_mem (f:=up nm) q);omega
 obtain ⟨b,a,rfl,c,i,rfl⟩:=(zc0 iX W _ _ _).1 h;exact ⟨zmu zo,fun v p=>zmx v _ (by have:=zg7 p;have:=g b a c i;omega)⟩
theorem dX {W:World}{c:Array Value}{fz:Nat×Nat}(h:W.heap[b]?=some (.cells c e fz)):hv (wH W) (nm b)=some (.ro (c.toList.map (up nm))):=by
 have d:b<W.heap.size:=by
  rcases Ci b W.heap.size with a|a
  ·exact a
  rw [BH a] at h;cases h
 exact zne ((zc0 iX W _ _ _).2 ⟨b,d,rfl,_,by unfold tW;rw [h],rfl⟩)
theorem zcj {W:World}(f:FuncId)(a:List Value)(k:Nat)(s:∀n,20≤n→Wn W n→(∀v∈a.map (up nm),bd v≤3*n)→VF (cal k) f (a.map (up nm)) (hv (wH W)) n fun v=>v=kz true):
  Calls Tryz.prog f a.toArray W fun e B=>e=.returned (kz true)∧RowKit.Below W.heap.size W B:=by
 obtain ⟨n,I,J,A,i⟩:=zrc W (a.map (up nm));have D:∀v∈a.map (up nm),Nb (3*n) v:=fun v hv=>zmx v _ (i v hv);obtain ⟨v,P,R,w,y,o,u,p,q⟩:=s n I J i;rw [o,u,p,q] at y;obtain ⟨⟨N,C,M,O⟩,K,L⟩:=(zn5 k).call f (a.map (up nm)) (wH W) n _ y;obtain ⟨o,u,p,q⟩:N=kz true∧hv C=hv (wH W)∧M=n∧O=[]:=by
  simpa [rv] using L
 subst o p q;obtain ⟨_,c⟩:=(zqz k).call _ _ _ _ _ _ _ _ K 0 ren0 W (zop W) A D;have g:((a.map (up nm)).map (conc ren0))=a:=by
  rw [DA]
  conv=>rhs;rw [←Da a]
  exact Ba fun v _=>dq ma (fun _=>rfl) zky v
 rw [g] at c;refine (callsIn_wide.1 c).mono fun e B ⟨ρ',G,d⟩=>⟨by rw [G];simp,?_⟩;exact ⟨d.os,d.tape,d.out,d.size,fun j H=>d.fr j H fun b F=>cA F nN⟩
end Go.Proofs.YtfajmfoofmienaaGreatDoor
namespace Go.Proofs.YtfajmfoofmienaaGreatDoor
open Go Go.GL Go.ChangeShapes Go.WideShapes Go.RowKit
variable {H:Type}{base n:Nat}{held:Bool}{cs:List Value}{e t:TypeId}{v:Value}{W:World}
section
set_option maxRecDepth 100000
theorem eE {enc:TypeId×Value→H}{P:Program}{w:World}{f:Nat→Bool}{b:Bool}{a:Nat}{k:IntKind}{c:Value}{y:DataW H×List MemPlace}
  (d:P.underlying t=some (.int k))(h:EN enc P w base f b a t [c]=some y):∃n,c=jy k n∧y=(.lit (.int k n),[]):=by
 cases a with
 |zero=>simp [EN] at h
 |succ a=>
  cases c<;>simp [EN,d] at h;rename_i k' n;obtain ⟨⟨rfl,_⟩,rfl⟩:=h;exact ⟨n,rfl,rfl⟩
theorem jJ {enc:TypeId×Value→H}{P:Program}{w:World}{G:Nat→Bool}{g:Bool}{a:Nat}{k:IntKind}{l:List Int}{p:List MemPlace}
  (D:P.underlying t=some (.array n e))(C:P.underlying e=some (.int k))(o:P.cellsOf e=1)(s:P.cellsOf t=n)
  (h:EN enc P w base G g a t cs=some (.agg (l.map fun z=>.lit (.int k z)),p)):cs=l.map fun z=>jy k z:=by
 cases a with
 |zero=>simp [EN] at h
 |succ a=>
  simp only [EN,D] at h;split at h
  ·rename_i hl;rw [s] at hl;rw [Option.map_eq_some_iff] at h;obtain ⟨A,u,b⟩:=h;simp only [Prod.mk.injEq,DataW.agg.injEq] at b;obtain ⟨b,_⟩:=b;have m:=mapM_some_length u;rw [Aj] at m;have I:gP l=n:=by
    have:=congrArg gP b;simp at this;omega
   apply Bn;intro i;by_cases hi:i<n
   ·have j:=mapM_some_get u i i (by simp [hi]);obtain ⟨y,d⟩:∃y,A[i]?=some y:=⟨A[i]'zo,k4 zo⟩;rw [d,o,AO] at j;have B:(cs.drop i).take 1=[cs[i]'zo]:=by
     rw [List.drop_eq_getElem_cons zo];rfl
    rw [B] at j;obtain ⟨z,F,rfl⟩:=eE C j;have c:=congrArg (fun q=>q[i]?) b;simp only [sr,d,Gc] at c;obtain ⟨z',f⟩:∃z',l[i]?=some z':=⟨l[i]'zo,k4 zo⟩;rw [f] at c;simp only [Gc,C6,DataW.lit.injEq,Lit.int.injEq,true_and] at c;rw [k4 zo,F,sr,f,c];rfl
   rw [Ad zo,Ad (by simp;omega)]
  cases h
theorem zc1 {P:Program}{W:World}{b:String}{g:Nat}{cs:Array Value}(c:P.globalNamed b=some g)(a:W.var? P b=some cs):∃e fz,W.heap[g]?=some (.cells cs e fz):=by
 unfold World.var? at a;rw [c] at a;simp only [Option.bind_some] at a;split at a
 ·rename_i cs' e fz h;injection a with a
  subst a;exact ⟨e,fz,h⟩
 cases a
theorem up_u (a:Nat→Nat)(k:IntKind)(l:List Int):(GK.u k l).map (up a)=GK.u k l:=by
 unfold GK.u;rw [DA];exact Ba fun z _=>rfl
def zby:List (String×DataW Unit):=Rows.sdpSlacksRow.laid
def js (i:Nat):String:=match zby[i]? with|some x=>x.1|none=> ""
theorem g32:Tryz.prog.globalNamed (js 0)=some 4:=by kernel_rfl
theorem g64:Tryz.prog.globalNamed (js 1)=some 1:=by kernel_rfl
theorem g10:Tryz.prog.globalNamed (js 2)=some 0:=by kernel_rfl
def zi5 (t:TypeId)(n:Nat)(k:IntKind):Prop:=∃e,Tryz.prog.underlying t=some (.array n e)∧Tryz.prog.underlying e=some (.int k)∧Tryz.prog.cellsOf e=1∧Tryz.prog.cellsOf t=n
theorem nD {W:World}{a:String}{g t b:Nat}{k:IntKind}{l:List Int}{cs:Array Value}{p:List MemPlace}(w:Tryz.prog.globalNamed a=some g)(c:W.var? Tryz.prog a=some cs)(m:zi5 t n k)
  (s:EN (fun _=>()) Tryz.prog W 0 (fun _=>true) false b t cs.toList=some (.agg (l.map fun z=>.lit (.int k z)),p)):hv (wH W) (nm g)=some (.ro (GK.u k l)):=by
 obtain ⟨e,d,f,i,j⟩:=m;have q:=jJ d f i j s;obtain ⟨y,A,o⟩:=zc1 w c;have:=dX o;rw [this,q];show some (BF.ro ((GK.u k l).map (up nm)))=_;rw [up_u]
theorem ty32:(Tryz.prog.globals[4]?).map (·.type)=some 297:=by kernel_rfl
theorem ty64:(Tryz.prog.globals[1]?).map (·.type)=some 288:=by kernel_rfl
theorem ty10:(Tryz.prog.globals[0]?).map (·.type)=some 269:=by kernel_rfl
theorem zrf:zi5 297 32 .u8:=⟨5,by kernel_rfl,by kernel_rfl,by kernel_rfl,by kernel_rfl⟩
theorem zre:zi5 288 64 .u8:=⟨5,by kernel_rfl,by kernel_rfl,by kernel_rfl,by kernel_rfl⟩
theorem zrg:zi5 269 20 .u64:=⟨164,by kernel_rfl,by kernel_rfl,by kernel_rfl,by kernel_rfl⟩
theorem zhk {W:World}(h:laidMet Tryz.prog zby W):GK.G (hv (wH W)):=by
 obtain ⟨L,a,_,_⟩:=h;obtain ⟨C,P,s,y,I,M,b,j,o,f,a,_⟩:=a;obtain ⟨D,R,u,A,J,N,c,l,p,g,a,_⟩:=a;obtain ⟨F,S,w,B,K,O,d,m,q,i,_,_⟩:=a;obtain rfl:=A0 (g32.symm.trans b);obtain rfl:=A0 (g64.symm.trans c);obtain rfl:=A0 (g10.symm.trans d);obtain rfl:=A0 (ty32.symm.trans j);obtain rfl:=A0 (ty64.symm.trans l);obtain rfl:=A0 (ty10.symm.trans m);exact ⟨nD c p zre g,nD d q zrg i,nD b o zrf f⟩
theorem zi7 {enc:TypeId×Value→H}{W:World}{d:DataW H}{p:List MemPlace}(q:Tryz.prog.underlying t=some (.slice e))(U:Tryz.prog.underlying e=some (.int .i64))(T:Tryz.prog.cellsOf e=1)
  (f:Fq Tryz.prog W .any base t v)(h:DataW.Trod enc Tryz.prog W 0 (fun _=>true) true t v d p)(hn:W.heap.size≤n):∃(a:Option Addr) (l c:Nat) (L:List Int),(∀w,a=some w→w.spot=none)∧v=jx a l c∧up nm v=jx (a.map fun x=>⟨nm x.block,x.off,x.spot⟩) l c∧Sl (hv (wH W)) n 1 (up nm v) (L.map (jy .i64)):=by
 obtain ⟨S,h⟩:=h;rcases open_ints q U T h with ⟨m,_⟩|⟨a,o,j,zs,m,_,K,_,M,_,B,_⟩
 ·have u:v=jx none 0 0:=by
   cases v<;>simp [BA] at m ⊢
   ·exact m
   rename_i cs;unfold Fq at f;rw [q] at f;simp [HH,Cell.ok,q] at f
  subst u;exact ⟨none,0,0,[],(fun w h=>by cases h),rfl,rfl,.nil (.inl rfl)⟩
 have u:v=jx (some a) o j:=by
  cases v<;>simp [BA] at m ⊢
  ·exact m
  rename_i cs;unfold Fq at f;rw [q] at f;simp [HH,Cell.ok,q] at f
 subst u;obtain ⟨b,g,I⟩:=a;have C:I=none∧∃c e J,W.heap[b]?=some (.cells c e J):=by
  unfold Fq at f;rw [q] at f;simp only [HH,Cell.ok,q,World.has] at f;obtain ⟨_,_,_,y,a0,N,F,_⟩:=f;refine ⟨y,?_⟩;unfold World.shape? at F;split at F
  ·exact ⟨_,_,_,by assumption⟩
  cases F
 obtain ⟨rfl,c,e',J,A⟩:=C;have Y:b<W.heap.size:=by
  rcases Ci b W.heap.size with s|s
  ·exact s
  rw [BH s] at A;cases A
 refine ⟨some ⟨b,g,none⟩,o,j,zs.take o,(fun w h=>by injection h with h;rw [←h]),rfl,rfl,?_⟩;by_cases h0:o=0
 ·subst h0;rw [Bj];exact .nil (.inr ⟨nm b,g,none,rfl,zmu zo⟩)
 have V:gP zs=j:=by simpa using M
 have D:∀i,i<j→c[g+i]?=some (jy .i64 (zs.getD i 0)):=fun i G=>by
  have:=B i zo;unfold World.cell? at this;have O:(CB ⟨b,g,none⟩ i).block=b:=by unfold CB;split<;>rfl
  have P:(CB ⟨b,g,none⟩ i).off=g+i:=by unfold CB;split<;>simp_all
  have R:(CB ⟨b,g,none⟩ i).spot=none:=by unfold CB;split<;>rfl
  rw [O,A] at this;simp only [P,R] at this;simpa using this
 have Z:g+j≤c.size:=by
  have y:=D (j-1) zo;rcases Ci (g+(j-1)) c.size with s|s
  ·omega
  rw [BH s] at y;cases y
 refine .at_ (zmu (show b<n by omega)) (dX A) rfl K (by simp;omega) ?_;rw [AO];apply Bn;intro i;by_cases G:i<o
 ·rw [Ce G,List.getElem?_drop,sr,Array.getElem?_toList,D i zo];rw [sr,Ce G];have:zs.getD i 0=zs[i]'zo:=by simp [show i<gP zs from zo]
  rw [this,k4 zo];rfl
 rw [Ad (by simp;omega),Ad (by simp;omega)]
end
section
set_option maxRecDepth 100000
mutual
theorem bulk_pos {H:Type}:∀d:DataW H,1≤Rows.uptoBulk d
 | .lit (.string b)=>by simp [Rows.uptoBulk]
 | .lit (.bool b)=>by simp [Rows.uptoBulk]
 | .lit (.int k b)=>by simp [Rows.uptoBulk]
 | .lit (.float k b)=>by simp [Rows.uptoBulk]
 | .lit .nil=>by simp [Rows.uptoBulk]
 | .nil=>by simp [Rows.uptoBulk]
 | .ptr d=>by simp [Rows.uptoBulk]
 | .slice _ _=>by simp [Rows.uptoBulk]
 | .agg _=>by simp [Rows.uptoBulk]
 | .iface _ d=>by simp [Rows.uptoBulk]
 | .map _=>by simp [Rows.uptoBulk]
 | .held _=>by simp [Rows.uptoBulk]
end
section
variable {enc:TypeId×Value→H}
end
end
end Go.Proofs.YtfajmfoofmienaaGreatDoor
namespace Go.Proofs.YtfajmfoofmienaaGreatDoor
open Go Go.GL
variable {h' h1 h:HF}{lo n' j n:Nat}{vE v:Value}{ce cs:List Value}{ty:TypeId}
structure KR (h:HF)(n:Nat)(v:Value)(K:List (List Int)):Prop where
 at_:∃cs:List Value,Sl h n 1 v cs∧gP cs=gP K∧∀(j:Nat) (L:List Int),K[j]?=some L→∃(a:Option Addr) (c:Nat),cs[j]?=some (jx a (gP L) c)∧Sl h n 1 (jx a (gP L) c) (i64s L)
inductive MatR (h:HF) (n:Nat):List Value→List (Int×Int×List (List UInt8))→Prop
 |nil:MatR h n [] []
 |cons {r c:Int} {v:Value} {E:List (List UInt8)} {cs:List Value} {ms:List (Int×Int×List (List UInt8))} (h1:Sl h n 1 v (strs E)) (h2:MatR h n cs ms):MatR h n (jy .i64 r:: jy .i64 c::v::cs) ((r,c,E)::ms)
structure MI (h:HF)(n lo bF:Nat)(ty:TypeId)(vM:Value)(ce:List Value)(ms:List (Int×Int×List (List UInt8))):Prop where
 gro:Gro h lo n ty 3 vM (gP ms) ce
 mat:MatR h n ce ms
 los:∀v∈ce,Pt (fun b=>3*lo≤b) v
 ne:∀v∈ce,∀b o l c,vM=jx (some ⟨b,o,none⟩) l c→Pt (fun b'=>b'≠b) v
 cell:∃e,h bF=some (.row [vM] e)
end Go.Proofs.YtfajmfoofmienaaGreatDoor
namespace Go.Proofs.YtfajmfoofmienaaGreatDoor
open Go Go.GL Go.ChangeShapes Go.WideShapes Go.RowKit
section
set_option maxRecDepth 100000
section
variable {H:Type}{enc:TypeId×Value→H}{W:World}{held:Bool}
end
end
section
set_option maxRecDepth 100000
theorem own:ownKnob Tryz.prog.godebug=none:=by kernel_rfl
theorem zm9:laidOutB Tryz.prog=true:=by kernel_rfl
def jq (c:Array Value):Obj→Obj
 | .cells _ t frozen=>.cells c t frozen
 |o=>o
noncomputable def gk (os:Os):World:=
 {World.holding Tryz.prog os ⟨#[],#[],[]⟩ with heap:=(((World.holding Tryz.prog os ⟨#[],#[],[]⟩).heap.modify 1 (jq GK.d64.toArray)).modify 0 (jq GK.p10.toArray)).modify 4 (jq GK.d32.toArray)}
theorem jr (os:Os)(a:Array Value):laidMet Tryz.prog zby ((gk os).forCall (fun _ _=>0) ⟨#[],a,[]⟩).memory:=
 laidMet_of_run' 8 (by kernel_rfl) (by kernel_rfl)
end
end Go.Proofs.YtfajmfoofmienaaGreatDoor
