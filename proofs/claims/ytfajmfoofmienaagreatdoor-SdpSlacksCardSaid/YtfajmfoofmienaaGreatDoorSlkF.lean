import Derived.Below
import Derived.Test.YtfajmfoofmienaaGreatDoorRows
import Derived.ChangeSame
import Derived.ChangeVars
import Derived.ChangeSlices
import Derived.JoinedOf
import Derived.RowKit
import Derived.RowKitTokens
import Derived.LaidLaws
import Derived.Carry
import Derived.Handed
import Derived.Deep.Slices
import Derived.Test.YtfajmfoofmienaaGreatDoorTie
import Derived.Test.YtfajmfoofmienaaGreatDoorCards
import Derived.Test.YtfajmfoofmienaaGreatDoorSlkE
open Array renaming getElem?_eq_none→FA,getElem?_toList→G6
open Go.Addr renaming add→FX
open Go.Cell renaming ok→al6,okWide→Kh
open Go.DataW renaming trod→Gz
open Go.GL.Ren renaming addr→ag7
open Go.Proofs.Tryz renaming prog→D6
open Go.Proofs.YtfajmfoofmienaaGreatDoor.GR renaming nil→al4
open Go.Proofs.YtfajmfoofmienaaGreatDoor.KN renaming refl→FU
open Go.Proofs.YtfajmfoofmienaaGreatDoor.Le renaming kp→ao4
open Go.Proofs.YtfajmfoofmienaaGreatDoor.OT renaming sl→ar8
open Go.Proofs.YtfajmfoofmienaaGreatDoor.Rec renaming ofStrs→aq6
open Go.Proofs.YtfajmfoofmienaaGreatDoor.Tr renaming refl→FS,s→Il,trans→JO
open Go.Proofs.YtfajmfoofmienaaGreatDoor.UI renaming zero→ab9
open Go.Proofs.YtfajmfoofmienaaGreatDoor.numP renaming kp→Fi
open Go.Proofs.YtfajmfoofmienaaGreatDoor.strP renaming kp→Ib
open Go.Value renaming bool→Dk,cells→FH,int→U,okWide→H0,pointer→Dn,slice→Y,string→Dl
open Go.World renaming cell?→I0,holding→ai7
open Int renaming toNat_natCast→Ez
open List renaming drop_drop→ES,drop_eq_getElem_cons→Fs,ext_getElem?→Fh,flatMap_cons→JD,getElem?_append_left→En,getElem?_append_right→DL,getElem?_cons_succ→Gq,getElem?_drop→Em,getElem?_eq_getElem→Dm,getElem?_eq_none→DS,getElem?_eq_some_iff→Du,getElem?_map→DB,getElem?_range→Et,getElem?_set→Gd,getElem?_take_of_lt→Eu,length→O,length_append→Do,length_cons→D3,length_drop→Ea,length_map→DC,length_range→Fg,length_replicate→DV,length_set→EU,length_take→DW,length_zipWith→Jb,map_append→EN,map_congr_left→EQ,map_id→HS,map_map→H2,mem_append→Ec,mem_cons→DR,mem_cons_of_mem→Fm,mem_cons_self→Fj,mem_iff_getElem→Gs,mem_map→EX,mem_map_of_mem→Ko,mem_of_getElem?→Dq,mem_of_mem_drop→FB,mem_of_mem_take→EB,mem_range→Gy,mem_singleton→Dx,not_mem_nil→Ds,range→D9,replicate→Dp,take_append_drop→Ep,take_length→DO,take_of_length_le→DK,take_zero→Fe,zipWith→Hq
open Nat renaming le_of_eq→IH,le_refl→Fu,le_succ→DM,lt_irrefl→GM,lt_of_lt_of_le→DY,lt_or_ge→EG,lt_succ_self→G1,mul_le_mul_right→Dw,mul_one→Ek,mul_pos→Fw,not_lt_zero→Fr,one_mul→EM,sub_self→Ee,succ_mul→Fb,zero_mul→EI
open Nat.succ renaming inj→al5
open Option renaming isSome_iff_exists→Eg,map_some→JX
open Option.some renaming inj→ET,injEq→HR
open Rat renaming add_assoc→Hv,add_comm→aa9,add_zero→Gh,den_intCast→Hc,divInt→Ef,mul_assoc→EJ,mul_zero→Gg,num_eq_zero→FM,num_intCast→GU,sub_eq_add_neg→Gk,zero_add→Jj
set_option maxHeartbeats 8000000
set_option linter.unusedVariables false
set_option linter.unusedSimpArgs false
namespace Go.Proofs.YtfajmfoofmienaaGreatDoor
open Go Go.GL
variable {n least n' cE lY cY cap cB lE m c j N F sz l B D P K lo lB lO cO lF cF bS m1 m2 c1 c2 l1 l2:Nat}{h h' h1:HF}{aE aY aB ar a aO aF a1 a2:Option Addr}{ce cs:List Value}{ops r:List Oper}{vE vB vF vO:Value}{ys:List Rat}{e e' ty:TypeId}{X:CtxF}{t:TF}{w tbs Ns ms:List Nat}{Q:SV→Prop}{o o2:Oper}{d:Tmp}{ρ' ρ:Ren}{rbs:List (List Nat)}{bf z:Int}{Z3:List (List UInt8)}{α β:Type}{M':Nat→Nat→Nat→Rat}{ld:List (Nat×Nat)}{qs:List Eqn}{p:Sdp}{T:TapeI}{q:Rat}
variable {v:Value}
def schV(a:Nat→Nat→Rat)(k i j:Nat):Nat→Nat→Rat:=fun x y=>if k<x∧k<y∧(x<i∨x=i∧y<j)then a x y-a x k/a k k*a k y else a x y
section
variable {a:Nat→Nat→Rat}{k i:Nat}
theorem ZU:schV a k (k+1) 0=a:=by
 funext x y;unfold schV;rw[CT Z]
theorem ZV:schV a k i (k+1)=schV a k i 0:=by
 funext x y;unfold schV;by_cases h:k<x∧k<y∧(x<i∨x=i∧y<k+1)
 .rw[De h,De Z]
 rw[CT h,CT Z]
theorem nl{x y:Nat}(h:x=k∨y=k∨(x=i∧j≤y)):schV a k i j x y=a x y:=by
 unfold schV;rw[CT Z]
theorem ZW(b:k<i)(c:k<j):updT (schV a k i j) i j (a i j-a i k/a k k*a k j)=schV a k i (j+1):=by
 funext x y;unfold updT schV;by_cases h:x=i∧y=j
 .obtain⟨rfl,rfl⟩:=h;rw[De ⟨rfl,rfl⟩,De Z]
 rw[CT h];by_cases h2:k<x∧k<y∧(x<i∨x=i∧y<j)
 .rw[De h2,De Z]
 rw[CT h2,CT Z]
theorem ZX{x y:Nat}(b:y<N):schV a k i N x y=schV a k (i+1) 0 x y:=by
 unfold schV;by_cases h:k<x∧k<y∧(x<i∨x=i∧y<N)
 .rw[De h,De Z]
 rw[CT h,CT Z]
theorem ZY{x y:Nat}(b:x<N):schV a k N 0 x y=qn a k x y:=by
 unfold schV qn;by_cases h:k<x∧k<y
 .rw[De h,De Z]
 rw[CT h,CT Z]
theorem gj(h:a k k=0):schV a k i j=a:=by
 funext x y;unfold schV;split
 .rw[h,Rat.div_def,Rat.inv_zero,Gg,Rat.zero_mul,Gk,Rat.neg_zero,Gh]
 rfl
end
theorem LdP.skipA{k:Nat}{b a:Nat→Nat→Rat}{T:Nat→Nat→Int}(f:0<D)(h:LdP n P D b k T bf a)(d:k<n)(l:a k k=0)(g:∀i,k<i→i<n→a i k=0):LdP n P D b (k+1) T bf a:=
 h.skip f d l fun i e c=>(ry h.i.tab h.i.pos (fun _=>kv) Z c Dh d).2 (g i e c)
theorem ZZ(k0:Nat){N:Nat}{a0:Nat→Nat→Rat}(r:RD h n (Y ar N cap) N a0)(V:1≤N∧N≤3)(a5:1≤P)(df:P≤600)(hD:0<D)(a4:D<2^P)(hB:∀i j,i<N→j<N→FN D B (a0 i j))(ci:B<2^P):
  CX (KO (k0+8)) 141 [Y ar N cap] h n fun v _ _=>∃x1 x2 x3 x4 x5 x6 ok,v=.tuple #[Y x1 x2 x3,Y x4 x5 x6,Dk ok]∧(ok=true↔psdA N N 0 a0):=by
 have h9:=LH V.2;refine zl (fn:=Tryz.f141) R4<|zG ?_;refine sC (ZT _ r V) ?_;rintro _ h1 n1⟨o,H,rfl,m1,f1⟩ y1 x1;refine zG ?_;refine sC (ZS _ _ _ V.2) ?_;rintro _ h2 J⟨K,rl,u2,rfl,l2,f2⟩ y2 x2;have m2:RM h2 J o N H a0:=m1.ext x2 y2;have E2:Ex0 n h h2:=⟨fun c hc=>(x2 c Z).trans (x1 c hc)⟩;have dh:o<3*n1:=m1.t.1;have di:K<3*J:=l2.t.1;have aw:∀b∈H,3*n≤b∧b<3*n1:=fun b l=>⟨f1 b (.inr l),m1.blt l⟩;have a7:∀b∈rl,3*n1≤b∧b<3*J:=fun b l=>⟨f2 b (.inr l),l2.blt l⟩;have d2:3*n≤o:=f1 _ (.inl rfl);have d4:3*n1≤K:=f2 _ (.inl rfl);refine zG ?_;refine sF (α:=Nat×(Nat→Nat→Int)×Int×(Nat→Nat→Rat)×(Nat→Nat→Rat)×Value×List Rat) (fun z=>[(5,U .i64 (N:Int)),(6,K4 N o),(7,K4 N K),(8,z.2.2.2.2.2.1),(9,U .i64 (z.1:Int))])
  (fun z A G w'=>w'=[]∧J≤G∧Ex0 n h A∧RM A G o N H z.2.2.2.1∧RM A G K N rl z.2.2.2.2.1∧GR 4 numP J A G 51 z.2.2.2.2.2.1 z.2.2.2.2.2.2∧O z.2.2.2.2.2.2=z.1∧LdP N P D a0 z.1 z.2.1 z.2.2.1 z.2.2.2.1∧z.1≤N)
  (fun z=>N-z.1) (0,tT N a0,1,a0,u2,Y none 0 0,[]) ⟨rfl,Dh,E2,m2,l2,al4,rfl,LdP.start hD ci hB,Di⟩ ?_
 rintro⟨k,T,bf,a,u,vd,ds⟩ t h3 n3 _ ⟨rfl,y3,E3,Z1,l3,g3,d3,I,hk⟩;have y3:J≤n3:=y3;have E3:Ex0 n h h3:=E3;have Z1:RM h3 n3 o N H a:=Z1;have l3:RM h3 n3 K N rl u:=l3;have g3:GR 4 numP J h3 n3 51 vd ds:=g3;have d3:O ds=k:=d3;have I:LdP N P D a0 k T bf a:=I;have hk:k≤N:=hk;obtain⟨ad,rfl⟩:=g3.shape d3;refine zG ?_;by_cases qk:(k:Int)<(N:Int)
 .have d:k<N:=Z;obtain⟨bk,w,aq,av⟩:=Z1.get d;obtain⟨s1,c1,p1,q1,s2,c2,p2,q2,tk,ik,jk⟩:=Z1.el w d;refine zG ?_;refine sI (j:=k) (len:=N) rfl d ?_;refine sL (Z1.row w) Z1.t.1 0 ?_;refine zG ?_;refine sI (j:=k) (len:=N) rfl d ?_;refine sL tk aq 0 ?_;refine sC (mA _ ik jk) ?_;rintro _ h4 n4⟨s4,rfl,q4⟩ y4 x4;have q4:s4= -1∧(a k k).num<0∨s4=0∧(a k k).num=0∨s4=1∧0<(a k k).num:=q4;by_cases hneg:s4<0
  .have cj:a k k<0:=dn Z;have X4:KN n h h4:=fun c hc=>(x4 c Z).trans (E3.e c hc);have dp:n≤n4:=Z;refine ZB ?_;exact⟨_,_,_,_,_,_,_,rfl,fun hq=>(by cases hq),fun hq=>oU hq (I.i.neg d cj)⟩
  have dg:0≤(a k k).num:=Z;refine zG ?_;refine sI (j:=k) (len:=N) rfl d ?_;refine sL (Z1.row w) Z1.t.1 0 ?_;refine zG ?_;refine sI (j:=k) (len:=N) rfl d ?_;refine sL tk aq 0 ?_;refine Mn [Dk s1,Y c1 p1 q1,Dk s2,Y c2 p2 q2] ?_;intro h5 p5 x5;have X5:KN n3 h3 h5:=fun c hc=>(x5 c Z).trans (x4 c hc);have T5:Tr n3 h3 (n4+1) h5:=⟨Z,fun c hc=>.inl (X5 c hc)⟩;refine M0 (n0:=n) [Dk s1,Y c1 p1 q1,Dk s2,Y c2 p2 q2] [a k k] (g3.go Fi T5 (fun b l=>X5 b (g3.bk b l).2.1)) Fi (.cons (c:=[Dk s1,Y c1 p1 q1,Dk s2,Y c2 p2 q2]) rfl ⟨_,_,_,_,_,_,_,_,rfl,ik.t T5,jk.t T5⟩ .nil) ⟨rfl,rfl⟩ (yG p5 R2) Dh (by rw[d3];show k+1<_;omega) Z ?_;intro v6 h6 g6 T6 X6 K6 F6;obtain⟨a6,rfl⟩:=g6.shape (L:=k+1) (by rw[Do,d3];rfl);have am:Tr n3 h3 (n4+1+1) h6:=T5.trans T6;have ac:∀c,c<3*J→h6 c=h3 c:=fun c hc=>(X6 c Z).trans (X5 c Z);have E6:Ex0 n h h6:=⟨fun c hc=>(ac c Z).trans (E3.e c hc)⟩;have m6:RM h6 (n4+1+1) o N H a:=Z1.go2 (fun c _ hc=>ac c (by rcases hc with rfl|hc;omega;have:=aw c hc;omega)) am;have l6:RM h6 (n4+1+1) K N rl u:=l3.go2 (fun c _ hc=>ac c (by rcases hc with rfl|hc;omega;have:=a7 c hc;omega)) am;have d6:O (ds++[a k k])=k+1:=by rw[Do,d3];rfl
  obtain⟨n6,b8⟩:∃n6,n6=n4+1+1:=⟨_,rfl⟩;have y6:J≤n6:=Z;rw[←b8]at m6 l6 g6⊢;refine zG ?_;refine sF (α:=Nat×(Nat→Nat→Rat)) (fun z=>[(5,U .i64 (N:Int)),(6,K4 N o),(7,K4 N K),(8,Y a6 (k+1) (k+1)),(9,U .i64 (k:Int)),(10,U .i64 (z.1:Int))])
   (fun z A G w'=>w'=[]∧n6≤G∧Ex0 n h A∧RM A G o N H (schV a k z.1 0)∧RM A G K N rl z.2∧GR 4 numP J A G 51 (Y a6 (k+1) (k+1)) (ds++[a k k])∧(a k k=0→∀i,k<i→i<z.1→a i k=0)∧k+1≤z.1∧z.1≤N)
   (fun z=>N-z.1) (k+1,u) ⟨rfl,Dh,E6,by rw[ZU];exact m6,l6,g6,fun _ i h1 h2=>(by have h2:i<k+1:=h2;omega),Dh,d⟩ ?_
  rintro⟨i,u⟩ t h7 R _ ⟨rfl,y7,E7,F,l7,Z4,z7,b4,b5⟩;have y7:n6≤R:=y7;have E7:Ex0 n h h7:=E7;have F:RM h7 R o N H (schV a k i 0):=F;have l7:RM h7 R K N rl u:=l7;have Z4:GR 4 numP J h7 R 51 (Y a6 (k+1) (k+1)) (ds++[a k k]):=Z4;have z7:a k k=0→∀i',k<i'→i'<i→a i' k=0:=z7;have b4:k+1≤i:=b4;have b5:i≤N:=b5;refine zG ?_;by_cases qi:(i:Int)<(N:Int)
  .have f:i<N:=Z;have ak:k≤1:=Z;obtain⟨bk,w,au,av⟩:=F.get d;obtain⟨bi,C,ao,ap⟩:=F.get f;obtain⟨s1,c1,p1,q1,s2,c2,p2,q2,tk,ik,jk⟩:=F.el w d;obtain⟨s3,c3,p3,q3,s5,c5,p5,q5,ti,ii,ji⟩:=F.el C d;rw[nl (.inl rfl)]at ik jk;rw[nl (.inr (.inl rfl))]at ii ji;refine zG ?_;refine sI (j:=k) (len:=N) rfl d ?_;refine sL (F.row w) F.t.1 0 ?_;refine zG ?_;refine sI (j:=k) (len:=N) rfl d ?_;refine sL tk au 0 ?_;refine sC (mA _ ik jk) ?_;rintro _ h8 n8⟨s8,rfl,r8⟩ Z0 p;by_cases hs8:s8=0
   .have an:a k k=0:=FM.1 Z;refine zG ?_;refine sI (j:=i) (len:=N) rfl f ?_;refine sL (F.row C) F.t.1 0 ?_;refine zG ?_;refine sI (j:=k) (len:=N) rfl d ?_;refine sL ti ao 0 ?_;refine sC (mA _ (ii.x ⟨Z0,p⟩) (ji.x ⟨Z0,p⟩)) ?_;rintro _ h9 M⟨s9,rfl,r9⟩ y9 x9;have X9:KN R h7 h9:=fun c hc=>(x9 c Z).trans (p c hc);by_cases hs9:s9=0
    .have bx:a i k=0:=FM.1 Z;have T9:Tr R h7 M h9:=⟨Z,fun c hc=>.inl (X9 c hc)⟩;have E9:Ex0 n h h9:=⟨fun c hc=>(X9 c Z).trans (E7.e c hc)⟩;have m9:RM h9 M o N H (schV a k (i+1) 0):=by
      have:=F.ext X9 (show R≤M by omega);rw[gj an]at this;rw[gj an];exact this
     have l9:=l7.ext X9 (show R≤M by omega);have g9:=Z4.go Fi T9 (fun b l=>X9 b (Z4.bk b l).2.1);refine zG ?_;exact sK (i+1,u) ⟨rfl,Z,E9,m9,l9,g9,fun h0 i' h1 h2=>(by
      have h2:i'<i+1:=h2;by_cases he:i'=i
      .rw[he];exact bx
      .exact z7 h0 i' h1 Z),by show k+1≤i+1;omega,xl⟩
    have ck:a i k≠0:=fun e=>by rw[e]at r9;simp at r9;omega
    have XX:KN n h h9:=fun c hc=>(X9 c Z).trans (E7.e c hc);have dq:n≤M:=Z;refine ZB ?_;exact⟨_,_,_,_,_,_,_,rfl,fun hq=>(by cases hq),fun hq=>oU (((I.i.unf d).1 hq).2.1 an i Z f) ck⟩
   have aa:(a k k).num≠0:=Z;have ab:0<a k k:=jT Z;have cv:=(I.sz V.2 a5 hD a4 d (i:=i) (j:=k) Z f Dh d).2 ak;have cw:=(I.sz V.2 a5 hD a4 d (i:=k) (j:=k) Dh d Dh d).2 ak;have br:=I.quo V.2 a5 hD a4 d ab (i:=i) Z f;obtain⟨li,S,d1,W⟩:=l7.get f;have X8:Ex0 R h7 h8:=⟨p⟩;have Z3:=F.ext p Z0;have l8:=l7.ext p Z0;have g8:=Z4.go Fi ⟨Z0,fun c hc=>.inl (p c hc)⟩ (fun b l=>p b (Z4.bk b l).2.1);have bc:=ik.x ⟨Z0,p⟩;have bj:=jk.x ⟨Z0,p⟩;have ba:=ii.x ⟨Z0,p⟩;have bg:=ji.x ⟨Z0,p⟩;have bt:At h8 bk (0+k*4) _:=tk.keep (p bk au);have bs:At h8 bi (0+k*4) _:=ti.keep (p bi ao);refine zG ?_;refine zn [0,0,3,7,0,0,0,96,224,0,992,2016,0,0,12288,28672,0,126976,258048,524256,1048575,2097151] rfl<|zH ?_;refine dI (j:=i) (len:=N) rfl f ?_;refine dL (l8.row S) l8.t.1 0 ?_;refine zH ?_;refine dI (j:=i) (len:=N) rfl f ?_;refine dL (Z3.row C) Z3.t.1 0 ?_;refine zH ?_;refine dI (j:=k) (len:=N) rfl d ?_;refine dL bs (show bi<3*n8 by omega) 0 ?_;refine zH ?_;refine dI (j:=k) (len:=N) rfl d ?_;refine dL (Z3.row w) Z3.t.1 0 ?_;refine zH ?_;refine dI (j:=k) (len:=N) rfl d ?_;refine dL bt (show bk<3*n8 by omega) 0 ?_;refine zH ?_;refine dC (ZQ _ ba bg bc bj cv cw Z aa) ?_;rintro _ h9 M⟨b9,a9,l9,c9,d9,e9,f9,g9,rfl,i9,j9⟩ y9 x9;refine dI (j:=k) (len:=N) rfl d ?_;refine LI (n0:=n) (j:=k) (q:=a i k/a k k) [Dk b9,Y a9 l9 c9,Dk d9,Y e9 f9 g9] ((l8.r i li S).ext Fi x9 y9) Fi (by rw[ue];exact d) (show(0:Nat)+k*4=k*4 by omega) ⟨_,_,_,_,_,_,_,_,rfl,i9,j9⟩ (by have:=(a7 li W).1;omega) ?_;intro a3 ct bp;have a1:∀c,c<3*n8→c≠li→a3 c=h8 c:=fun c hc hn=>(bp.1 c hn).trans (x9 c hc);have ae:Tr n8 h8 M a3:=Il bp ⟨y9,fun c hc=>.inl (x9 c hc)⟩;have d0:=(a7 li W).1;have bn:RM a3 M o N H (schV a k i (k+1)):=by
    rw[ZV];exact Z3.go2 (fun c hc hm=>a1 c hc (by rcases hm with rfl|hm;omega;have:=aw c hm;omega)) ae
   have l10:RM a3 M K N rl (updT u i k (a i k/a k k)):=l8.put S d ae (fun c hc hm=>a1 c (by rcases hm with rfl|hm;exact l8.t.1;exact l8.blt hm) hc) ct;have b3:=g8.go Fi ae (fun b l=>a1 b (g8.bk b l).2.1 (by have:=(g8.bk b l).1;have:=(a7 li W).2;omega));have b1:Ex0 n h a3:=⟨fun c hc=>(a1 c Z Z).trans ((X8.e c Z).trans (E7.e c hc))⟩;refine zG ?_;refine sF (α:=Nat) (fun z=>[(5,U .i64 (N:Int)),(6,K4 N o),(7,K4 N K),(8,Y a6 (k+1) (k+1)),(9,U .i64 (k:Int)),(10,U .i64 (i:Int)),(11,U .i64 (z:Int))])
    (fun z A G w'=>w'=[]∧M≤G∧Ex0 n h A∧RM A G o N H (schV a k i z)∧RM A G K N rl (updT u i k (a i k/a k k))∧GR 4 numP J A G 51 (Y a6 (k+1) (k+1)) (ds++[a k k])∧k+1≤z∧z≤N)
    (fun z=>N-z) (k+1) ⟨rfl,Dh,b1,bn,l10,b3,Dh,d⟩ ?_
   rintro j t ai a8 _⟨rfl,bv,b2,g,l11,ah,b6,b7⟩;have bv:M≤a8:=bv;have b6:k+1≤j:=b6;have b7:j≤N:=b7;refine zG ?_;by_cases qj:(j:Int)<(N:Int)
   .have m:j<N:=Z;obtain⟨bk,w,az,av⟩:=g.get d;obtain⟨bi,C,ay,ap⟩:=g.get f;obtain⟨li,S,b0,W⟩:=l11.get f;obtain⟨s1,c1,p1,q1,s2,c2,p2,q2,cx,bb,bh⟩:=g.el C m;obtain⟨s3,c3,p3,q3,s5,c5,p5,q5,cy,bd,bl⟩:=g.el w m;obtain⟨s6,c6,p6,q6,s7,c7,p7,q7,cz,be,bm⟩:=l11.el S d;rw[nl (.inr (.inr ⟨rfl,Dh⟩))]at bb bh;rw[nl (.inl rfl)]at bd bl;rw[show updT u i k (a i k/a k k) i k=a i k/a k k from De ⟨rfl,rfl⟩]at be bm;have c0:=(I.sz V.2 a5 hD a4 d (i:=i) (j:=j) Z f Z m).2 ak;have ax:=(I.sz V.2 a5 hD a4 d (i:=k) (j:=j) Dh d Z m).2 ak;refine zG ?_;refine zn [0,0,3,7,0,0,0,96,224,0,992,2016,0,0,12288,28672,0,126976,258048,0,0,1572864,3670016,0,16252928,33030144,67104768,134217696,268435455,536870911] rfl<|zH ?_;refine dI (j:=i) (len:=N) rfl f ?_;refine dL (g.row C) g.t.1 0 ?_;refine zH ?_;refine dI (j:=i) (len:=N) rfl f ?_;refine dL (g.row C) g.t.1 0 ?_;refine zH ?_;refine dI (j:=j) (len:=N) rfl m ?_;refine dL cx ay 0 ?_;refine zH ?_;refine dI (j:=i) (len:=N) rfl f ?_;refine dL (l11.row S) l11.t.1 0 ?_;refine zH ?_;refine dI (j:=k) (len:=N) rfl d ?_;refine dL cz b0 0 ?_;refine zH ?_;refine dI (j:=k) (len:=N) rfl d ?_;refine dL (g.row w) g.t.1 0 ?_;refine zH ?_;refine dI (j:=j) (len:=N) rfl m ?_;refine dL cy az 0 ?_;refine zH ?_;refine dC (MV _ be bm bd bl br ax Z) ?_;rintro _ de dk⟨d7,d5,dj,d8,da,db,dc,dd,rfl,cl,cn⟩ bw al;refine dC (Qs _ (bb.x ⟨bw,al⟩) (bh.x ⟨bw,al⟩) cl cn c0 (br.mul ax) Z) ?_;rintro _ ch bo⟨ca,c8,cp,cb,cc,cd,ce,cf,rfl,cm,co⟩ dl bu;refine dI (j:=j) (len:=N) rfl m ?_;have ag:KN a8 ai ch:=fun c hc=>(bu c Z).trans (al c hc);have bz:=aw bi ap;refine LI (n0:=n) (j:=j) (q:=a i j-a i k/a k k*a k j) [Dk ca,Y c8 cp cb,Dk cc,Y cd ce cf] ((g.r i bi C).ext Fi ag Z) Fi (by rw[ue];exact m) (show(0:Nat)+j*4=j*4 by omega) ⟨_,_,_,_,_,_,_,_,rfl,cm,co⟩ bz.1 ?_;intro aj cu bq;have a2:∀c,c<3*a8→c≠bi→aj c=ai c:=fun c hc hn=>(bq.1 c hn).trans (ag c hc);have af:Tr a8 ai bo aj:=Il bq ⟨Z,fun c hc=>.inl (ag c hc)⟩;have cr:RM aj bo o N H (schV a k i (j+1)):=by
     rw[←ZW Z Z];exact g.put C m af (fun c hc hm=>a2 c (by rcases hm with rfl|hm;exact g.t.1;exact g.blt hm) hc) cu
    have cq:=l11.go2 (fun c hc hm=>a2 c hc (by rcases hm with rfl|hm;omega;have:=a7 c hm;omega)) af;have cg:=ah.go Fi af (fun b l=>a2 b (ah.bk b l).2.1 (by have:=(ah.bk b l).1;omega));have c4:Ex0 n h aj:=⟨fun c hc=>(a2 c Z Z).trans (b2.e c hc)⟩;refine zG ?_;exact sK (j+1) ⟨rfl,Z,c4,cr,cq,cg,Z,vT⟩
   have m:j=N:=Z;have cs:RM ai a8 o N H (schV a k (i+1) 0):=g.as (fun x y _ hy=>by rw[m];exact ZX hy);refine zG ?_;exact sK (i+1,updT u i k (a i k/a k k)) ⟨rfl,Z,b2,cs,l11,ah,fun h0=>(by rw[h0]at aa;exact oU rfl aa),by show k+1≤i+1;omega,xl⟩
  have f:i=N:=Z;subst f;have Z3:RM h7 R o i H (qn a k):=F.as (fun x y hx _=>ZY hx);refine zG ?_;by_cases hz:a k k=0
  .exact sK (k+1,T,bf,qn a k,u,Y a6 (k+1) (k+1),ds++[a k k]) ⟨rfl,Z,E7,Z3,l7,Z4,d6,by rw[kJ hz];exact I.skipA hD d hz (fun x h1 h2=>z7 hz x h1 h2),by show k+1≤i;omega⟩
  have ab:0<a k k:=jT (by have:(a k k).num≠0:=fun e=>hz (FM.1 e);omega);exact sK (k+1,yR T k bf,T k k,qn a k,u,Y a6 (k+1) (k+1),ds++[a k k]) ⟨rfl,Z,E7,Z3,l7,Z4,d6,I.step V.2 hD d ab,by show k+1≤i;omega⟩
 have d:k=N:=Z;refine zG ?_;have X3:=E3.e;have dm:n≤n3:=Z;refine zq ?_;exact⟨_,_,_,_,_,_,_,rfl,⟨fun _=>I.i.done d,fun _=>rfl⟩⟩
theorem Z6(q:Nat){N:Nat}{c:Nat→Nat→Rat}(r:RD h n (Y ar N cap) N c)(p:1≤N∧N≤3)(f:1≤P)(g:P≤600)(o:0<D)(e:D<2^P)(m:∀i j,i<N→j<N→FN D B (c i j))(d:B<2^P):
  VF (KO (q+9)) 98 [Y ar N cap] h n fun v=>∃b:Bool,v=Dk b∧(b=true↔psdA N N 0 c):=by
 refine zB (fn:=Tryz.f98) R4<|zG ?_;refine sC (ZZ _ r p f g o e m d) ?_;rintro _ s u⟨w,y,A,C,F,G,b,rfl,l⟩ H z1;refine Zt ?_;exact⟨b,rfl,l⟩
def Rc(p:Sdp)(ys:List Rat):Prop:=(∀t,t<p.free→KZ p ys (O p.eqs) t=0)∧∀k N,(dimN p)[k]?=some N→psdA N N 0 (Lh p ys (O p.eqs) k)
theorem SlB.mok{p:Sdp}{ys:List Rat}{K:Nat}(b:SlB p ys K)(hK:K≤2^532){F least:Nat}(hok:SdpOk F least p){bs:List Nat}:MOk 560 (wU ys*2) (K*1024*(O p.eqs+1)) (Lk (dimN p) bs) (Lh p ys (O p.eqs)) where
 hn:=fun k d hd=>by
  obtain⟨N,b,h1,h2,rfl⟩:=pE hd;obtain⟨x,hx,rfl⟩:=EX.1 (Dq h1);have:=hok.b3 x hx;show 1≤x.toNat∧x.toNat≤3;omega
 hs:=fun k d _ i j _ _=>bX p ys _ k i j
 P1:=by decide
 P2:=by decide
 D0:=lh _
 D2:=b.D2 hK
 hB:=fun k d _ i j _ _=>b.mf _ k i j
 B1:=by
  have h1:1≤K:=Nat.le_trans (Nat.pow_pos (Nat.two_pow_pos _)) b.yl;exact Fw (Fw h1 zd) Z
 B2:=Ma hK (m:=O p.eqs+1) (by have:=hok.eql;omega)
theorem Rd(k:Nat)(g:GG h n)(hF:F≤100)(hp:SdpR h n (Y aB lB cB) (Y aO lO cO) (Y aF lF cF) (Y aE lE cE) p)(hok:SdpOk F least p)(I:Sl h n 1 (Y aY lY cY) (strs Z3))(o:∀s∈Z3,O s≤40)(ab:O Z3≤6):
  VF (KO (k+12)) 14 [.agg #[Y aB lB cB,U .i64 (p.free:Int),Y aO lO cO,Y aF lF cF,Y aE lE cE],Y aY lY cY] h n fun v=>((∀s∈Z3,xC s)∧O Z3=O p.eqs∧v=.tuple #[Dl ⟨⟨ratT (Lg p (Z3.map numOf) (O p.eqs))⟩⟩,U .i64 0])∨∃e,v=.tuple #[Dl ⟨⟨[]⟩⟩,U .i64 e]∧ErrD p Z3 e:=by
 have ag:=wo I;have ac:=hok.eql;have Z0:lE=O p.eqs:=by
  obtain⟨ce,H,l⟩:=hp.eqs;exact H.lenEq Z l.len
 subst Z0;refine zB (fn:=Tryz.f14) R4<|zG ?_;refine sB [Y aB lB cB,U .i64 (p.free:Int),Y aO lO cO,Y aF lF cF,Y aE (O p.eqs) cE] ?_;intro h1 p1 x1;refine zG ?_;refine sC (jl _ (g.x (zx:Tx n h (n+1) h1)) hF (hp.ext0 x1 Z) hok (I.ext x1 Z) o Z).cx ?_;rintro _ h2 n2⟨e,rfl,he⟩ y2 x2;have he:(∀s∈Z3,xC s)∧O Z3=O p.eqs∧e=0∨ErrD p Z3 e:=he;rcases he with⟨u,J,rfl⟩|he
 rotate_left
 .have ad:=he.ne;refine Zt ?_;exact .inr ⟨e,rfl,he⟩
 obtain⟨K,S,R⟩:∃K,(2^133)^O Z3≤K∧K≤2^532:=⟨_,jP (m:=532) Z,Dh⟩;have b:=hok.slb o S;obtain⟨a,w⟩:∃a,a=Z3.map numOf:=⟨_,rfl⟩;rw[←w]at b;have e0:Lg p a 0=0:=rfl;refine zG ?_;rw[show([48]:List UInt8)=ratT (Lg p a 0)from rfl];have E2:Ex0 n h h2:=⟨(zx:Tx n h n2 h2).2⟩;refine sF (α:=Nat) (fun z=>[(1,Y aY lY cY),(7,Dl ⟨⟨ratT (Lg p a z)⟩⟩),(17,Y aE (O p.eqs) cE),(18,U .i64 (O p.eqs:Int)),(19,U .i64 (z:Int))])
  (fun z h' n' w'=>w'=[]∧n+1≤n'∧Ex0 n h h'∧z≤O p.eqs) (fun z=>O p.eqs-z) 0 ⟨rfl,y2,E2,Di⟩ ?_
 rintro i t G A _⟨rfl,y8,N,hi⟩;have hi:i≤O p.eqs:=hi;have y8:n+1≤A:=y8;refine zG ?_;by_cases qi:(i:Int)<(O p.eqs:Int)
 .obtain⟨q,L⟩:∃q,p.eqs[i]?=some q:=⟨_,Dm Z⟩;have Z4:=Dq L;obtain⟨s,hs⟩:∃s,Z3[i]?=some s:=⟨_,Dm Z⟩;have W:ratT (yq a i)=s:=by rw[w,Q8 hs];exact rK (u s (Dq hs))
  subst W;have D:=b.yz i;obtain⟨x,ae,af,C⟩:=(hok.eqo q Z4).2.2.2.2;have V:numOf (eqRh p i)=(x:Rat):=by
   unfold eqRh;rw[L];show numOf q.rhs=_;rw[C];exact zT _
  have y:Lg p a i+yq a i*(x:Rat)=Lg p a (i+1):=by
   show _=Lg p a i+yq a i*numOf (eqRh p i);rw[V]
  have sx:Sz 3 (x:Rat):=by
   refine⟨?_,?_⟩
   .rw[GU];show x.natAbs<8;omega
   rw[Hc];decide
  obtain⟨ce,H,l⟩:=hp.eqs;obtain⟨ve,vf,P,s1,s2⟩:=l.get L;obtain⟨a1,l1,c1,rfl,ah⟩:=s1.len;obtain⟨a2,l2,c2,rfl,ai⟩:=s2.len;rw[C]at P;refine zG ?_;obtain⟨b9,o9,e9,a0,r9,t9⟩:=nk (H.ext N.e (show n≤A by omega)) P rfl zd;refine sI e9 r9 ?_;refine sL t9 a0 0 ?_;refine sA ?_;intro a8 an ap;refine zG ?_;refine sS [Y a1 l1 c1,Y a2 l2 c2,Dl ⟨⟨ratT (x:Rat)⟩⟩] ?_;intro f ao al;have d:Ex0 n h f:=⟨fun c hc=>(show f c=G c by
   have e0:G c=G c:=rfl;exact zp).trans (N.e c hc)⟩
  obtain⟨a7,am,Z1,M,a3,a4⟩:=xN (I.ext d.e (show n≤A+1 by omega)) hs;have B:GG f (A+1):=g.ext d.e Z;refine zG ?_;refine zn [0,0,0,6,14,0,32,126,255,511] rfl<|zH ?_;refine dI (j:=i) Z1 a3 ?_;refine dL a4 M 0 ?_;refine zH ?_;refine dC (mulR _ (B.x zx) D sx Z Z Z).cx ?_;rintro _ a9 aj rfl aq a5;refine dC (addR _ (B.x zx) (b.vz R (m:=i) Z) (D.mul sx) Z Z Z (z:=Lg p a (i+1)) y (b.vz R (m:=i+1) Z) Z).cx ?_;rintro _ aa ak rfl ar a6;refine zH ?_;refine zG ?_;exact sK (i+1) ⟨rfl,Z,⟨fun c hc=>(a6 c Z).trans ((a5 c Z).trans (d.e c hc))⟩,AG⟩
 have T:i=O p.eqs:=Z;refine Zt ?_;rw[←w];exact .inl ⟨u,J,T▸rfl⟩
theorem ft(k:Nat)(g:GG h n)(hF:F≤100)(hp:SdpR h n (Y aB lB cB) (Y aO lO cO) (Y aF lF cF) (Y aE lE cE) p)(hok:SdpOk F least p)(Z4:Sl h n 1 (Y aY lY cY) (strs Z3))(a:∀s∈Z3,O s≤40)(D:O Z3≤6):
  VF (KO (k+18)) 15 [.agg #[Y aB lB cB,U .i64 (p.free:Int),Y aO lO cO,Y aF lF cF,Y aE lE cE],Y aY lY cY] h n fun v=>((∀s∈Z3,xC s)∧O Z3=O p.eqs∧∃j,v=.tuple #[Dk j,U .i64 0]∧(j=true↔Rc p (Z3.map numOf)))∨∃e,v=.tuple #[Dk false,U .i64 e]∧ErrD p Z3 e:=by
 have a0:=hok.eql;have a1:=hok.free;refine zB (fn:=Tryz.f15) R4<|zG ?_;refine sB [Y aB lB cB,U .i64 (p.free:Int),Y aO lO cO,Y aF lF cF,Y aE lE cE] ?_;intro u p1 M;refine zG ?_;refine sC (Q9 (k+2) (g.x (zx:Tx n h (n+1) u)) hF (hp.ext0 M Z) hok (Z4.ext M Z) a D) ?_;rintro v R n2 Z0 y2 x2;rcases Z0 with⟨f,c,bm,bs,bf,rfl,i,L⟩|⟨e,rfl,he⟩
 rotate_left
 .have a2:=he.ne;refine Zt ?_;exact .inr ⟨e,rfl,he⟩
 obtain⟨K,B,T⟩:∃K,(2^133)^O Z3≤K∧K≤2^532:=⟨_,jP (m:=532) Z,Dh⟩;have b:=hok.slb a B;obtain⟨o,J⟩:∃o,o=Z3.map numOf:=⟨_,rfl⟩;rw[←J]at b i L⊢;have q:(∀s∈(D9 p.free).map fun t=>ratT (KZ p o (O p.eqs) t),s=[48])↔∀t,t<p.free→KZ p o (O p.eqs) t=0:=by
  constructor
  .intro h t w;have:=h _ (EX.2 ⟨t,Gy.2 w,rfl⟩);exact jL (this.trans mE.symm)
  intro h s W;obtain⟨t,w,rfl⟩:=EX.1 W;rw[h t (Gy.1 w)];exact mE
 refine zG ?_;refine sC (YV _ (ar8 L (len:=p.free) (cap:=p.free) nP Dh) tv).cx ?_;rintro _ S n3⟨b3,rfl,H⟩ y3 x3;rcases K3 H with⟨rfl,A⟩|⟨rfl,A⟩
 .refine Zt ?_;exact .inl ⟨f,c,false,rfl,fun h=>Aq,fun h=>oU (q.2 h.1) A⟩
 refine zG ?_;have I:O (dimN p)<1000000:=by unfold dimN;rw[DC];have:=hok.bl;omega
 have P:GG S n3:=g.x zx;refine sC (YI k P ((i.ext x3 y3).ms rfl Dh) (b.mok T hok) (by rw[sO i.l];exact I)).cx ?_;rintro _ h4 n4⟨j,rfl,V⟩ y4 x4;refine Zt ?_;refine .inl ⟨f,c,j,rfl,V.trans ⟨fun h=>⟨q.1 A,fun y N C=>?_⟩,fun h y d hd=>?_⟩⟩
 .obtain⟨Z1,G,_⟩:=i.bget C;exact h y _ (aH C G)
 obtain⟨N,Z1,u,R,rfl⟩:=pE hd;exact h.2 y N u
section
variable {i:Nat}
theorem Rec.unmap{P:List Value→β→Prop}{b:List Value→α→Prop}{f:α→β}:∀{l:List α} {C:List Value},Rec sz P C (l.map f)→(∀c x,x∈l→P c (f x)→b c x)→Rec sz b C l:=by
 intro l;induction l with
 |nil=>intro C r _;cases r;exact .nil
 |cons x l ih=>
  intro C r h;cases r with
  |cons hl hp hr=>exact .cons hl (h _ x Fj hp) (ih hr fun c y d=>h c y (Fm _ d))
theorem Z7{N:Nat}{a:Nat→Nat→Rat}(b:i<N)(f:Rat→α):((tabL N a).take (i*N)).map f++(rowQ N a i).map f=((tabL N a).take ((i+1)*N)).map f:=by
 rw[←EN,←jv b,←List.take_add,Fb]
section
variable {a:Nat→Nat→Rat}
theorem Z8(k:Nat)(J:1≤N∧N≤3)(s:Sl h n 1 (Y aE (N*N) cE) (strs ((tabL N a).map ratT)))(hP:∀i j,i<N→j<N→Sz P (a i j))(a4:P≤600):
  CX (KO (k+8)) 97 [.agg #[U .i64 (N:Int),U .i64 (N:Int),Y aE (N*N) cE]] h n fun v p y=>∃ar,v=.tuple #[Y ar N N,Dk true]∧RD p y (Y ar N N) N a:=by
 have h9:=LH J.2;have a3:1≤N*N:=Fw J.1 J.1;refine zl (fn:=Tryz.f97) R4<|zG ?_;refine sB [U .i64 (N:Int),U .i64 (N:Int),Y aE (N*N) cE] ?_;intro h1 p1 Z1;refine zG ?_;refine LZ N N Z ?_;refine zG ?_;refine sC (Oe _ (s.ext Z1 zs) (fun s hs=>by
  obtain⟨i,j,hi,hj,rfl⟩:=bL hs;exact rI ((hP i j hi hj).mono Z)) (by rw[DC,yF];omega)) ?_
 rintro _ h2 d⟨a2,l2,f,ok,rfl,V,o⟩ y2 R;have ht:ok=true:=V.2 (fun s hs=>by
  obtain⟨q,_,rfl⟩:=EX.1 hs;exact⟨q,rfl⟩)
 subst ht;have o:=o rfl;rw[bK]at o;have Z3:=o.len;rw[yF]at Z3;subst Z3;obtain⟨w,sl,rc⟩:=o;obtain⟨b,off,xb,cs,rfl,hb,hx,hc,a0,a5,he⟩:=sl.inv Z;have o:NS h2 d (Y (some ⟨b,off,none⟩) (N*N) f) (tabL N a):=⟨w,sl,rc⟩;refine zG ?_;refine LV (L:=N) [Y none 0 0] ?_ Z;intro u p3 G;refine zG ?_;have Z0:OR 1 Le u (d+1) (3*d+2) (Dp N (Y none 0 0)):=OR.fill Z p3 ao4 R3;have q1:u (3*n+2)=_:=(G (3*n+2) Z).trans ((R (3*n+2) Z).trans p1);have E3:Ex0 n h u:=⟨fun c hc=>(G c Z).trans ((R c Z).trans (Z1 c hc))⟩;obtain⟨F,W⟩:∃b,b=3*d+2:=⟨_,rfl⟩;have S:Ex0 d h2 u:=⟨G⟩;rw[←W]at Z0⊢;have l:O (D9 N)=N:=Fg;refine sF (α:=Nat) (fun z=>[(1,Dn (some ⟨3*n+2,0,none⟩)),(4,Y (some ⟨b,off,none⟩) (N*N) f),(6,Y (some ⟨F,0,none⟩) N N),(7,U .i64 (z:Int))])
  (fun z p y w'=>w'=[]∧d+1=y∧Ex0 n h p∧Ex0 d h2 p∧p (3*n+2)=u (3*n+2)∧OR 1 Le p y F (((D9 N).take z).map (fun i=>Y (some ⟨b,off+i*N*4,none⟩) N (f-i*N))++Dp (O (D9 N)-z) (Y none 0 0))∧z≤N) (fun z=>N-z) 0 ⟨rfl,rfl,E3,S,rfl,Z0.as (by rw[Fe,Nat.sub_zero,l];rfl),Di⟩ ?_
 rintro j t Z4 _ _⟨rfl,rfl,T,H,q4,A,hj⟩;have hj:j≤N:=hj;have A:OR 1 Le Z4 (d+1) F (((D9 N).take j).map (fun i=>Y (some ⟨b,off+i*N*4,none⟩) N (f-i*N))++Dp (O (D9 N)-j) (Y none 0 0)):=A;have a7:=q4.trans q1;refine zG ?_;by_cases qj:(j:Int)<(N:Int)
 .have g:j<N:=Z;have K:=kK g;have a1:j*N<N*N:=Z;have a6:(j+1)*N=j*N+N:=Fb _ _;refine zG ?_;refine LZ j N Z ?_;refine zG ?_;refine LZ (j+1) N Z ?_;refine u7 (j*N) ((j+1)*N) R9 rfl rfl ⟨Z,Z,Z⟩ ?_;rw[show(j+1)*N-j*N=N by omega];refine sI (j:=j) (len:=N) rfl g ?_;refine MC (n0:=n) (j:=j) (q:=Y (some ⟨b,off+j*N*4,none⟩) N (f-j*N)) [Y (some ⟨b,off+j*N*4,none⟩) N (f-j*N)] A ao4 (by rw[Do,DC,DW,DV,l];omega) (show(0:Nat)+j*1=j*1 by omega) R3 Z ?_;intro h5 o5 M;refine zG ?_;exact sK (j+1) ⟨rfl,rfl,⟨fun c hc=>(M.1 c Z).trans (T.e c hc)⟩,⟨fun c hc=>(M.1 c Z).trans (H.e c hc)⟩,(M.1 _ Z).trans q4,o5.as (Rb (D9 N) (fun i=>Y (some ⟨b,off+i*N*4,none⟩) N (f-i*N)) (Y none 0 0) (Et g)),vT⟩
 have g:j=N:=Z;subst g;have o6:OR 1 Le Z4 (d+1) F ((D9 j).map fun i=>Y (some ⟨b,off+i*j*4,none⟩) j (f-i*j)):=A.as (by rw[DK (by rw[l];exact Fu _),l,Ee];exact List.append_nil _);refine zG ?_;have X4:=T.e;refine zq ?_;refine⟨_,rfl,?_⟩;obtain⟨C,sC,rC⟩:=OR.sl o6 (len:=j) (cap:=j) (by rw[DC,l]) Dh;refine⟨C,sC,rC.unmap fun c x hx hp=>?_⟩;have I:=Gy.1 hx;have K:=kK I;refine⟨_,_,hp.1,?_⟩;rw[←jv I];exact NS.ext (RS.sub zd o (m:=x*j) (c:=j) Z Z) H.e zs
end
theorem Z9(k:Nat){h:HF}{n:Nat}{a:Option Addr}{L:Nat}{e:List MD}{M:Nat→Nat→Nat→Rat}(m:MS h n (Y a L cap) e M){P:Nat}(o:MOk P D B e M)(hl:O e<1000000):
  VF (KO (k+10)) 57 [Y a L cap] h n fun v=>∃g:Bool,v=Dk g∧(g=true↔∀k d,e[k]?=some d→psdA d.n d.n 0 (M k)):=by
 have lm:L=O e:=m.r.len' zd;refine zB (fn:=Tryz.f57) R4<|zG ?_;refine sF (α:=Nat) (fun z=>[(7,Y a L cap),(8,U .i64 (L:Int)),(9,U .i64 (z:Int))])
  (fun z H K Z4=>Z4=[]∧n≤K∧KN n h H∧z≤L∧∀k d,k<z→e[k]?=some d→psdA d.n d.n 0 (M k)) (fun z=>L-z) 0 ⟨rfl,Dh,FU _ _,Di,fun k d s=>oU s (Fr _)⟩ ?_
 rintro j t h1 Z1 _⟨rfl,w,u,hj,b⟩;have w:n≤Z1:=w;have u:KN n h h1:=u;have hj:j≤L:=hj;have b:∀k d,k<j→e[k]?=some d→psdA d.n d.n 0 (M k):=b;refine zG ?_;by_cases qj:(j:Int)<(L:Int)
 .refine zG ?_;obtain⟨d,hd⟩:∃d,e[j]?=some d:=⟨_,Dm Z⟩;obtain⟨V,o2,C,G,J,R,T,_,q⟩:=RS.at' zd (m.ext u w).r hd;have q:C=[U .i64 (d.n:Int),U .i64 (d.n:Int),Y d.a (d.n*d.n) d.c]:=q;subst q;have y:=o.hn _ _ hd;refine sI G R ?_;refine sL T J 0 ?_;refine sA ?_;intro W p3 x3;refine zG ?_;refine sS [U .i64 (d.n:Int),U .i64 (d.n:Int),Y d.a (d.n*d.n) d.c] ?_;intro Z3 p4 o4;refine zG ?_;refine sC (Z8 (k+1) y ((m.t _ _ hd).ext (zx:Tx n h _ _).2 Z) (fun i I hi A=>FN.sz (o.hB _ _ hd i I hi A) o.D0 o.D2 o.B2) o.P2) ?_;rintro _ Z0 n5⟨ar,rfl,S⟩ y5 x5;refine zG ?_;refine sC (Z6 k S y o.P1 o.P2 o.D0 o.D2 (o.hB _ _ hd) o.B2).cx ?_;rintro _ h6 n6⟨g,rfl,p⟩ y6 x6;cases g with
  |false=>
   refine Zt ?_;exact⟨_,rfl,fun h=>Aq,fun h=>oU (p.2 (h _ _ hd)) cA⟩
  |true=>
   refine zG ?_;exact sK (j+1) ⟨rfl,Z,(zx:Tx n h _ _).2,Bp,fun k F s f=>by
    rcases EG k j with l|l
    .exact b k F l f
    .have:k=j:=by have:k<j+1:=s;omega
     subst this;rw[hd]at f;cases f;exact p.1 rfl⟩
 refine Zt ?_;exact⟨_,rfl,fun _ k d hd=>b k d (by have:=(Du.1 hd).1;omega) hd,fun _=>rfl⟩
theorem zo(k:Nat){h:HF}{n:Nat}{N:Nat}{a:Nat→Nat→Rat}(r:RD h n (Y ar N cap) N a)(w:1≤N∧N≤3)(hz:∀i j,i<N→j<N→Sz m (a i j))(hm:m≤3840):
  CX (KO (k+6)) 68 [Y ar N cap] h n fun v o C=>∃b,v=.agg #[U .i64 (N:Int),U .i64 (N:Int),Y (some ⟨b,0,none⟩) (N*N) (N*N)]∧3*n≤b∧OT o C b ((tabL N a).map ratT):=by
 have h9:=LH w.2;have a3:1≤N*N:=Fw w.1 w.1;refine zl (fn:=Tryz.f68) R4<|Zs ?_;intro h1 p1 x1;refine zG ?_;obtain⟨b2,o2,a2,c2,e2,m2,r2,t2,s2⟩:=r.at w.1;refine sI (j:=0) e2 r2 ?_;refine sL t2 m2 0 ?_;refine zG ?_;refine sT #[U .i64 (N:Int),U .i64 (N:Int),Y none 0 0] ?_;refine sA ?_;intro h3 p3 x3;refine sS [U .i64 (N:Int),U .i64 (N:Int),Y none 0 0] ?_;intro K p4 o4;have S:Ex0 (n+1) h1 K:=⟨fun c hc=>(o4.1 c Z).trans (x3 c Z)⟩;obtain⟨z4,q4⟩:∃e,K (3*n+2)=some (.row [U .i64 0,U .i64 0,Y none 0 0] e):=⟨_,(S.e _ Z).trans p1⟩;have R:Ex0 n h K:=⟨fun c hc=>(S.e c Z).trans (x1 c hc)⟩;obtain⟨g,W⟩:∃g,g=n+1+1:=⟨_,rfl⟩;rw[←W];refine zG ?_;refine sF (α:=Nat×Value) (fun z=>[(0,Y ar N cap),(2,Dn (some ⟨3*n+2,0,none⟩)),(3,Dn (some ⟨3*(n+1)+2,0,none⟩)),(4,U .i64 (z.1:Int))])
  (fun z o C w'=>w'=[]∧g≤C∧Ex0 n h o∧o (3*n+2)=some (.row [U .i64 0,U .i64 0,Y none 0 0] z4)∧(∃e,o (3*(n+1)+2)=some (.row [U .i64 (N:Int),U .i64 (N:Int),z.2] e))∧GR 1 strP g o C 9 z.2 (((tabL N a).take (z.1*N)).map ratT)∧z.1≤N) (fun z=>N-z.1)
  (0,Y none 0 0) ⟨rfl,Dh,R,q4,⟨_,p4⟩,by show GR _ _ _ _ _ _ _ (((tabL N a).take (0*N)).map ratT);rw[EI,Fe];exact al4,Di⟩ ?_
 rintro⟨i,v⟩ t L F _ ⟨rfl,y5,I,q5,⟨e5,Z1⟩,f,hi⟩;dsimp only at y5 hi Z1 f;have a5:i*N≤N*N:=Dw _ hi;have y:O (((tabL N a).take (i*N)).map ratT)=i*N:=by rw[DC,DW,yF];omega
 obtain⟨av,rfl⟩:=f.shape y;refine zG ?_;by_cases qi:(i:Int)<(N:Int)
 .have d:i<N:=Z;obtain⟨b6,G,a6,c6,e6,m6,r6,t6,s6⟩:=(r.ext I.e (show n≤F by omega)).at d;refine zG ?_;refine zn [0,1,0,0,12,28,60,127,255,511] rfl<|zH ?_;refine dI (j:=i) e6 r6 ?_;refine dL t6 m6 0 ?_;refine dC (Ou _ s6 Z (fun q hq=>by
   obtain⟨j,hj,rfl⟩:=EX.1 hq;exact hz i j d (Gy.1 hj)) hm) ?_
  rintro _ M Z0⟨b7,rfl,f7,o7⟩ y7 p;have l:O ((rowQ N a i).map ratT)=N:=by rw[DC,ue]
  obtain⟨e7,p7⟩:=o7.row;have Z3:argS M 1 (Y (some ⟨b7,0,none⟩) N N) (O ((rowQ N a i).map ratT)) (strs ((rowQ N a i).map ratT)):=by
   rw[l];exact yG p7 ⟨rfl,(by rw[strs_len1,l])⟩
  refine ZK (n0:=n) (strs ((rowQ N a i).map ratT)) ((rowQ N a i).map ratT) (f.go Ib ⟨y7,fun c hc=>.inl (p c hc)⟩ (fun b hb=>p b (f.bk b hb).2.1)) Ib (aq6 _ _ _) ⟨Rec.allnu Ib (aq6 ((rowQ N a i).map ratT) M Z0),ones_strs _⟩ Z3 (by rw[l];exact w.1) (by rw[y,l];omega) Z ?_;intro v8 Z4 W8 u T8 A K8 F8;have u:GR 1 strP g Z4 (Z0+1) 9 v8 (((tabL N a).take ((i+1)*N)).map ratT):=u.as (Z7 d ratT);have a0:(i+1)*N≤N*N:=Dw _ d;have V:O (((tabL N a).take ((i+1)*N)).map ratT)=(i+1)*N:=by rw[DC,DW,yF];omega
  obtain⟨T,rfl⟩:=u.shape V;have nb:∀k,¬BkOf (Y av (i*N) (i*N)) (3*k+2):=fun k hb=>oF (f.bk _ hb).2.2.1 rfl;have p8:=(A (3*(n+1)+2) Z).trans ((p (3*(n+1)+2) Z).trans Z1);have q8:=(A (3*n+2) Z).trans ((p (3*n+2) Z).trans q5);have E8:Ex0 n h Z4:=⟨fun c hc=>(A c Z).trans ((p c Z).trans (I.e c hc))⟩;refine zH ?_;refine Mm (n0:=n) [U .i64 (N:Int),U .i64 (N:Int),Y T ((i+1)*N) ((i+1)*N)] p8 ?_;intro h9 p9 H;rw[wF (show 3*n≤3*(n+1)+2 by omega)];refine zG ?_;exact sK (i+1,Y T ((i+1)*N) ((i+1)*N)) ⟨rfl,Z,⟨fun c hc=>(H.1 c Z).trans (E8.e c hc)⟩,(H.1 _ Z).trans q8,⟨_,p9⟩,u.go Ib (Il H (FS _ _)) (fun b hb=>H.1 b (by have:=(u.bk b hb).1;omega)),xl⟩
 have d:i=N:=Z;subst d;obtain⟨b,J,hg,a1,G,_⟩:=f.or y Z;injection J with J
 subst J;rw[DK (by rw[yF];exact Fu _)]at G;have X5:KN n h L:=I.e;have a7:n≤F:=Z;have a4:=G.1;refine zG ?_;refine sS [U .i64 (i:Int),U .i64 (i:Int),Y (some ⟨b,0,none⟩) (i*i) (i*i)] ?_;intro M p7 s7;refine zq ?_;exact⟨b,rfl,Z,G.go Ib (Il s7 (FS _ _)) (s7.1 b Z)⟩
end
section
variable {b i k:Nat}
def xw(rbs:List (List Nat))(c:Nat):Prop:=∃(k:Nat) (rb:List Nat),rbs[k]?=some rb∧c∈rb
def updK(M:Nat→Nat→Nat→Rat)(k i j:Nat)(x:Rat):Nat→Nat→Nat→Rat:=fun k' a b=>if k'=k∧a=i∧b=j then x else M k' a b
structure RMs (h:HF)(n bS:Nat)(Ns tbs:List Nat)(rbs:List (List Nat))(M:Nat→Nat→Nat→Rat):Prop where
 s:OR 1 Le h n bS (Hq K4 Ns tbs)
 m:∀(k N tb:Nat) (rb:List Nat),Ns[k]?=some N→tbs[k]?=some tb→rbs[k]?=some rb→RM h n tb N rb (M k)
 l:O tbs=O Ns∧O rbs=O Ns
 d:∀(k k':Nat) (rb rb':List Nat),k≠k'→rbs[k]?=some rb→rbs[k']?=some rb'→∀b∈rb,b∉rb'
 o:∀b,xw rbs b→b∉tbs∧b≠bS
section
variable {M:Nat→Nat→Nat→Rat}
theorem RMs.get(m:RMs h n bS Ns tbs rbs M)(d:Ns[k]?=some N):∃tb rb,tbs[k]?=some tb∧rbs[k]?=some rb∧RM h n tb N rb (M k):=by
 have f:=m.l;have e:=(Du.1 d).1;have a:tbs[k]?=some (tbs[k]'Z):=Dm Z;have c:rbs[k]?=some (rbs[k]'Z):=Dm Z;exact⟨_,_,a,c,m.m k N _ _ d a c⟩
theorem RMs.rlt(m:RMs h n bS Ns tbs rbs M)(d:xw rbs b):b<3*n:=by
 obtain⟨k,e,a,c⟩:=d;have g:=m.l;have f:=(Du.1 a).1;exact(m.m k (Ns[k]'Z) (tbs[k]'Z) e (Dm Z) (Dm Z) a).blt c
theorem RMs.tlt(m:RMs h n bS Ns tbs rbs M)(a:b∈tbs):b<3*n:=by
 obtain⟨k,c,rfl⟩:=Gs.1 a;have d:=m.l;exact(m.m k (Ns[k]'Z) _ (rbs[k]'Z) (Dm Z) (Dm c) (Dm Z)).t.1
theorem RMs.go(m:RMs h n bS Ns tbs rbs M)(t:Tr n h n' h')(x:∀c,c=bS∨c∈tbs∨xw rbs c→h' c=h c):RMs h' n' bS Ns tbs rbs M:=
 ⟨m.s.go ao4 t (x _ (.inl rfl)),fun k N q g p e f=>(m.m k N q g p e f).go t fun c a=>x c (by
  rcases a with rfl|a
  .exact .inr (.inl (Dq e))
  .exact .inr (.inr ⟨k,g,f,a⟩)),m.l,m.d,m.o⟩
theorem RMs.ext(m:RMs h n bS Ns tbs rbs M)(x:KN n h h')(d:n≤n'):RMs h' n' bS Ns tbs rbs M:=
 m.go ⟨d,fun c a=>.inl (x c a)⟩ fun c a=>x c (by
  rcases a with rfl|a|a
  .exact m.s.1
  .exact m.tlt a
  .exact m.rlt a)
theorem RMs.as(m:RMs h n bS Ns tbs rbs M)(e:∀k i j,M k i j=M' k i j):RMs h n bS Ns tbs rbs M':=by
 exact CL
theorem RMs.tab(m:RMs h n bS Ns tbs rbs M){a:Nat}(e:Ns[k]?=some N)(f:tbs[k]?=some a):At h bS (0+k*1) [K4 N a]:=by
 obtain⟨c,p,_,t⟩:=m.s.get (j:=k) (d:=K4 N a) (by rw[List.getElem?_zipWith,e,f]) (off:=0+k*1) Z;obtain⟨rfl,_⟩:=p;exact t
theorem RMs.put(m:RMs h n bS Ns tbs rbs M){I:Nat}{g:List Nat}{x:Rat}(C:Ns[k]?=some N)(D:tbs[k]?=some I)(v:rbs[k]?=some g)(G:g[i]?=some b)(P:j<N)(t:Tr n h n' h')(B:∀c,c<3*n→c≠b→h' c=h c)(o:OR 4 numP h' n' b ((rowQ N (M k) i).set j x)):RMs h' n' bS Ns tbs rbs (updK M k i j x):=by
 have F:b∈g:=Dq G;have H:xw rbs b:=⟨k,g,v,F⟩;refine⟨m.s.go ao4 t (B _ m.s.1 (Ne.symm (m.o b H).2)),fun f Z1 J w y q u=>?_,m.l,m.d,m.o⟩;by_cases hk:f=k
 .subst hk;rw[C]at y;cases y;rw[D]at q;cases q;rw[v]at u;cases u;have p:=m.m f N I g C D v;have:=p.put G P t (fun c A a=>B c (by rcases a with rfl|a;exact p.t.1;exact p.blt a) A) o;refine this.as fun K L _ _=>?_;unfold updT updK;by_cases h:K=i∧L=j
  .rw[De h,De ⟨rfl,h⟩]
  rw[CT h,CT (fun h'=>h h'.2)]
 have p:=m.m f Z1 J w y q u;have e:updK M k i j x f=M f:=by
  funext K L;unfold updK;rw[CT (fun h=>hk h.1)]
 rw[e];exact p.go2 (fun c A a=>B c A (fun e=>by
  subst e;rcases a with rfl|a
  .exact(m.o c H).1 (Dq q)
  .exact m.d k f g w (Ne.symm hk) v u c F a)) t
end
theorem nF(k:Nat)(h:HF)(n:Nat)(x:Int)(g: -9223372036854775808≤x∧x<9223372036854775808):CX (KO (k+2)) 73 [U .i64 x] h n (Ml x):=by
 refine yD (pG k h n x g) ?_;rintro _ h' n' w⟨d,e,f,m,o,L,rfl,r,_⟩;obtain⟨b,a,l,c,rfl,rfl,i⟩:=r.ui;exact⟨d,e,f,_,_,_,_,rfl,i⟩
theorem bV{x:Int}(h:x.natAbs<2^8):x.natAbs<BX:=uf h zd
theorem bW{x:Int}(h:x.natAbs<2^8):x.natAbs<BD:=N8 h zd
theorem Re(k:Nat){h:HF}{n:Nat}{bS:Nat}{Ns tbs:List Nat}{rbs:List (List Nat)}{M:Nat→Nat→Nat→Rat}{E:List Ent}{sc dc:Bool}{ac ec:Option Addr}{lc cc fc gc:Nat}{c:Rat}(ms:RMs h n bS Ns tbs rbs M)(ic:UI h n sc ac lc cc c.num)(jc:UI h n dc ec fc gc (denZ c))(hN:∀N∈Ns,1≤N∧N≤3)(hs:Sl h n 4 (Y aE (O E) cE) (ents E))(ct:∀ad,aE=some ad→¬xw rbs ad.block)(hE:∀e∈E,EntF Ns e)(hl:O E<1000000)(hc:Sz 140 c)(hz:∀P Q,E=P++Q→∀k i j,Sz 600 (M k i j+c*KW P k i j)):
  CF (KO (k+8)) 53 [Y (some ⟨bS,0,none⟩) (O Ns) (O Ns),.agg #[Dk sc,Y ac lc cc,Dk dc,Y ec fc gc],Y aE (O E) cE] h n fun _ h' n' w=>n≤n'∧(∀c,c<3*n→¬xw rbs c→h' c=h c)∧Tr n h n' h'∧RMs h' n' bS Ns tbs rbs (fun k i j=>M k i j+c*KW E k i j)∧∀x∈w,xw rbs x:=by
 refine ph (fn:=Tryz.f53) R4<|zG ?_;refine sB [Dk sc,Y ac lc cc,Dk dc,Y ec fc gc] ?_;intro h1 p1 x1;refine zG ?_;refine sC (nF _ _ _ 1 zd) ?_;rintro _ h2 n2⟨b2,a2,l2,c2,rfl,i2⟩ y2 x2;refine sC (nF _ _ _ 2 zd) ?_;rintro _ h3 n3⟨b3,a3,l3,c3,rfl,i3⟩ y3 x3;refine sC (mR _ (i2.t zt) i3 (bV zd) (bW zd) zd (q:=1/2) kF) ?_;rintro _ h4 p⟨b4,a4,l4,c4,d4,e4,f4,g4,rfl,i4,j4⟩ y4 x4;refine sA ?_;intro h5 p5 x5;refine LN (n0:=n) [Dk b4,Y a4 l4 c4,Dk d4,Y e4 f4 g4] ?_;intro B p6 o6;have i6:UI B (p+1) b4 a4 l4 c4 (1/2:Rat).num:=i4.t zt;have j6:UI B (p+1) d4 e4 f4 g4 (denZ (1/2)):=j4.t zt;obtain⟨e1,q1⟩:∃e,B (3*n+2)=some (.row [Dk sc,Y ac lc cc,Dk dc,Y ec fc gc] e):=⟨_,zp⟩;have E6:Ex0 n h B:=⟨(zx:Tx n h (p+1) B).2⟩;have m6:=ms.ext E6.e (show n≤p+1 by omega);obtain⟨Z3,aa⟩:∃Z3:List Ent→Nat→Nat→Nat→Rat,Z3=fun P k i j=>M k i j+c*KW P k i j:=⟨_,rfl⟩;have d1:∀P Q,E=P++Q→∀k i j,Sz 600 (Z3 P k i j):=fun P Q e k i j=>by rw[aa];exact hz P Q e k i j
 have cz:∀P e k i j,Z3 (P++[e]) k i j=Z3 P k i j+c*Lo e k i j:=fun P e k i j=>by rw[aa];show M k i j+c*KW (P++[e]) k i j=M k i j+c*KW P k i j+_;rw[Q2,Rat.mul_add,Hv]
 have cy:∀k i j,M k i j=Z3 [] k i j:=fun k i j=>by rw[aa];show _=M k i j+c*0;rw[Gg,Gh]
 have d0:Z3 E=fun k i j=>M k i j+c*KW E k i j:=by rw[aa]
 refine zG ?_;refine sF (α:=Nat) (fun z=>[(0,Y (some ⟨bS,0,none⟩) (O Ns) (O Ns)),(4,Dn (some ⟨3*n+2,0,none⟩)),(6,Dn (some ⟨3*p+2,0,none⟩)),(13,Y aE (O E) cE),(14,U .i64 (O E:Int)),(15,U .i64 (z:Int))])
  (fun z h' n' w'=>p+1≤n'∧(∀b,b<3*(p+1)→¬xw rbs b→h' b=B b)∧Tr (p+1) B n' h'∧RMs h' n' bS Ns tbs rbs (Z3 (E.take z))∧(∀b∈w',xw rbs b)∧(0<z→∃b∈w',xw rbs b)∧z≤O E)
  (fun z=>O E-z) 0 ⟨Dh,fun _ _ _=>rfl,FS _ _,by rw[Fe];exact m6.as cy,fun b hb=>oU hb Ds,fun h=>oU h (GM _),Di⟩ ?_
 rintro z t h7 J w7⟨y7,x7,T7,m7,ae,d5,c7⟩;have y7:p+1≤J:=y7;have c7:z≤O E:=c7;have x7:∀b,b<3*(p+1)→¬xw rbs b→h7 b=B b:=x7;have T7:Tr (p+1) B J h7:=T7;have ae:∀b∈w7,xw rbs b:=ae;have nr:∀b,3*n≤b→¬xw rbs b:=fun b hb hr=>by have:=ms.rlt hr;omega
 have ck:=(x7 _ Z (nr _ Z)).trans q1;have cl:=(x7 _ Z (nr _ Z)).trans p6;refine zG ?_;by_cases qz:(z:Int)<(O E:Int)
 .obtain⟨e0,ay⟩:∃e,E[z]?=some e:=⟨_,Dm Z⟩;have cu:=Dq ay;obtain⟨k0,N,i0,a,v,rfl,g,e3,K,sv,xi,d8,d6,d7⟩:=hE e0 cu;have f:i0<N:=Z;have Z4:=(Du.1 g).1;have e2:=hN N (Dq g);obtain⟨bq,oq,bx,mq,rq,tq⟩:=kZ hs ay;have d3:=ct _ bx;refine zG ?_;refine sI bx rq ?_;have cn:At h7 bq (oq+z*4) _:=tq.keep ((x7 bq Z d3).trans (E6.e bq mq));refine sL cn (show bq<3*J by omega) 0 ?_;refine sA ?_;intro dv de di;refine LN (n0:=n) [U .i64 (k0:Int),U .i64 (i0:Int),U .i64 (a:Int),Dl ⟨⟨ratT v⟩⟩] ?_;intro T cg dd;have W:KN J h7 T:=(zx:Tx J h7 (J+1) T).2;have b9:=(W _ Z).trans ck;have ba:=(W _ Z).trans cl;have ar:Tr (p+1) B (J+1) T:=T7.trans ⟨DM _,fun c hc=>.inl (W c hc)⟩;have Th:Tr n h (J+1) T:=JO ⟨Z,fun c hc=>.inl (E6.e c hc)⟩ ar;have b7:=m7.ext W zs;have bh:Ex0 J h7 T:=⟨W⟩;obtain⟨G,ak⟩:∃G,G=Z3 (E.take z):=⟨_,rfl⟩;have al:=fun k i j=>cz (E.take z) ⟨(k0:Int),(i0:Int),(a:Int),ratT v⟩ k i j;rw[←xY ay,←ak]at al;have ax:∀k i j,Sz 600 (G k i j):=fun k i j=>by rw[ak];exact d1 _ _ (Ep z E).symm k i j
  rw[←ak]at b7 m7;refine zG ?_;refine zn [0,0,2,6,15,0,63] rfl<|zH ?_;refine dC (numU _ _ _ (ratT v) (by rw[d8];exact DY (rI ((tG ⟨d6,d7⟩).mono zd)) zd)) ?_;rintro _ dw e6⟨dn,dm,e5,dp,dq,dr,ds,dt,rfl,b0,b5⟩ cr ao;rw[zT]at b0 b5;refine dC (MV _ ((ic.t Th).x ⟨cr,ao⟩) ((jc.t Th).x ⟨cr,ao⟩) b0 b5 hc sv Z) ?_;rintro _ dx V⟨bo,bm,cd,br,bt,bv,bz,c5,rfl,c8,ca⟩ e9 co;refine dB [Dk false,Y none 0 0,Dk false,Y none 0 0] ?_;intro dy ch ap;refine Mm (n0:=n) [Dk bo,Y bm cd br,Dk bt,Y bv bz c5] ch ?_;intro L p8 s8;rw[wF (show 3*n≤3*V+2 by omega)];obtain⟨H,az⟩:∃H,H=V+1:=⟨_,rfl⟩;have X8:∀c,c<3*(J+1)→L c=T c:=fun c hc=>(s8.1 c Z).trans ((ap c Z).trans ((co c Z).trans (ao c hc)));have i8:UI L H bo bm cd br (c*v).num:=az▸c8.t (Il s8 ⟨DM _,fun c hc=>.inl (ap c hc)⟩);have j8:UI L H bt bv bz c5 (denZ (c*v)):=az▸ca.t (Il s8 ⟨DM _,fun c hc=>.inl (ap c hc)⟩);have m8:RMs L H bS Ns tbs rbs G:=b7.ext X8 Z;have T8:Tr (p+1) B H L:=ar.trans ⟨Z,fun c hc=>.inl (X8 c hc)⟩;have df:=(X8 _ Z).trans b9;have dg:=(X8 _ Z).trans ba;have cj:=(X8 (3*J+2) Z).trans cg;have x8:∀b,b<3*(p+1)→¬xw rbs b→L b=B b:=fun b hb hn=>(X8 b Z).trans ((bh.e b Z).trans (x7 b hb hn));have y8:p+1≤H:=Z;have cs:3*n≤3*V+2:=Z;have bf:3*V+2<3*H:=Z;rw[←az];have cv:3*J+2<3*H:=Z;obtain⟨tk,rk,u,D,bb⟩:=m8.get g;obtain⟨bi,C,_,l⟩:=bb.get f;obtain⟨bj,ab,_,I⟩:=bb.get K;have o:∀b,b∈rk→xw rbs b:=fun b hb=>⟨k0,rk,D,hb⟩;have bc:Sz (140+2) (c*v):=hc.mul sv;refine zG ?_;by_cases hd:i0=a
  .subst hd;refine zG ?_;have R:=m8.m k0 N tk rk g u D;obtain⟨s1,c1,p1,q1,s2,c2,p2,q2,te,ie,je⟩:=R.el C f;refine zn [0,0,2,7,15,0,32,127,255,0,512,0,0,4096,14336,30720,0,65536,260096,522240,0,1048576,4192256,8386560,0,33552384,67108863,134217727] rfl<|zH ?_;refine dI (j:=k0) (len:=O Ns) rfl Z4 ?_;refine dL (m8.tab g u) m8.s.1 0 ?_;refine zH ?_;refine dI (j:=i0) (len:=N) rfl f ?_;refine dL (R.row C) R.t.1 0 ?_;refine zH ?_;refine dI (j:=k0) (len:=O Ns) rfl Z4 ?_;refine dL (m8.tab g u) m8.s.1 0 ?_;refine zH ?_;refine dI (j:=i0) (len:=N) rfl f ?_;refine dL (R.row C) R.t.1 0 ?_;refine zH ?_;refine dI (j:=i0) (len:=N) rfl f ?_;refine dL te (show bi<3*H from R.blt l) 0 ?_;refine zH ?_;refine dC (MU _ ie je (i8.x ⟨Dh,FU _ _⟩) (j8.x ⟨Dh,FU _ _⟩) (ax _ _ _) bc Z) ?_;rintro _ h9 n9⟨a1,a0,ah,a5,a6,a7,a8,a9,rfl,af,ag⟩ y9 x9;refine dI (j:=i0) (len:=N) rfl f ?_;refine dZ (n0:=n) (j:=i0) (q:=G k0 i0 i0+c*v) [Dk a1,Y a0 ah a5,Dk a6,Y a7 a8 a9] ((R.r i0 bi C).ext Fi x9 y9) Fi (by rw[ue];exact f) (show(0:Nat)+i0*4=i0*4 by omega) ⟨_,_,_,_,_,_,_,_,rfl,af,ag⟩ ?_;intro d o9 s9 _;have X9:∀c,c<3*H→c≠bi→d c=L c:=fun c hc hn=>(s9.1 c hn).trans (x9 c hc);have T9:Tr H L n9 d:=Il s9 ⟨y9,fun c hc=>.inl (x9 c hc)⟩;have m9:RMs d n9 bS Ns tbs rbs (updK G k0 i0 i0 (G k0 i0 i0+c*v)):=m8.put g u D C f T9 X9 o9;have Y9:∀c,c<3*n→¬xw rbs c→d c=L c:=fun c hc hn=>X9 c Z (fun e=>hn (e▸⟨k0,rk,D,l⟩));refine zG ?_;exact sK (z+1) ⟨Z,fun b hb hn=>(X9 b Z (fun e=>hn (e▸o _ l))).trans (x8 b hb hn),T8.trans T9,m9.as (fun k' i' j'=>by
    rw[al];unfold updK;by_cases hh:k'=k0∧i'=i0∧j'=i0
    .obtain⟨rfl,rfl,rfl⟩:=hh;rw[De R3,fG,De rfl]
    .rw[CT hh,lM Z,Gg,Gh]),vZ (fun b hb=>by rw[Dx.1 hb];exact o _ l) ae,fun _=>⟨bi,ub (ms.rlt (o _ l)) (Dx.2 rfl),o _ l⟩,by show z+1≤O E;omega⟩
  refine zG ?_;refine sC (MV _ i8 j8 (i6.t T8) (j6.t T8) bc (b:=2) ⟨kF,kF⟩ Z) ?_;rintro _ dz A⟨bp,bn,ce,bs,bu,bw,c0,c6,rfl,c9,cb⟩ dk aq;refine MY (n0:=n) [Dk bp,Y bn ce bs,Dk bu,Y bw c0 c6] ((aq _ bf).trans p8) ?_;intro y ci ai;rw[wF cs];have am:∀c,c<3*H→c≠3*V+2→y c=L c:=fun c hc hn=>(ai.1 c hn).trans (aq c hc);have au:Tr H L A y:=Il ai ⟨dk,fun c hc=>.inl (aq c hc)⟩;have d2:∀c,c=bS∨c∈tbs∨xw rbs c→c<3*n:=fun c hc=>by
   rcases hc with rfl|hc|hc
   .exact ms.s.1
   .exact ms.tlt hc
   exact ms.rlt hc
  have Z1:RMs y A bS Ns tbs rbs G:=m8.go au (fun c hc=>by have:=d2 c hc;exact am c Z Z);have b1:UI y A bp bn ce bs (c*v*(1/2)).num:=c9.t (Il ai (FS _ _));have b6:UI y A bu bw c0 c6 (denZ (c*v*(1/2))):=cb.t (Il ai (FS _ _));have bl:Tr (p+1) B A y:=T8.trans au;have b8:=(am _ cv Z).trans cj;have cp:∀b,b<3*(p+1)→¬xw rbs b→y b=B b:=fun b hb hn=>(am b Z Z).trans (x8 b hb hn);have an:Sz (140+2+2) (c*v*(1/2)):=bc.mul ⟨kF,kF⟩;have be:3*V+2<3*A:=Z;have bg:3*J+2<3*A:=Z;refine zG ?_;have F:=Z1.m k0 N tk rk g u D;obtain⟨s1,c1,p1,q1,s2,c2,p2,q2,te,ie,je⟩:=F.el C K;refine zn [0,0,2,7,15,0,32,127,255,0,512,0,0,4096,14336,30720,0,65536,260096,522240,0,1048576,4192256,8386560,0,33552384,67108863,134217727] rfl<|zH ?_;refine dI (j:=k0) (len:=O Ns) rfl Z4 ?_;refine dL (Z1.tab g u) Z1.s.1 0 ?_;refine zH ?_;refine dI (j:=i0) (len:=N) rfl f ?_;refine dL (F.row C) F.t.1 0 ?_;refine zH ?_;refine dI (j:=k0) (len:=O Ns) rfl Z4 ?_;refine dL (Z1.tab g u) Z1.s.1 0 ?_;refine zH ?_;refine dI (j:=i0) (len:=N) rfl f ?_;refine dL (F.row C) F.t.1 0 ?_;refine zH ?_;refine dI (j:=a) (len:=N) rfl K ?_;refine dL te (show bi<3*A from F.blt l) 0 ?_;refine zH ?_;refine dC (MU _ ie je (b1) (b6) (ax _ _ _) an Z) ?_;rintro _ h9 n9⟨a1,a0,ah,a5,a6,a7,a8,a9,rfl,af,ag⟩ y9 x9;refine dI (j:=a) (len:=N) rfl K ?_;refine dZ (n0:=n) (j:=a) (q:=G k0 i0 a+c*v*(1/2)) [Dk a1,Y a0 ah a5,Dk a6,Y a7 a8 a9] ((F.r i0 bi C).ext Fi x9 y9) Fi (by rw[ue];exact K) (show(0:Nat)+a*4=a*4 by omega) ⟨_,_,_,_,_,_,_,_,rfl,af,ag⟩ ?_;intro d o9 s9 _;have X9:∀c,c<3*A→c≠bi→d c=y c:=fun c hc hn=>(s9.1 c hn).trans (x9 c hc);have T9:Tr A y n9 d:=Il s9 ⟨y9,fun c hc=>.inl (x9 c hc)⟩;have m9:RMs d n9 bS Ns tbs rbs (updK G k0 i0 a (G k0 i0 a+c*v*(1/2))):=Z1.put g u D C K T9 X9 o9;have Y9:∀c,c<3*n→¬xw rbs c→d c=y c:=fun c hc hn=>X9 c Z (fun e=>hn (e▸⟨k0,rk,D,l⟩));have w9:∀b,b<3*A→¬xw rbs b→d b=y b:=fun b hb hn=>X9 b hb (fun e=>hn (e▸o _ l));have e7:=(w9 _ bg (nr _ Z)).trans b8;have e8:=(w9 _ be (nr _ Z)).trans ci;have cw:Tr (p+1) B n9 d:=bl.trans T9;have i9:=b1.t T9;have j9:=b6.t T9;have dj:∀b,b<3*(p+1)→¬xw rbs b→d b=B b:=fun b hb hn=>(w9 b Z hn).trans (cp b hb hn);obtain⟨M9,aj⟩:∃M9,M9=updK G k0 i0 a (G k0 i0 a+c*v*(1/2)):=⟨_,rfl⟩;rw[←aj]at m9;have aw:M9 k0 a i0=G k0 a i0:=by rw[aj];exact CT (fun h=>hd h.2.2)
  have dh:Sz 600 (M9 k0 a i0):=aw▸ax _ _ _;refine zG ?_;have S:=m9.m k0 N tk rk g u D;obtain⟨s1,c1,p1,q1,s2,c2,p2,q2,te,ie,je⟩:=S.el ab f;refine zn [0,0,2,7,15,0,32,127,255,0,512,0,0,4096,14336,30720,0,65536,260096,522240,0,1048576,4192256,8386560,0,33552384,67108863,134217727] rfl<|zH ?_;refine dI (j:=k0) (len:=O Ns) rfl Z4 ?_;refine dL (m9.tab g u) m9.s.1 0 ?_;refine zH ?_;refine dI (j:=a) (len:=N) rfl K ?_;refine dL (S.row ab) S.t.1 0 ?_;refine zH ?_;refine dI (j:=k0) (len:=O Ns) rfl Z4 ?_;refine dL (m9.tab g u) m9.s.1 0 ?_;refine zH ?_;refine dI (j:=a) (len:=N) rfl K ?_;refine dL (S.row ab) S.t.1 0 ?_;refine zH ?_;refine dI (j:=i0) (len:=N) rfl f ?_;refine dL te (show bj<3*n9 from S.blt I) 0 ?_;refine zH ?_;refine dC (MU _ ie je (i9) (j9) (dh) an Z) ?_;rintro _ du cf⟨a1,a0,ah,a5,a6,a7,a8,a9,rfl,af,ag⟩ cq bd;refine dI (j:=i0) (len:=N) rfl f ?_;refine dZ (n0:=n) (j:=i0) (q:=M9 k0 a i0+c*v*(1/2)) [Dk a1,Y a0 ah a5,Dk a6,Y a7 a8 a9] ((S.r a bj ab).ext Fi bd cq) Fi (by rw[ue];exact f) (show(0:Nat)+i0*4=i0*4 by omega) ⟨_,_,_,_,_,_,_,_,rfl,af,ag⟩ ?_;intro Z0 db cm _;have av:∀c,c<3*n9→c≠bj→Z0 c=d c:=fun c hc hn=>(cm.1 c hn).trans (bd c hc);have bk:Tr n9 d cf Z0:=Il cm ⟨cq,fun c hc=>.inl (bd c hc)⟩;have da:RMs Z0 cf bS Ns tbs rbs (updK M9 k0 a i0 (M9 k0 a i0+c*v*(1/2))):=m9.put g u D ab f bk av db;have dl:∀c,c<3*n→¬xw rbs c→Z0 c=d c:=fun c hc hn=>av c Z (fun e=>hn (e▸⟨k0,rk,D,I⟩));refine zG ?_;exact sK (z+1) ⟨Z,fun b hb hn=>(av b Z (fun e=>hn (e▸o _ I))).trans (dj b hb hn),cw.trans bk,da.as (fun k' i' j'=>by
   rw[al,aw,aj];unfold updK;by_cases hh:k'=k0∧i'=a∧j'=i0
   .obtain⟨rfl,rfl,rfl⟩:=hh;rw[De R3,iJ,fG,CT hd,EJ]
   .rw[CT hh];by_cases h2:k'=k0∧i'=i0∧j'=a
    .obtain⟨rfl,rfl,rfl⟩:=h2;rw[De R3,fG,CT hd,EJ]
    .rw[CT h2,lM Z,Gg,Gh]),vZ (fun b hb=>by rw[Dx.1 hb];exact o _ I) (vZ (fun b hb=>by rw[Dx.1 hb];exact o _ l) ae),fun _=>⟨bj,ub (ms.rlt (o _ I)) (Dx.2 rfl),o _ I⟩,by show z+1≤O E;omega⟩
 have d9:z=O E:=Z;subst d9;rw[DO,d0]at m7;refine zG ?_;refine⟨rfl,[],rfl,⟨Z,fun b hb hn=>(x7 b Z hn).trans (E6.e b hb),JO ⟨Z,fun c hc=>.inl (E6.e c hc)⟩ T7,m7,ae⟩,fun hw=>?_⟩;have cx:E=[]:=by
  cases hEe:E with
  |nil=>rfl
  |cons e E'=>
   obtain⟨b,hb,_⟩:=d5 (by rw[hEe];exact Nat.succ_pos _);have hw:w7=[]:=hw;rw[hw]at hb;exact oU hb Ds
 subst cx;exact⟨Dh,fun _ _ _=>trivial,FS _ _,ms.as (fun k i j=>by show _=M k i j+c*0;rw[Gg,Gh]),fun b hb=>oU hb Ds⟩
end
def NumR(q:Rat):Prop:=∃x y:Int,-9≤x∧x≤9∧1≤y∧y≤4∧q=Ef x y
theorem zi6:∀a:Fin 19,∀b:Fin 4,((Ef ((a.val:Int)-9) ((b.val:Int)+1)).num.natAbs<2^4∧(Ef ((a.val:Int)-9) ((b.val:Int)+1)).den<2^4)∧O (ratT (Ef ((a.val:Int)-9) ((b.val:Int)+1)))≤40:=by decide+kernel
theorem NumR.ok{q:Rat}(h:NumR q):Sz 4 q∧O (ratT q)≤40:=by
 obtain⟨x,y,a,b,c,d,rfl⟩:=h;have:=zi6 ⟨(x+9).toNat,Z⟩ ⟨(y-1).toNat,Z⟩;rw[show(((⟨(x+9).toNat,Z⟩:Fin 19).val:Int)-9)=x by show(((x+9).toNat:Nat):Int)-9=x;omega,show(((⟨(y-1).toNat,Z⟩:Fin 4).val:Int)+1)=y by show(((y-1).toNat:Nat):Int)+1=y;omega]at this;exact this
theorem Tp.tr{h h':HF}{T:TapeI}{n:Nat}(t:Tp h T)(d:∀b,b≠T.bt→h' b=h b):Tr n h n h':=⟨Dh,fun c _=>by
 by_cases hb:c=T.bt
 .subst hb;obtain⟨f,e,a,_⟩:=t.row;exact .inr (.row a rfl)
 .exact .inl (d c hb)⟩
theorem numX(k:Nat)(R:Tp h T)(hn:T.m≤n):CF (KO (k+6)) 43 [Dn (some ⟨T.bt,0,none⟩)] h n fun v B D w=>TLeft T h n B D w∧∃b a l c d e f g q,v=.agg #[Dk b,Y a l c,Dk d,Y e f g]∧UI B D b a l c q.num∧UI B D d e f g (denZ q)∧NumR q:=by
 have a2:=R.bt;refine zl (fn:=Tryz.f43) R4<|Zs ?_;intro h1 p1 x1;refine zG ?_;refine zk _ R5 (tQ (k+4) (m:=19) zd (R.ext x1 hn) (show T.m≤n+1 by omega)) ?_;rintro _ h2 _ w2⟨Z3,rfl,S,a0,r,rfl,a4,a7⟩;have o2:Only T.bt h1 h2:=a0;refine zG ?_;refine sC (nF _ _ _ (r-9) Z) ?_;rintro _ Z1 o⟨b3,a3,l3,c3,rfl,i3⟩ y3 F;have y:Tp Z1 T:=S.ext F (show T.m≤n+1 by omega);refine zG ?_;refine zk _ R5 (tQ (k+4) (m:=4) zd y (show T.m≤o by omega)) ?_;rintro _ h4 o w4⟨Z0,rfl,Z4,A,s,rfl,a8,a9⟩;have o4:Only T.bt Z1 h4:=A;refine zG ?_;refine sC (nF _ _ _ (1+s) Z) ?_;rintro _ h5 n5⟨b5,a5,l5,c5,rfl,i5⟩ y5 u;have a1:=(i3.t (y.tr (n:=o) A)).t ⟨y5,fun c hc=>.inl (u c hc)⟩;refine sC (mR _ a1 i5 (bV Z) (bW Z) Z (q:=Ef (r-9) (1+s)) rfl) ?_;rintro _ P n6⟨I,H,l6,J,K,L,M,N,rfl,i6,j6⟩ y6 G;have q6:P (3*n+2)=_:=(G _ Z).trans ((u _ Z).trans ((o4 _ Z).trans ((F _ Z).trans ((o2 _ Z).trans p1))));refine MY (n0:=n) [Dk I,Y H l6 J,Dk K,Y L M N] q6 ?_;intro i p7 p;rw[wF (show 3*n≤3*n+2 by omega)];have C:∀c,c<3*n→c≠T.bt→i c=h c:=fun c hc j=>(p.1 c Z).trans ((G c Z).trans ((u c Z).trans ((o4 c j).trans ((F c Z).trans ((o2 c j).trans (x1 c hc))))));have V:Tp P T:=(Z4.ext u (show T.m≤o by omega)).ext G (show T.m≤n5 by omega);have W:Tp i T:=V.ext (n:=T.m) (fun c hc=>p.1 c Z) Dh;have i7:UI i n6 I H l6 J (Ef (r-9) (1+s)).num:=i6.t (Il p (FS _ _));have j7:UI i n6 K L M N (denZ (Ef (r-9) (1+s))):=j6.t (Il p (FS _ _));refine zG ?_;refine xu R5 p7 rfl ⟨⟨?_,Z,W,C⟩,_,_,_,_,_,_,_,_,_,rfl,i7,j7,r-9,1+s,Z,Z,Z,Z,rfl⟩;exact xa Z0 (xa Z3 (fun b j=>oU j Ds))
theorem zsl(k:Nat)(ht:Tp h T)(hn:T.m≤n){N:Nat}(hN:N≤1000):CF (KO (k+7)) 12 [Dn (some ⟨T.bt,0,none⟩),U .i64 (N:Int)] h n fun v A F w=>TLeft T h n A F w∧∃a i,v=Y a N N∧O i=N∧(∀q∈i,NumR q)∧NS A F v i∧yh n v:=by
 have a5:=ht.bt;refine zl (fn:=Tryz.f12) R4<|zG ?_;refine sF (α:=Nat×List Rat×Value) (fun z=>[(0,Dn (some ⟨T.bt,0,none⟩)),(1,U .i64 (N:Int)),(5,z.2.2),(6,U .i64 (z.1:Int))])
  (fun z A F w'=>TLeft T h n A F w'∧z.1≤N∧O z.2.1=z.1∧(∀q∈z.2.1,NumR q)∧GR 4 numP n A F 51 z.2.2 z.2.1) (fun z=>N-z.1)
  (0,[],Y none 0 0) ⟨⟨fun b o=>oU o Ds,Dh,ht,ExtT.refl _ _ _⟩,Di,rfl,fun q P=>oU P Ds,al4⟩ ?_
 rintro⟨j,i,v⟩ t h2 H w2 ⟨⟨I,Z4,B,J⟩,hj,S,y,p⟩;dsimp only at S;subst S;dsimp only at Z4 hj y p;obtain⟨M,rfl⟩:=p.shape rfl;refine zG ?_;by_cases qj:(O i:Int)<(N:Int)
 .refine zG ?_;refine zk _ R5 (numX k B (show T.m≤H by omega)) ?_;rintro _ h3 G w3⟨⟨a3,y3,a1,D⟩,b,a,l,c,d,e,f,g,q,rfl,i3,j3,P⟩;have T3:Tr H h2 G h3:=⟨y3,fun c hc=>by
   by_cases o:c=T.bt
   .subst o;obtain⟨a6,e,R,_⟩:=B.row;exact .inr (.row R rfl)
   .exact .inl (D c hc o)⟩
  refine zG ?_;refine Mn [Dk b,Y a l c,Dk d,Y e f g] ?_;intro Z1 p6 u;have g6:GR 4 numP n Z1 (G+1) 51 (Y M (O i) (O i)) i:=(p.go Fi T3 (fun b o=>D b (p.bk b o).2.1 (by have:=(p.bk b o).1;omega))).go Fi ⟨DM _,fun c hc=>.inl (u c hc)⟩ (fun b o=>u b (by have:=(p.bk b o).2.1;omega));have i6:UI Z1 (G+1) b a l c q.num:=i3.t ⟨DM _,fun c hc=>.inl (u c hc)⟩;have j6:UI Z1 (G+1) d e f g (denZ q):=j3.t ⟨DM _,fun c hc=>.inl (u c hc)⟩;refine M0 (n0:=n) [Dk b,Y a l c,Dk d,Y e f g] [q] g6 Fi (.cons (c:=[Dk b,Y a l c,Dk d,Y e f g]) rfl ⟨_,_,_,_,_,_,_,_,rfl,i6,j6⟩ .nil) ⟨rfl,rfl⟩ (yG p6 R2) Dh (by show O i+1<_;omega) Z ?_;intro v7 Z0 Z3 T7 K K7 F7;obtain⟨a7,rfl⟩:=Z3.shape (L:=O i+1) ra;have a2:Tp Z0 T:=(a1.ext u (show T.m≤G by omega)).ext K (show T.m≤n by omega);have a4:∀c,c<3*n→c≠T.bt→Z0 c=h c:=fun c hc o=>(K c Z).trans ((u c Z).trans ((D c Z o).trans (J c hc o)));refine zG ?_;exact sK (O i+1,i++[q],Y a7 (O i+1) (O i+1)) ⟨⟨xa a3 I,Z,a2,a4⟩,by show O i+1≤N;omega,ra,fun q' s=>by
   rcases Ec.1 s with s|s
   .exact y q' s
   .rw[Dx.1 s];exact P,Z3⟩
 have a0:O i=N:=Z;refine zG ?_;subst a0;refine retH [Y M (O i) (O i)] ⟨rfl,(zj rfl),rfl⟩ ⟨⟨I,Z4,B,J⟩,M,i,rfl,rfl,y,?_⟩;obtain⟨C,V,W,_⟩:=p;exact⟨⟨C,V.sl,W⟩,V.fresh⟩
theorem zio(k:Nat){h:HF}{n:Nat}{a:Option Addr}{L cap:Nat}{c:List Rat}(j:NS h n (Y a L cap) c)(f:L≤1000){m:Nat}(i:∀q∈c,Sz m q)(g:m≤3840):
  CX (KO (k+6)) 11 [Y a L cap] h n fun v e l=>∃b,v=Y (some ⟨b,0,none⟩) L L∧3*n≤b∧OT e l b (c.map ratT):=by
 refine zl (fn:=Tryz.f11) R4<|zG ?_;refine sC (Ou k j f i g) ?_;rintro _ p s⟨b,rfl,d,o⟩ w u;refine ZB ?_;exact⟨b,rfl,d,o⟩
noncomputable def LG(p:Sdp)(ys:List Rat):Nat→Nat→Nat→Nat→Rat
 |0,_,_,_=>0
 |m+1,k,i,j=>LG p ys m k i j+yq ys m*KW (eqEs p m) k i j
noncomputable def Li(p:Sdp)(ys:List Rat):Nat→Nat→Rat
 |0,_=>0
 |m+1,t=>Li p ys m t+yq ys m*numOf (eqFr p m t)
theorem zrm(p:Sdp)(ys:List Rat)(m k i j:Nat):LG p ys m k i j+(-1)*KW p.obj k i j=Lh p ys m k i j:=by
 induction m with
 |zero=>show 0+(-1)*KW p.obj k i j=(-1)*KW p.obj k i j;rw[Jj]
 |succ m ih=>
  show LG p ys m k i j+yq ys m*KW (eqEs p m) k i j+(-1)*KW p.obj k i j=Lh p ys m k i j+yq ys m*KW (eqEs p m) k i j;rw[←ih,Hv,aa9 (yq ys m*_),←Hv]
theorem Rf(p:Sdp)(ys:List Rat)(m t:Nat):Li p ys m t-numOf ((p.objFree[t]?).getD [48])=KZ p ys m t:=by
 induction m with
 |zero=>show 0-numOf _= -numOf _;rw[Gk,Jj]
 |succ m ih=>
  show Li p ys m t+yq ys m*numOf (eqFr p m t)-_=KZ p ys m t+yq ys m*numOf (eqFr p m t);rw[←ih,Gk,Gk,Hv,aa9 (yq ys m*_),←Hv]
section
variable {p:Sdp}{ys:List Rat}{K:Nat}(b:SlB p ys K)
include b
theorem SlB.cf(m k i j:Nat):FN (wU ys*2) (K*1024*m) (LG p ys m k i j):=by
 induction m with
 |zero=>exact FN.zero _ _
 |succ m ih=>exact(ih.add (b.pre (b.ef m).1 (b.ef m).2 m k i j)).mono (IH Al)
theorem SlB.nf(m t:Nat):FN (wU ys) (K*2*(m+2)) (Li p ys m t):=by
 have d:=b.ff m t;have c:=b.ff 0 t;have e:Li p ys m t=KZ p ys m t+ -1*KZ p ys 0 t:=by
  rw[←Rf p ys m t];show Li p ys m t=Li p ys m t-numOf ((p.objFree[t]?).getD [48])+ -1* -numOf ((p.objFree[t]?).getD [48]);rw[Rat.neg_mul,Rat.one_mul,Rat.neg_neg,Gk,Hv,Rat.neg_add_cancel,Gh]
 rw[e];have a:=(FN.int (-1) (B:=1) zd).mul c;rw[EM,EM]at a;refine(d.add a).mono (IH ?_);rw[←Nat.mul_add]
end
section
variable {p:Sdp}{ys:List Rat}{K:Nat}(b:SlB p ys K)(hK:K≤2^532)
include b hK
theorem SlB.cz(d:m≤4){E:List Ent}(a:∀e∈E,EntF (dimN p) e)(c:O E≤256)(k i j:Nat):Sz 560 (LG p ys m k i j+yq ys m*KW E k i j):=
 FN.sz (((b.cf m k i j).add (b.pre a c m k i j)).mono (IH Al)) (lh _) (b.D2 hK) (Ma hK (m:=m+1) Z)
theorem SlB.oz(l:m≤4){E:List Ent}(f:∀e∈E,EntF (dimN p) e)(g:O E≤256)(k i j:Nat):Sz 560 (LG p ys m k i j+(-1)*KW E k i j):=by
 have a:=(FN.int (-1) (B:=1) zd).mul ((Nu f k i j).mono (B1:=1024) Z);have c:=a.up (wU ys);have d:FN (wU ys*2) (K*1024) ((-1)*KW E k i j):=by
  refine FN.mono (B:=wU ys*(1*1024)) ?_ (Nat.mul_le_mul b.dl zd);exact c
 exact FN.sz (((b.cf m k i j).add d).mono (IH Al)) (lh _) (b.D2 hK) (Ma hK (m:=m+1) Z)
theorem SlB.nz(a:m≤4)(t:Nat):Sz 560 (Li p ys m t):=FN.sz (b.nf m t) (rh _) (b.D1 hK) (Ma hK (m:=m+2) Z)
end
theorem pU{α β γ:Type}(f:α→β→γ):∀{l:List α} {m:List β} {x:α} {y:β},l[O m]?=some x→Hq f (l.take (O m+1)) (m++[y])=Hq f (l.take (O m)) m++[f x y]:=by
 intro l m x y a;rw[xY a,List.zipWith_append (by rw[DW];have:=(Du.1 a).1;omega)];rfl
theorem zps(k:Nat){R:Option Addr}{T:Nat}{fr:Int}{vO vF vE:Value}{Ns:List Nat}{B:List Int}(hB:Sl h n 1 (Y R (O Ns) T) (i64s B))(a3:∀{j N:Nat},Ns[j]?=some N→B[j]?=some (N:Int))(hN:∀N∈Ns,1≤N∧N≤3)(u:1≤O Ns∧O Ns≤1000)(ab:nu vO=true∧nu vF=true∧nu vE=true)(a9:ones [Y R (O Ns) T,U .i64 fr,vO,vF,vE]=true):
  CX (KO (k+2)) 64 [.agg #[Y R (O Ns) T,U .i64 fr,vO,vF,vE]] h n fun v Z4 Z1=>∃S d i,v=Y (some ⟨S,0,none⟩) (O Ns) (O Ns)∧RMs Z4 Z1 S Ns d i (fun _ _ _=>0)∧(∀b,b=S∨b∈d∨xw i b→3*n≤b):=by
 refine zl (fn:=Tryz.f64) R4<|zG ?_;refine sB [Y R (O Ns) T,U .i64 fr,vO,vF,vE] ?_;intro p p1 x1;refine zG ?_;refine sF (α:=Nat×List Nat×List (List Nat)×Value) (fun z=>[(3,z.2.2.2),(7,Y R (O Ns) T),(8,U .i64 (O Ns:Int)),(9,U .i64 (z.1:Int))])
  (fun z Z4 Z1 w'=>w'=[]∧n+1≤Z1∧Ex0 n h Z4∧GR 1 Le (n+1) Z4 Z1 67 z.2.2.2 (Hq K4 (Ns.take (O z.2.1)) z.2.1)∧O z.2.2.1=O z.2.1∧(∀(k N m:Nat) (l:List Nat),Ns[k]?=some N→z.2.1[k]?=some m→z.2.2.1[k]?=some l→RM Z4 Z1 m N l (fun _ _=>0))∧(∀(k g:Nat) (l q:List Nat),k≠g→z.2.2.1[k]?=some l→z.2.2.1[g]?=some q→∀b∈l,b∉q)∧(∀b,xw z.2.2.1 b→b∉z.2.1)∧(∀b,b∈z.2.1∨xw z.2.2.1 b→3*(n+1)≤b∧b<3*Z1∧¬BkOf z.2.2.2 b)∧O z.2.1=z.1∧z.1≤O Ns) (fun z=>O Ns-z.1)
  (0,[],[],Y none 0 0) ⟨rfl,Dh,⟨x1⟩,al4,rfl,fun k N m l _ h=>(by have h:([]:List Nat)[k]?=some m:=h;simp at h),fun k g l q _ h=>BI,fun b⟨k,l,h,_⟩=>BI,fun b f=>(by
   rcases f with f|⟨k,l,h,_⟩
   .exact oU f Ds
   .have h:([]:List (List Nat))[k]?=some l:=h;simp at h),rfl,Di⟩ ?_
 rintro⟨j,d,i,v⟩ t h2 w _ ⟨rfl,y2,E2,A,l2,m2,d2,o2,y,W,hj⟩;have W:O d=j:=W;subst W;have y2:n+1≤w:=y2;have A:GR 1 Le (n+1) h2 w 67 v (Hq K4 (Ns.take (O d)) d):=A;have l2:O i=O d:=l2;have m2:∀(k N m:Nat) (l:List Nat),Ns[k]?=some N→d[k]?=some m→i[k]?=some l→RM h2 w m N l (fun _ _=>0):=m2;have d2:∀(k g:Nat) (l q:List Nat),k≠g→i[k]?=some l→i[g]?=some q→∀b∈l,b∉q:=d2;have o2:∀b,xw i b→b∉d:=o2;have y:∀b,b∈d∨xw i b→3*(n+1)≤b∧b<3*w∧¬BkOf v b:=y;have hj:O d≤O Ns:=hj;have Z3:(Hq K4 (Ns.take (O d)) d).length=O d:=by rw[Jb,DW];omega
 obtain⟨av,rfl⟩:=A.shape (L:=O d) Z3;refine zG ?_;by_cases qj:(O d:Int)<(O Ns:Int)
 .obtain⟨N,I⟩:∃N,Ns[O d]?=some N:=⟨_,Dm Z⟩;have aa:=hN N (Dq I);refine zG ?_;obtain⟨b5,o5,e5,m5,r5,t5⟩:=kU (hB.ext E2.e (show n≤w by omega)) (a3 I);refine sI e5 r5 ?_;refine sL t5 m5 0 ?_;refine zG ?_;refine sC (Ra _ _ _ (N:=N) Z) ?_;rintro _ h3 G⟨m,l,rfl,m3,f3⟩ y3 x3;refine Mn [K4 N m] ?_;intro h6 p6 x6;have M:KN w h2 h6:=fun c hc=>(x6 c Z).trans (x3 c hc);have m6:=m3.ext x6 zs;have g6:GR 1 Le (n+1) h6 (G+1) 67 (Y av (O d) (O d)) (Hq K4 (Ns.take (O d)) d):=A.go ao4 ⟨Z,fun c hc=>.inl (M c hc)⟩ (fun b f=>M b (A.bk b f).2.1);refine M0 (n0:=n) [K4 N m] [K4 N m] g6 ao4 (.cons (c:=[K4 N m]) rfl R3 .nil) ⟨rfl,rfl⟩ (yG p6 R2) Dh (by rw[Z3];show (O d)+1<_;omega) Z ?_;intro v7 V g7 T7 X7 K7 F7;have g7:GR 1 Le (n+1) V (G+1+1) 67 v7 (Hq K4 (Ns.take (O d+1)) (d++[m])):=g7.as (pU K4 I).symm;obtain⟨a7,rfl⟩:=g7.shape (L:=O d+1) (by rw[Jb,DW,Do];show min _ (O d+1)=_;omega);have a1:∀c,3*w≤c→¬BkOf (Y av (O d) (O d)) c:=fun c hc h=>by have:=(A.bk _ h).2.1;omega
  have a4:∀c,c<3*w→¬BkOf (Y av (O d) (O d)) c→V c=h2 c:=fun c hc hn=>(K7 c Z hn).trans (M c hc);have a2:Tr w h2 (G+1+1) V:=JO ⟨Z,fun c hc=>.inl (M c hc)⟩ T7;have m7:RM V (G+1+1) m N l (fun _ _=>0):=m6.go T7 (fun c hc=>K7 c (by
   rcases hc with rfl|hc
   .exact m6.t.1
   .exact m6.blt hc) (a1 c (f3 c hc)))
  have E7:Ex0 n h V:=⟨fun c hc=>(X7 c Z).trans ((M c Z).trans (E2.e c hc))⟩;have a0:∀{g:Nat} {F:Nat} {q:List Nat} {P:Nat},Ns[g]?=some P→(d++[m])[g]?=some F→(i++[l])[g]?=some q→(g<O d∧d[g]?=some F∧i[g]?=some q)∨(g=O d∧F=m∧q=l∧P=N):=fun {g F q P} h0 p h2=>by
   have u:=(Du.1 p).1;rw[Do]at u;have u:g<O d+1:=u;by_cases s:g<O d
   .rw[En s]at p;rw[En Z]at h2;exact .inl ⟨s,p,h2⟩
   have s:g=O d:=Z;subst s;rw[DL Dh,Ee]at p;rw[DL Z,l2,Ee]at h2;rw[I]at h0;cases h0;cases p;cases h2;exact .inr R4
  have Z0:∀b,xw (i++[l]) b→xw i b∨b∈l:=fun b⟨g,r',p,h2⟩=>by
   have u:=(Du.1 p).1;rw[Do]at u;have u:g<O i+1:=u;by_cases s:g<O i
   .rw[En s]at p;exact .inl ⟨g,r',p,h2⟩
   have s:g=O i:=Z;subst s;rw[DL Dh,Ee]at p;cases p;exact .inr h2
  have J:∀b∈l,3*w≤b∧b<3*(G+1+1):=fun b f=>⟨f3 b (.inr f),by have:=m7.blt f;omega⟩;have ac:3*w≤m∧m<3*(G+1+1):=⟨f3 m (.inl rfl),m7.t.1⟩;have a6:=m7.o;refine zG ?_;refine sK (O d+1,d++[m],i++[l],Y a7 (O d+1) (O d+1)) ⟨rfl,Z,E7,g7.as ra,by rw[Do,Do,l2];rfl,fun g P F q h0 p h2=>?_,fun g k2 r1 r2 a5 p h2 b f D=>?_,fun b f C=>?_,fun b f=>?_,ra,by show O d+1≤_;omega⟩
  .rcases a0 h0 p h2 with⟨_,h4,h5⟩|⟨rfl,rfl,rfl,rfl⟩
   .have mm:=m2 g P F q h0 h4 h5;refine mm.go a2 (fun c hc=>?_);have hf:=y c (by
     rcases hc with rfl|hc
     .exact .inl (Dq h4)
     .exact .inr ⟨g,q,h5,hc⟩)
    exact a4 c hf.2.1 hf.2.2
   exact m7
  .have H:∀(g:Nat) (r:List Nat),(i++[l])[g]?=some r→(g<O i∧i[g]?=some r)∨(g=O i∧r=l):=fun g r p=>by
    have u:=(Du.1 p).1;rw[Do]at u;have u:g<O i+1:=u;by_cases s:g<O i
    .rw[En s]at p;exact .inl ⟨s,p⟩
    have s:g=O i:=Z;subst s;rw[DL Dh,Ee]at p;cases p;exact .inr ⟨rfl,rfl⟩
   rcases H _ _ p with⟨_,g1⟩|⟨e1,rfl⟩
   .rcases H _ _ h2 with⟨_,A⟩|⟨e2,rfl⟩
    .exact d2 _ _ _ _ a5 g1 A b f D
    have:=(y b (.inr ⟨_,_,g1,f⟩)).2.1;have:=(J b D).1;omega
   rcases H _ _ h2 with⟨_,A⟩|⟨e2,rfl⟩
   .have:=(y b (.inr ⟨_,_,A,D⟩)).2.1;have:=(J b f).1;omega
   omega
  .rcases Z0 b f with f|f
   .rcases Ec.1 C with C|C
    .exact o2 b f C
    rw[Dx.1 C]at f;have:=(y m (.inr f)).2.1;omega
   rcases Ec.1 C with C|C
   .have:=(y b (.inl C)).2.1;have:=(J b f).1;omega
   rw[Dx.1 C]at f;exact a6 f
  have D:3*(n+1)≤b∧b<3*(G+1)∧b<3*(G+1+1):=by
   have h9:=m6.t.1;rcases f with f|f
   .rcases Ec.1 f with f|f
    .have:=y b (.inl f);omega
    rw[Dx.1 f];omega
   rcases Z0 b f with f|f
   .have:=y b (.inr f);omega
   have:=J b f;have:=m6.blt f;omega
  exact⟨D.1,D.2.2,fun h=>by have:=F7 b h;omega⟩
 have K:O d=O Ns:=Z;obtain⟨S,eb,hg,a8,o6,_⟩:=A.or Z3 Z;injection eb with eb
 subst eb;rw[K,DO]at o6;have X2:=E2.e;have ad:n≤w:=Z;refine ZB ?_;exact⟨S,d,i,(by rw[K];rfl),⟨o6,fun g N m l a b c=>m2 g N m l a b c,⟨K,l2.trans K⟩,d2,fun b f=>⟨o2 b f,fun e=>(y b (.inr f)).2.2 (e▸⟨_,_,_,rfl⟩)⟩⟩,fun b f=>(by
  rcases f with rfl|f
  .omega
  .have:=(y b f).1;omega)⟩
def bitT(b:Bool):List UInt8:=if b then[49]else[48]
def hasC(L:List Int)(k i j:Nat):Bool:=decide (j<k∧L[j]?=some (i:Int))
def coT(N:Nat)(L:List Int)(k:Nat):List (List UInt8):=(D9 N).flatMap fun i=>(D9 (O L)).map fun j=>bitT (hasC L k i j)
def coM(N:Nat)(L:List Int):Int×Int×List (List UInt8):=if L=[]then(0,0,[])else(N,O L,coT N L (O L))
structure KR (h:HF)(n:Nat)(v:Value)(K:List (List Int)):Prop where
 at_:∃cs:List Value,Sl h n 1 v cs∧O cs=O K∧∀(j:Nat) (L:List Int),K[j]?=some L→∃(a:Option Addr) (c:Nat),cs[j]?=some (Y a (O L) c)∧Sl h n 1 (Y a (O L) c) (i64s L)
def bh(d:Int)(L:List Int)(j:Nat):Prop:=∀i x,i<j→L[i]?=some x→0≤x∧x<d∧∀y,0<i→L[i-1]?=some y→y<x
def bn(B:List Int)(K:List (List Int))(c:Nat):Prop:=∀b L d,b<c→K[b]?=some L→B[b]?=some d→bh d L (O L)
inductive MatR (h:HF) (n:Nat):List Value→List (Int×Int×List (List UInt8))→Prop
 |nil:MatR h n [] []
 |cons {r c:Int} {v:Value} {E:List (List UInt8)} {cs:List Value} {ms:List (Int×Int×List (List UInt8))} (h1:Sl h n 1 v (strs E)) (h2:MatR h n cs ms):MatR h n (U .i64 r:: U .i64 c::v::cs) ((r,c,E)::ms)
theorem MatR.len{a:List (Int×Int×List (List UInt8))}(e:MatR h n cs a):O cs=O a*3:=by
 induction e with
 |nil=>rfl
 |cons h1 h2 ih=>simp[ih];omega
structure MI (h:HF)(n lo bF:Nat)(ty:TypeId)(vM:Value)(ce:List Value)(ms:List (Int×Int×List (List UInt8))):Prop where
 gro:Gro h lo n ty 3 vM (O ms) ce
 mat:MatR h n ce ms
 los:∀v∈ce,Pt (fun b=>3*lo≤b) v
 ne:∀v∈ce,∀b o l c,vM=Y (some ⟨b,o,none⟩) l c→Pt (fun b'=>b'≠b) v
 cell:∃e,h bF=some (.row [vM] e)
def mats(B:List Int)(K:List (List Int))(c:Nat):List (Int×Int×List (List UInt8)):=(D9 c).map fun b=>coM ((B[b]?).getD 0).toNat ((K[b]?).getD [])
section
variable {i:Nat}{a:Tmp}
end
structure FcP (B:List Int)(K:List (List Int))(h':HF)(n':Nat)(vM:Value)(e:Int):Prop where
 sh:O K≠O B→e=4∧vM=Y none 0 0
 rg:O K=O B→¬bn B K (O K)→e=3∧vM=Y none 0 0
 ok:O K=O B→bn B K (O K)→e=0∧∃ce,Sl h' n' 3 vM ce∧MatR h' n' ce (mats B K (O K))
def bitC(o:Option (Value×Value)):List Value:=match o with|none=>[Dk false,Y none 0 0,Dk false,Y none 0 0]|some (a,b)=>[a,b,Dk false,Y none 0 0]
def rowC(L:List Int)(os:List (Value×Value))(i:Nat):List Value:=(D9 (O L)).flatMap fun c=>bitC (if L[c]?=some (i:Int)then os[c]? else none)
def zsd(m N K:Nat):List Value:=(D9 N).map fun i=>Y (some ⟨3*(m+i)+2,0,none⟩) K K
structure RMat (h:HF)(n:Nat)(v:Value)(N:Nat)(L:List Int):Prop where
 ex:∃(m:Nat) (os:List (Value×Value)),v=Y (some ⟨3*m+2,0,none⟩) N N∧m+1+N≤n∧(∃e,h (3*m+2)=some (.row (zsd (m+1) N (O L)) e))∧(∀i,i<N→∃e,h (3*(m+1+i)+2)=some (.row (rowC L os i) e))∧O os=O L∧∀o∈os,∃ln,RatR h n o.1 o.2 (Dk false) (Y none 0 0) ((1:Int):Rat) ln []∧O ln≤2
section
variable {v:Value}
end
theorem MatR.at{d:List (Int×Int×List (List UInt8))}(e:MatR h n ce d):∀{j:Nat} {m:Int×Int×List (List UInt8)},d[j]?=some m→∃a l c,(ce.drop (j*3)).take 3=[U .i64 m.1,U .i64 m.2.1,Y a l c]∧Sl h n 1 (Y a l c) (strs m.2.2):=by
 induction e with
 |nil=>intro j m h;simp at h
 |cons h1 h2 ih=>
  intro j m b;cases j with
  |zero=>
   simp only[List.getElem?_cons_zero,HR]at b;subst b;obtain⟨a,l,c,rfl,_⟩:=h1.len;exact⟨a,l,c,rfl,h1⟩
  |succ j=>
   rw[Gq]at b;obtain⟨a,l,c,f,g⟩:=ih b;exact⟨a,l,c,by rw[Fb];exact f,g⟩
theorem zb2(k:Nat){r c:Int}{E:List (List UInt8)}(g:Sl h n 1 (Y a1 l1 c1) (strs E))(i:Sl h n 1 (Y a2 l2 c2) (strs E))(f:O E<1000000):VF (KO (k+2)) 55 [.agg #[U .i64 r,U .i64 c,Y a1 l1 c1],.agg #[U .i64 r,U .i64 c,Y a2 l2 c2]] h n fun v=>v=Dk true:=by
 refine zB (fn:=Tryz.f55) R4<|zN ?_;refine xV (cs:=[U .i64 r,U .i64 c,Y a1 l1 c1]) R5<|xV (cs:=[U .i64 r,U .i64 c,Y a2 l2 c2]) R5 ?_;generalize hh:upd (upd h (3*n+2) _) (3*(n+1)+2) _=h1;have e:KN n h h1:=fun b f=>by rw[←hh,zg Z,zg Z]
 have a:∃ty,h1 (3*n+2)=some (.row [U .i64 r,U .i64 c,Y a1 l1 c1] ty):=⟨_,AC⟩;have d:∃ty,h1 (3*(n+1)+2)=some (.row [U .i64 r,U .i64 c,Y a2 l2 c2] ty):=⟨_,kz⟩;obtain⟨j,a⟩:=a;obtain⟨l,d⟩:=d;refine Zj ?_;refine zi R6 a (v:=U .i64 r) R2 ?_;repeat refine zR ?_
 refine zi R6 d (v:=U .i64 r) R2 ?_;repeat refine zR ?_
 refine zi R6 a (v:=U .i64 c) R2 ?_;repeat refine zR ?_
 refine zi R6 d (v:=U .i64 c) R2 ?_;repeat refine zR ?_
 refine zi R6 a (v:=Y a1 l1 c1) R2 ?_;repeat refine zR ?_
 refine zi R6 d (v:=Y a2 l2 c2) R2<|ye _ R5 (qb k (g.ext e (show n≤n+1+1 by omega)) (i.ext e (show n≤n+1+1 by omega)) f) ?_;rintro _ rfl;refine Zb ?_;exact B4
theorem eJ(k:Nat){v1 v2:Value}{b d:List Value}{a:List (Int×Int×List (List UInt8))}(g:Sl h n 3 v1 b)(D:MatR h n b a)(i:Sl h n 3 v2 d)(F:MatR h n d a)(hl:O a<1000)(L:∀m∈a,O m.2.2<1000000):VF (KO (k+3)) 18 [v1,v2] h n fun v=>v=Dk true:=by
 refine zB (fn:=Tryz.f18) R4 ?_;obtain⟨a1,l1,c1,rfl,_⟩:=g.len;obtain⟨a2,l2,c2,rfl,_⟩:=i.len;have I:=g.lenEq (m:=O a) Z D.len;have J:=i.lenEq (m:=O a) Z F.len;subst I J;refine Zc ?_;refine Zm ?_;refine zK (α:=Nat) (fun j=>[(0,Y a1 (O a) c1),(1,Y a2 (O a) c2),(12,U .i64 (O a:Int)),(13,U .i64 (j:Int))]) (fun j K Z1 w=>h=K∧n=Z1∧w=[]∧j≤O a) (fun j=>O a-j) 0 V4 ⟨rfl,rfl,rfl,Di⟩ (by show O a-0<LL;unfold LL;omega) ?_;rintro j t _ _ _⟨rfl,rfl,rfl,hj⟩;refine zN ?_;by_cases hjL:j=O a
 .refine Zm ?_;exact B4
 obtain⟨x,f⟩:∃x,a[j]?=some x:=⟨a[j]'Z,Dm Z⟩;obtain⟨r,c,E⟩:=x;have q:=L _ (Dq f);obtain⟨b1,o1,x1,W,rfl,Z0,B,s,_,M,y⟩:=g.inv Z;obtain⟨b2,o2,x2,Z3,rfl,a0,C,u,_,N,A⟩:=i.inv Z;obtain⟨P,S,Z4,l,G⟩:=D.at f;obtain⟨R,T,V,p,H⟩:=F.at f;simp only at l G p H q;have e:∀{ce cs:List Value} {o:Nat},(cs.drop o).take (O a*3)=ce→(cs.drop (o+j*3)).take 3=(ce.drop (j*3)).take 3:=fun h=>by
  have h2:j*3+3≤O a*3:=Z;rw[←h,List.drop_take,ES,List.take_take,Nat.min_eq_left Z]
 refine Zo ?_;refine zn [0,0,3,7,0,0,48,112,255,511] rfl ?_;repeat refine zE ?_
 refine mY R8 Z<|zS (v:=.agg #[U .i64 r,U .i64 c,Y P S Z4]) R6 (zF R2 B s eN (by simp only[Ez];exact(e y).trans l)) R2 ?_;repeat refine zE ?_
 refine mY R8 Z<|zS (v:=.agg #[U .i64 r,U .i64 c,Y R T V]) R6 (zF R2 C u eN (by simp only[Ez];exact(e A).trans p)) R2 ?_;refine yy _ R7 (zb2 k (r:=r) (c:=c) G H q) ?_;rintro _ _ _ _⟨rfl,rfl,rfl,rfl⟩;refine⟨wa,Dh,?_⟩;repeat refine zE ?_
 refine zN ?_;rw[za rfl];refine Zc ?_;exact goOn (j+1) (by show O a-(j+1)<O a-j;omega) V4 ⟨rfl,rfl,rfl,by show j+1≤O a;omega⟩
theorem zsi(k:Nat){T:Nat}{Ns a6:List Nat}{a5:List (List Nat)}{M:Nat→Nat→Nat→Rat}(m:RMs h n T Ns a6 a5 M)(hN:∀N∈Ns,1≤N∧N≤3)(hl:1≤O Ns∧O Ns≤1000){P:Nat}(hz:∀k i j,Sz P (M k i j))(hP:P≤3840):
  CX (KO (k+7)) 54 [Y (some ⟨T,0,none⟩) (O Ns) (O Ns)] h n fun v C H=>∃b a,v=Y (some ⟨b,0,none⟩) (O Ns) (O Ns)∧O a=O Ns∧MS C H v (Lk Ns a) M∧3*n≤b∧∀y∈a,3*n≤y:=by
 refine zl (fn:=Tryz.f54) R4<|zG ?_;refine sF (α:=Nat×List Nat×Value) (fun z=>[(3,z.2.2),(6,Y (some ⟨T,0,none⟩) (O Ns) (O Ns)),(7,U .i64 (O Ns:Int)),(8,U .i64 (z.1:Int))])
  (fun z C H w'=>w'=[]∧n≤H∧Ex0 n h C∧GR 3 Ll n C H 70 z.2.2 (Lk (Ns.take (O z.2.1)) z.2.1)∧(∀(k N b:Nat),Ns[k]?=some N→z.2.1[k]?=some b→OT C H b ((tabL N (M k)).map ratT)∧¬BkOf z.2.2 b)∧(∀b∈z.2.1,3*n≤b)∧O z.2.1=z.1∧z.1≤O Ns) (fun z=>O Ns-z.1)
  (0,[],Y none 0 0) ⟨rfl,Dh,⟨FU _ _⟩,al4,fun k N b _ h=>(by have h:([]:List Nat)[k]?=some b:=h;simp at h),fun b l=>oU l Ds,rfl,Di⟩ ?_
 rintro⟨j,a,v⟩ t h2 A _ ⟨rfl,y2,R,q,Z1,I,Z3,hj⟩;have Z3:O a=j:=Z3;subst Z3;have y2:n≤A:=y2;have I:∀b∈a,3*n≤b:=I;have hj:O a≤O Ns:=hj;have q:GR 3 Ll n h2 A 70 v (Lk (Ns.take (O a)) a):=q;have Z1:∀(k N b:Nat),Ns[k]?=some N→a[k]?=some b→OT h2 A b ((tabL N (M k)).map ratT)∧¬BkOf v b:=Z1;have G:(Lk (Ns.take (O a)) a).length=O a:=by rw[sO q0,DW];omega
 obtain⟨av,rfl⟩:=q.shape (L:=O a) G;refine zG ?_;by_cases qj:(O a:Int)<(O Ns:Int)
 .obtain⟨N,o⟩:∃N,Ns[O a]?=some N:=⟨_,Dm Z⟩;have a1:=hN N (Dq o);have Z0:=m.ext R.e y2;obtain⟨tb,rb,a4,a9,rm⟩:=Z0.get o;refine zG ?_;refine sI (j:=O a) (len:=O Ns) rfl Z ?_;refine sL (Z0.tab o a4) Z0.s.1 0 ?_;refine zG ?_;refine sC (zo (k+0) rm.rd a1 (fun i j _ _=>hz (O a) i j) hP) ?_;rintro _ h3 K⟨f,rfl,f3,o3⟩ y3 x3;refine Mn [U .i64 (N:Int),U .i64 (N:Int),Y (some ⟨f,0,none⟩) (N*N) (N*N)] ?_;intro h6 p6 x6;have w:KN A h2 h6:=fun c hc=>(x6 c Z).trans (x3 c hc);have B:=o3.ext Ib x6 zs;have g6:GR 3 Ll n h6 (K+1) 70 (Y av (O a) (O a)) (Lk (Ns.take (O a)) a):=q.go Ll.kp ⟨Z,fun c hc=>.inl (w c hc)⟩ (fun b l=>w b (q.bk b l).2.1);refine M0 (n0:=n) [U .i64 (N:Int),U .i64 (N:Int),Y (some ⟨f,0,none⟩) (N*N) (N*N)] [⟨N,some ⟨f,0,none⟩,N*N⟩] g6 Ll.kp (.cons (c:=[U .i64 (N:Int),U .i64 (N:Int),Y (some ⟨f,0,none⟩) (N*N) (N*N)]) rfl rfl .nil) ⟨rfl,rfl⟩ (yG p6 R2) Dh (by rw[G];show (O a)+1<_;omega) Z ?_;intro v7 D J S X7 K7 F7;have J:GR 3 Ll n D (K+1+1) 70 v7 (Lk (Ns.take (O a+1)) (a++[f])):=J.as (pU (fun N b=>(⟨N,some ⟨b,0,none⟩,N*N⟩:MD)) o).symm;obtain⟨a7,rfl⟩:=J.shape (L:=O a+1) (by rw[sO (by rw[DW,Do];show (O a)+1=_;omega),DW];omega);have a3:∀c,c<3*A→¬BkOf (Y av (O a) (O a)) c→D c=h2 c:=fun c hc hn=>(K7 c Z hn).trans (w c hc);have a0:Tr A h2 (K+1+1) D:=JO ⟨Z,fun c hc=>.inl (w c hc)⟩ S;have o7:OT D (K+1+1) f ((tabL N (M (O a))).map ratT):=B.go Ib S (K7 f B.1 (fun h=>by have:=(q.bk _ h).2.1;omega));have E7:Ex0 n h D:=⟨fun c hc=>(X7 c Z).trans ((w c Z).trans (R.e c hc))⟩;have a8:=B.1;refine zG ?_;refine sK (O a+1,a++[f],Y a7 (O a+1) (O a+1)) ⟨rfl,Z,E7,J.as ra,fun u N' y h0 g=>?_,fun b l=>(by
   rcases Ec.1 l with l|l
   .exact I b l
   .rw[Dx.1 l];omega),ra,by show O a+1≤_;omega⟩
  have g:(a++[f])[u]?=some y:=g;have F:=(Du.1 g).1;rw[Do]at F;have F:u<O a+1:=F;by_cases V:u<O a
  .rw[En V]at g;obtain⟨u1,u2⟩:=Z1 u N' y h0 g;have a2:=u1.1;exact⟨u1.go Ib a0 (a3 y a2 u2),fun h=>by have:=F7 y h;omega⟩
  have V:u=O a:=Z;subst V;rw[DL Dh,Ee]at g;rw[o]at h0;cases h0;cases g;exact⟨o7,fun h=>by have:=F7 f h;omega⟩
 have p:O a=O Ns:=Z;obtain⟨bm,Z4,hg,W,B,_⟩:=q.or G Z;injection Z4 with Z4
 subst Z4;rw[p,DO]at B;have X2:=R.e;refine ZB ?_;refine⟨bm,a,AM,p,?_,W,I⟩;rw[p];refine⟨OR.sl B (sO p).symm Dh,fun u d hd=>?_⟩;obtain⟨N,b,g,h2,rfl⟩:=pE hd;exact ar8 (Z1 u N b g h2).1 BO Dh
theorem MS.keep{h h':HF}{n f L cap:Nat}{Ns bs:List Nat}{M:Nat→Nat→Nat→Rat}(m:MS h n (Y (some ⟨f,0,none⟩) L cap) (Lk Ns bs) M)(o:h' f=h f)(p:∀b∈bs,h' b=h b):MS h' n (Y (some ⟨f,0,none⟩) L cap) (Lk Ns bs) M:=by
 obtain⟨⟨C,s,q⟩,t⟩:=m;refine⟨⟨C,s.keep (fun a l c e=>by cases e;exact o) Dh,q⟩,fun k d g=>?_⟩;have i:=t k d g;obtain⟨N,b,u,j,rfl⟩:=pE g;exact i.keep (fun a l c e=>by cases e;exact p b (Dq j)) Dh
noncomputable def LW(M:Nat→Nat→Nat→Rat):Nat→List MD→List (Int×Int×List (List UInt8))
 |_,[]=>[]
 |k,d::ds=>((d.n:Int),(d.n:Int),(tabL d.n (M k)).map ratT)::LW M (k+1) ds
theorem zn0(M:Nat→Nat→Nat→Rat):∀(a:List MD) (k:Nat),O (LW M k a)=O a:=by
 intro a;induction a with
 |nil=>intro k;rfl
 |cons d a ih=>intro k;show(LW M (k+1) a).length+1=O a+1;rw[ih]
theorem zny{M:Nat→Nat→Nat→Rat}:∀{a:List MD} {k:Nat} {m:Int×Int×List (List UInt8)},m∈LW M k a→∃d∈a,O m.2.2=d.n*d.n:=by
 intro a;induction a with
 |nil=>intro k m h;cases h
 |cons d a ih=>
  intro k m h;rcases DR.1 h with rfl|h
  .exact⟨d,Fj,BO⟩
  obtain⟨b,c,e⟩:=ih h;exact⟨b,Fm _ c,e⟩
theorem znz{M:Nat→Nat→Nat→Rat}:∀{a d e:List Nat} (k:Nat),O d=O a→O e=O a→LW M k (Lk a d)=LW M k (Lk a e):=by
 intro a;induction a with
 |nil=>intro d e k _ _;rfl
 |cons N a ih=>
  intro d e k f g;cases d with
  |nil=>cases f
  |cons b d=>
   cases e with
   |nil=>cases g
   |cons c e=>
    show(_::LW M (k+1) (Lk a d))=(_::LW M (k+1) (Lk a e));rw[ih (k+1) (al5 f) (al5 g)]
theorem MS.matR{h:HF}{n:Nat}{v:Value}{b:List MD}{M:Nat→Nat→Nat→Rat}(m:MS h n v b M):∃ce,Sl h n 3 v ce∧MatR h n ce (LW M 0 b):=by
 obtain⟨C,s,q⟩:=m.r;refine⟨C,s,?_⟩;have j:∀(l:List MD) (C:List Value) (o:Nat),Rec 3 (fun c d=>Ll c d h n) C l→(∀(i:Nat) (d:MD),l[i]?=some d→Sl h n 1 (Y d.a (d.n*d.n) d.c) (strs ((tabL d.n (M (o+i))).map ratT)))→MatR h n C (LW M o l):=by
  intro l;induction l with
  |nil=>intro C o r _;cases r;exact .nil
  |cons d l ih=>
   intro C o r g;cases r with
   | @cons c cs d b hl f hr2=>
    have f:c=_:=f;subst f;exact .cons (g 0 d rfl) (ih _ _ hr2 fun i p e=>by have:=g (i+1) p (by rw[Gq];exact e);rwa [show o+(i+1)=o+1+i by omega]at this)
 exact j b C 0 q fun i d e=>by rw[Nat.zero_add];exact m.t i d e
section
variable {b:Nat}
def Box4(h:HF)(n b:Nat)(q:Rat):Prop:=b<3*n∧∃s a l c s2 a2 l2 c2 e,h b=some (.row [Dk s,Y a l c,Dk s2,Y a2 l2 c2] e)∧UI h n s a l c q.num∧UI h n s2 a2 l2 c2 (denZ q)
theorem Box4.go{h:HF}{n:Nat}(x:Box4 h n b q)(t:Tr n h n' h')(e:h' b=h b):Box4 h' n' b q:=by
 obtain⟨u,s,a,l,c,o,d,m,f,p,g,i,j⟩:=x;exact⟨BN,s,a,l,c,o,d,m,f,p,e.trans g,i.t t,j.t t⟩
theorem Box4.ext{h:HF}{n:Nat}(x:Box4 h n b q)(e:KN n h h')(d:n≤n'):Box4 h' n' b q:=x.go ⟨d,fun c a=>.inl (e c a)⟩ (e b x.1)
theorem Rg{f:Nat}{g:Nat→Rat}{a:List Rat}(d:O a=f)(h:∀t,t<f→a[t]?=some (g t)):a=(D9 f).map g:=by
 refine Fh fun t=>?_;by_cases ht:t<f
 .rw[h t ht,DB,Et ht];rfl
 rw[DS Z,DS tv]
theorem zss(k:Nat){p:Sdp}{aO aF:Option Addr}{lB lO cO lF cF:Nat}(hF:F≤100)(hp:SdpR h n (Y aB lB cB) (Y aO lO cO) (Y aF lF cF) (Y aE lE cE) p)(hok:SdpOk F least p)(iy:NS h n (Y aY lY cY) ys)(eo:O ys=O p.eqs)(b:SlB p ys K)(hK:K≤2^532):
  CX (KO (k+9)) 25 [.agg #[Y aB lB cB,U .i64 (p.free:Int),Y aO lO cO,Y aF lF cF,Y aE lE cE],Y aY lY cY] h n fun v h' n'=>∃C o f g s a l c s2 a2 l2 c2,v=.tuple #[Y (some ⟨C,0,none⟩) (O (dimN p)) (O (dimN p)),Y (some ⟨g,0,none⟩) p.free p.free,.agg #[Dk s,Y a l c,Dk s2,Y a2 l2 c2]]∧RMs h' n' C (dimN p) o f (LG p ys (O p.eqs))∧OR 4 numP h' n' g ((D9 p.free).map (Li p ys (O p.eqs)))∧UI h' n' s a l c (Lg p ys (O p.eqs)).num∧UI h' n' s2 a2 l2 c2 (denZ (Lg p ys (O p.eqs)))∧(∀x,xw f x→3*n≤x)∧3*n≤g∧g≠C∧g∉o∧¬xw f g:=by
 have e7:=iy.len;have eu:=hok.bl;have ew:=hok.free;have ev:=hok.eql;have c9:O (dimN p)=O p.blocks:=by unfold dimN;rw[DC]
 have e4:lB=O (dimN p):=by rw[c9];exact hp.blocks.lenEq Z AH
 have e6:lF=p.free:=by rw[wo hp.objFree];exact hok.ofl
 have e5:lE=O p.eqs:=by
  obtain⟨ce,hE,bh⟩:=hp.eqs;exact hE.lenEq Z bh.len
 subst e4 e6 e5 e7;obtain⟨u,ab⟩:∃u,u=dimN p:=⟨_,rfl⟩;have c7:∀N∈u,1≤N∧N≤3:=fun N hN=>by
  rw[ab]at hN;exact Co
 have dr:∀{j N:Nat},u[j]?=some N→p.blocks[j]?=some (N:Int):=fun {j N} hj=>by
  rw[ab]at hj;unfold dimN at hj;rw[DB]at hj;cases hb:p.blocks[j]? with
  |none=>rw[hb]at hj;cases hj
  |some d=>
   rw[hb]at hj;have:=hok.b3 d (Dq hb);have hj:d.toNat=N:=ET hj;rw[show(N:Int)=d by omega]
 rw[←ab];rw[←ab]at c9 hp;have cv:ones [Y aB (O u) cB,U .i64 (p.free:Int),Y aO lO cO,Y aF p.free cF,Y aE (O p.eqs) cE]=true:=rfl;refine zl (fn:=Tryz.f25) R4<|zG ?_;refine sB [Y aB (O u) cB,U .i64 (p.free:Int),Y aO lO cO,Y aF p.free cF,Y aE (O p.eqs) cE] ?_;intro h1 p1 x1;refine Zs ?_;intro h2 p2 x2;refine zG ?_;obtain⟨z2,q2⟩:∃e,h2 (3*n+2)=some (.row [Y aB (O u) cB,U .i64 (p.free:Int),Y aO lO cO,Y aF p.free cF,Y aE (O p.eqs) cE] e):=⟨_,zp⟩;have am:KN n h h2:=(zx:Tx n h (n+1+1) h2).2;have cb:=hp.ext0 am (show n≤n+1+1 by omega);refine sC (zps (k+6) (Ns:=u) cb.blocks dr c7 Z R3 cv) ?_;rintro _ h3 n3⟨C,o,f,rfl,m3,f3⟩ y3 x3;refine zG ?_;refine LV (L:=p.free) [Dk false,Y none 0 0,Dk false,Y none 0 0] ?_ Z;intro h4 p4 x4;have o4:OR 4 numP h4 (n3+1) (3*n3+2) (Dp p.free 0):=OR.fill Z p4 Fi ⟨_,_,_,_,_,_,_,_,rfl,ab9 _ _,ab9 _ _⟩;obtain⟨g,c8⟩:∃b,b=3*n3+2:=⟨_,rfl⟩;rw[←c8]at o4⊢;refine Zs ?_;intro h5 p5 x5;have m5:RMs h5 (n3+1+1) C u o f (fun _ _ _=>0):=m3.ext (fun c hc=>(x5 c Z).trans (x4 c hc)) Z;have o5:OR 4 numP h5 (n3+1+1) g (Dp p.free 0):=o4.ext Fi x5 zs;obtain⟨H,bj⟩:∃b,b=3*(n3+1)+2:=⟨_,rfl⟩;have r5:Box4 h5 (n3+1+1) H 0:=⟨Z,_,_,_,_,_,_,_,_,_,bj▸p5,ab9 _ _,ab9 _ _⟩;have X5:KN (n+1+1) h2 h5:=fun c hc=>(x5 c Z).trans ((x4 c Z).trans (x3 c hc));have E5:Ex0 n h h5:=⟨fun c hc=>(X5 c Z).trans (am c hc)⟩;have Q5:h5 (3*n+2)=_:=(X5 _ Z).trans q2;obtain⟨zRx,Z5⟩:∃e,h5 (3*(n+1)+2)=some (.row [Dk false,Y none 0 0,Dk false,Y none 0 0] e):=⟨_,(X5 _ Z).trans p2⟩;rw[←bj];have T:∀c,c=C∨c∈o∨xw f c→c<3*n3:=fun c hc=>by
  rcases hc with rfl|hc|hc
  .exact m3.s.1
  .exact m3.tlt hc
  exact m3.rlt hc
 have c6:g≠C∧g∉o∧¬xw f g:=⟨fun e=>by have:=T _ (.inl e);omega,fun e=>by have:=T _ (.inr (.inl e));omega,fun e=>by have:=T _ (.inr (.inr e));omega⟩;have ds:∀c,c=C∨c∈o∨xw f c→c≠H:=fun c hc=>by have:=T c hc;omega
 have en:3*n3≤g∧g<3*(n3+1):=Z;have ct:3*(n3+1)≤H∧H<3*(n3+1+1):=Z;have f1:n+1+1≤n3:=y3;have dl:∀x,x=C∨x∈o∨xw f x→3*(n+1+1)≤x:=f3;have a9:∀x,xw f x→3*(n+1+1)≤x:=fun x hx=>f3 x (.inr (.inr hx));obtain⟨lo,du⟩:∃lo,lo=n3+1+1:=⟨_,rfl⟩;rw[←du]at o5 r5 m5 ct⊢;have e0:Lg p ys 0=0:=rfl;refine zG ?_;refine sF (α:=Nat×List Rat) (fun z=>[(1,Y aY (O ys) cY),(2,Dn (some ⟨3*n+2,0,none⟩)),(6,Dn (some ⟨3*(n+1)+2,0,none⟩)),(7,Y (some ⟨C,0,none⟩) (O u) (O u)),(8,Y (some ⟨g,0,none⟩) p.free p.free),(9,Dn (some ⟨H,0,none⟩)),(19,Y aE (O p.eqs) cE),(20,U .i64 (O p.eqs:Int)),(21,U .i64 (z.1:Int))])
  (fun z h' n' w'=>w'=[]∧lo≤n'∧Ex0 n h h'∧h' (3*n+2)=some (.row [Y aB (O u) cB,U .i64 (p.free:Int),Y aO lO cO,Y aF p.free cF,Y aE (O p.eqs) cE] z2)∧h' (3*(n+1)+2)=some (.row [Dk false,Y none 0 0,Dk false,Y none 0 0] zRx)∧RMs h' n' C u o f (LG p ys z.1)∧OR 4 numP h' n' g z.2∧O z.2=p.free∧(∀t,t<p.free→z.2[t]?=some (Li p ys z.1 t))∧Box4 h' n' H (Lg p ys z.1)∧z.1≤O p.eqs)
  (fun z=>O p.eqs-z.1) (0,Dp p.free 0) ⟨rfl,Dh,E5,Q5,Z5,m5.as (fun _ _ _=>rfl),o5,DV,fun t ht=>(by rw[List.getElem?_replicate,De ht];rfl),r5,Di⟩ ?_
 rintro⟨i,Z1⟩ t h8 D _ ⟨rfl,y8,E8,q8,z8,m8,o8,l8,f8,r8,hi⟩;have y8:lo≤D:=y8;have o8:OR 4 numP h8 D g Z1:=o8;have l8:O Z1=p.free:=l8;have f8:∀t,t<p.free→Z1[t]?=some (Li p ys i t):=f8;have m8:RMs h8 D C u o f (LG p ys i):=m8;have r8:Box4 h8 D H (Lg p ys i):=r8;have hi:i≤O p.eqs:=hi;refine zG ?_;by_cases qi:(i:Int)<(O p.eqs:Int)
 .obtain⟨q,hq⟩:∃q,p.eqs[i]?=some q:=⟨_,Dm Z⟩;have ax:=Dq hq;obtain⟨y,hy⟩:∃y,ys[i]?=some y:=⟨_,Dm Z⟩;have ac:yq ys i=y:=by unfold yq;rw[hy];rfl
  have a3:=b.yz i;rw[ac]at a3;have a0:=b.ef i;have ca:eqEs p i=q.es:=by unfold eqEs;rw[hq];rfl
  rw[ca]at a0;obtain⟨xr,ex,ey,bk⟩:=(hok.eqo q ax).2.2.2.2;have dv:numOf (eqRh p i)=(xr:Rat):=by
   unfold eqRh;rw[hq];show numOf q.rhs=_;rw[bk];exact zT _
  have cc:O q.rhs<500:=by
   rw[bk];refine rI ⟨?_,?_⟩
   .rw[GU];show xr.natAbs<2^600;exact Nt 3 600 Z zd
   rw[Hc];exact Nt 1 600 zd zd
  have cr:Sz 3 (xr:Rat):=by
   refine⟨?_,?_⟩
   .rw[GU];show xr.natAbs<8;omega
   rw[Hc];decide
  obtain⟨ce,hE,bh⟩:=hp.eqs;obtain⟨ve,vf,ec,s1,s2⟩:=bh.get hq;obtain⟨a1,l1,c1,rfl,cd⟩:=s1.len;obtain⟨a2,l2,c2,rfl,cf⟩:=s2.len;have cd:l1=O q.es:=s1.lenEq (by have:=a0.2;omega) (wD _);have cf:l2=p.free:=by rw[wo s2];exact(hok.eqo q ax).2.2.1
  subst cd cf;refine zG ?_;obtain⟨b9,o9,e9,e8,r9,t9⟩:=nk (hE.ext E8.e (show n≤D by omega)) ec rfl zd;refine sI e9 r9 ?_;refine sL t9 e8 0 ?_;refine sA ?_;intro er ee ek;refine zG ?_;refine sS [Y a1 (O q.es) c1,Y a2 p.free c2,Dl ⟨⟨q.rhs⟩⟩] ?_;intro au ck ed;have W:KN D h8 au:=(zx:Tx D h8 (D+1) au).2;have cg:=m8.ext W zs;have aq:Ex0 n h au:=⟨fun c hc=>(W c Z).trans (E8.e c hc)⟩;have ap:OR 4 numP au (D+1) g Z1:=o8.ext Fi W zs;have bv:=r8.ext W zs;have cn:=(W _ Z).trans q8;have z11:=(W _ Z).trans z8;obtain⟨dz,ei,d4,d1,e1,d7,da,dd,di,ej,a6,az,b1,aj,a4,a5⟩:=NS.at (iy.ext aq.e (show n≤D+1 by omega)) hy;refine zG ?_;refine zn [0,0,0,6,14,0,32,127] rfl<|zH ?_;refine dI (j:=i) a6 b1 ?_;refine dL aj az 0 ?_;refine zH ?_;refine yy _ R7 (Re (k+0) cg a4 a5 c7 (s1.ext aq.e (show n≤D+1 by omega)) (fun ad e hb=>by
   have h1:=s1.below;subst e;have h1:ad.block<3*n:=h1;have:=a9 _ hb;omega) (fun e he=>ab▸a0.1 e he) (by have:=a0.2;omega) (a3.mono zd) (fun P Q e k' i' j'=>by
    have:=b.cz hK (m:=i) Z (E:=P) (fun x hx=>a0.1 x Ap) (by have:=a0.2;rw[e,Do]at this;omega) k' i' j';rw[ac]at this;exact this.mono zd)) ?_
  rintro _ aa ai f0⟨el,Z3,a7,b0,cw⟩;refine⟨rfl,el,?_⟩;rw[qf,zZ (fun c hc=>by have:=a9 c (cw c hc);omega)];rw[uO];have b0:RMs aa ai C u o f (LG p ys (i+1)):=b0.as (fun k' i' j'=>by show LG p ys i k' i' j'+y*KW q.es k' i' j'=LG p ys i k' i' j'+yq ys i*KW (eqEs p i) k' i' j';rw[ca,ac]);have c5:Ex0 n h aa:=⟨fun c hc=>(Z3 c Z (fun hb=>by have:=a9 c hb;omega)).trans (aq.e c hc)⟩;have nr:∀c,c<3*(n+1+1)→¬xw f c:=fun c hc hb=>by have:=a9 c hb;omega
  have ci:∀c,3*n3≤c→¬xw f c:=fun c hc hb=>by have:=T c (.inr (.inr hb));omega
  have co:=(Z3 _ Z (nr _ Z)).trans cn;have z13:=(Z3 _ Z (nr _ Z)).trans z11;have bt:aa (3*D+2)=_:=(Z3 (3*D+2) Z (ci _ Z)).trans ck;have cj:OR 4 numP aa ai g Z1:=ap.go Fi a7 (Z3 g ap.1 c6.2.2);have cq:Box4 aa ai H (Lg p ys i):=bv.go a7 (Z3 H bv.1 (ci _ Z));have dx:=a4.t a7;have dy:=a5.t a7;refine zG ?_;refine sF (α:=Nat×List Rat) (fun z=>[(1,Y aY (O ys) cY),(2,Dn (some ⟨3*n+2,0,none⟩)),(6,Dn (some ⟨3*(n+1)+2,0,none⟩)),(7,Y (some ⟨C,0,none⟩) (O u) (O u)),(8,Y (some ⟨g,0,none⟩) p.free p.free),(9,Dn (some ⟨H,0,none⟩)),(10,U .i64 (i:Int)),(11,Dn (some ⟨3*D+2,0,none⟩)),(19,Y aE (O p.eqs) cE),(20,U .i64 (O p.eqs:Int)),(21,U .i64 (i:Int)),(35,U .i64 (p.free:Int)),(36,U .i64 (z.1:Int))])
   (fun z h' n' w'=>w'=[]∧ai≤n'∧Ex0 n h h'∧h' (3*n+2)=some (.row [Y aB (O u) cB,U .i64 (p.free:Int),Y aO lO cO,Y aF p.free cF,Y aE (O p.eqs) cE] z2)∧h' (3*(n+1)+2)=some (.row [Dk false,Y none 0 0,Dk false,Y none 0 0] zRx)∧RMs h' n' C u o f (LG p ys (i+1))∧OR 4 numP h' n' g z.2∧O z.2=p.free∧(∀t,t<p.free→z.2[t]?=some (Li p ys (if t<z.1 then i+1 else i) t))∧Box4 h' n' H (Lg p ys i)∧(∃e,h' (3*D+2)=some (.row [Y a1 (O q.es) c1,Y a2 p.free c2,Dl ⟨⟨q.rhs⟩⟩] e))∧z.1≤p.free)
   (fun z=>p.free-z.1) (0,Z1) ⟨rfl,Dh,c5,co,z13,b0,cj,l8,fun t ht=>(by rw[CT (Fr t)];exact f8 t ht),cq,⟨_,bt⟩,Di⟩ ?_
  rintro⟨j,Z1⟩ t Z0 J _ ⟨rfl,cs,ar,cp,z14,ch,V,ay,a8,bw,⟨eq,cy⟩,hj⟩;have cs:ai≤J:=cs;have V:OR 4 numP Z0 J g Z1:=V;have ay:O Z1=p.free:=ay;have a8:∀t,t<p.free→Z1[t]?=some (Li p ys (if t<j then i+1 else i) t):=a8;have hj:j≤p.free:=hj;obtain⟨dz,ei,d4,d1,e1,d7,da,dd,di,ej,a6,az,b1,aj,a4,a5⟩:=NS.at (iy.ext ar.e (show n≤J by omega)) hy;refine zG ?_;by_cases qj:(j:Int)<(p.free:Int)
  .have aw:j<p.free:=Z;obtain⟨c0,hc⟩:∃c0,q.fr[j]?=some c0:=⟨_,Dm (by have:=(hok.eqo q ax).2.2.1;omega)⟩;obtain⟨x,an,ao,rfl⟩:=(hok.eqo q ax).2.2.2.1 c0 (Dq hc);have cu:numOf (eqFr p i j)=(x:Rat):=by
    exact C3
   have c4:Li p ys (i+1) j=Li p ys i j+y*(x:Rat):=by
    show Li p ys i j+yq ys i*numOf (eqFr p i j)=_;rw[cu,ac]
   have hf:=a8 j aw;rw[CT (GM _)]at hf;obtain⟨cS,⟨bz,b4,bo,b8,c3,b6,bq,bb,rfl,iS,jS⟩,lS,tS⟩:=V.get hf (off:=0+j*4) Z;obtain⟨ep,ez,de,cx,eg,eh⟩:=xN (s2.ext ar.e (show n≤J by omega)) hc;refine zG ?_;refine zn [0,0,0,0,12,28,0,0,192,448,0,1024,0,7168,15360,31744,65472,131068,262143,524287] rfl<|zH ?_;refine dI (j:=j) (len:=p.free) rfl aw ?_;refine dL tS V.1 0 ?_;refine zH ?_;refine dI (j:=i) a6 b1 ?_;refine dL aj az 0 ?_;refine zH ?_;refine dI (j:=j) de eg ?_;refine dL eh cx 0 ?_;refine zH ?_;refine dC (numU _ _ _ (ratT (x:Rat)) (DY (rI ((tG ⟨an,ao⟩).mono zd)) zd)) ?_;rintro _ dp ea⟨d5,d2,e2,d8,db,dg,dj,dm,rfl,ae,ag⟩ S B;rw[zT]at ae ag;refine dC (MV _ (a4.x ⟨S,B⟩) (a5.x ⟨S,B⟩) ae ag a3 (tG ⟨an,ao⟩) Z) ?_;rintro _ dq eb⟨d6,d3,e3,d9,dc,dh,dk,dn,rfl,bm,bn⟩ al R;refine dC (MU _ ((iS.x ⟨S,B⟩).x ⟨al,R⟩) ((jS.x ⟨S,B⟩).x ⟨al,R⟩) bm bn (b.nz hK (m:=i) Z j) (a3.mul (tG ⟨an,ao⟩)) Z) ?_;rintro _ bg Z4⟨b7,b5,bp,ba,bc,bd,be,bf,rfl,af,ah⟩ em ak;rw[←c4]at af ah;have M:KN J Z0 bg:=fun c hc=>(ak c Z).trans ((R c Z).trans (B c hc));refine dI (j:=j) (len:=p.free) rfl aw ?_;refine LI (n0:=n) (j:=j) (q:=Li p ys (i+1) j) [Dk b7,Y b5 bp ba,Dk bc,Y bd be bf] (V.ext Fi M Z) Fi Z (show(0:Nat)+j*4=j*4 by omega) ⟨_,_,_,_,_,_,_,_,rfl,af,ah⟩ Z ?_;intro A bs I;have w:∀c,c<3*J→c≠g→A c=Z0 c:=fun c hc hn=>(I.1 c hn).trans (M c hc);have G:Tr J Z0 Z4 A:=Il I ⟨Z,fun c hc=>.inl (M c hc)⟩;have bi:=V.1;have br:RMs A Z4 C u o f (LG p ys (i+1)):=ch.go G (fun c hc=>w c (by have:=T c hc;omega) (fun e=>by have:=T c hc;omega));have bx:Box4 A Z4 H (Lg p ys i):=bw.go G (w H bw.1 Z);have b2:Ex0 n h A:=⟨fun c hc=>(w c Z Z).trans (ar.e c hc)⟩;have bu:=(w _ Z Z).trans cp;have z20:=(w _ Z Z).trans z14;have d0:=(w (3*D+2) Z Z).trans cy;refine zG ?_;exact sK (j+1,Z1.set j (Li p ys (i+1) j)) ⟨rfl,Z,b2,bu,z20,br,bs,by rw[EU];exact ay,fun t ht=>by
    show(Z1.set j (Li p ys (i+1) j))[t]?=_;rw[Gd];by_cases htj:j=t
    .subst htj;rw[De rfl,De Z,De (G1 _)]
    .rw[CT htj,a8 t ht];by_cases h3:t<j
     .rw[De h3,De Z]
     .rw[CT h3,CT Z],bx,⟨_,d0⟩,Ac⟩
  have aw:j=p.free:=Z;obtain⟨av,bz,b4,bo,b8,c3,b6,bq,bb,df,cl,iR,jR⟩:=bw;have dw:Lg p ys (i+1)=Lg p ys i+y*(xr:Rat):=by
   show Lg p ys i+yq ys i*numOf (eqRh p i)=_;rw[dv,ac]
  refine zG ?_;refine zn [0,0,0,6,14,0,32,96,254,511,1023] rfl<|zH ?_;refine dI (j:=i) a6 b1 ?_;refine dL aj az 0 ?_;refine zH ?_;refine dC (numU _ _ _ q.rhs Z) ?_;rintro _ dp ea⟨d5,d2,e2,d8,db,dg,dj,dm,rfl,ae,ag⟩ S B;rw[bk,zT]at ae ag;refine dC (MV _ (a4.x ⟨S,B⟩) (a5.x ⟨S,B⟩) ae ag a3 cr Z) ?_;rintro _ dq eb⟨d6,d3,e3,d9,dc,dh,dk,dn,rfl,bm,bn⟩ al R;refine dC (MU _ ((iR.x ⟨S,B⟩).x ⟨al,R⟩) ((jR.x ⟨S,B⟩).x ⟨al,R⟩) bm bn (b.vz hK (m:=i) Z) (a3.mul cr) Z) ?_;rintro _ bg Z4⟨b7,b5,bp,ba,bc,bd,be,bf,rfl,af,ah⟩ em ak;rw[←dw]at af ah;have M:KN J Z0 bg:=fun c hc=>(ak c Z).trans ((R c Z).trans (B c hc));refine Mm (n0:=n) [Dk b7,Y b5 bp ba,Dk bc,Y bd be bf] ((M H av).trans cl) ?_;intro A cm I;rw[wF (show 3*n≤H by omega)];have w:∀c,c<3*J→c≠H→A c=Z0 c:=fun c hc hn=>(I.1 c hn).trans (M c hc);have G:Tr J Z0 Z4 A:=Il I ⟨Z,fun c hc=>.inl (M c hc)⟩;have bi:=V.1;have br:RMs A Z4 C u o f (LG p ys (i+1)):=ch.go G (fun c hc=>w c (by have:=T c hc;omega) (ds c hc));have bs:OR 4 numP A Z4 g Z1:=V.go Fi G (w g bi Z);have bx:Box4 A Z4 H (Lg p ys (i+1)):=⟨Z,_,_,_,_,_,_,_,_,_,cm,af.t (Il I (FS _ _)),ah.t (Il I (FS _ _))⟩;have b2:Ex0 n h A:=⟨fun c hc=>(w c Z Z).trans (ar.e c hc)⟩;have bu:=(w _ Z Z).trans cp;have z20:=(w _ Z Z).trans z14;refine zG ?_;exact sK (i+1,Z1) ⟨rfl,Z,b2,bu,z20,br,bs,ay,fun t ht=>(by rw[a8 t ht,De Z]),bx,AG⟩
 have dt:i=O p.eqs:=Z;subst dt;obtain⟨av,bz,b4,bo,b8,c3,b6,bq,bb,df,cl,iR,jR⟩:=r8;have X8:KN n h h8:=E8.e;have f2:n≤D:=Z;have et:=o8.1;refine zG ?_;refine zn [0,0,0,1,11,31] rfl<|zH ?_;refine Mm (n0:=n) [Dk bz,Y b4 bo b8,Dk c3,Y b6 bq bb] z8 ?_;intro A cm I;rw[wF (show 3*n≤3*(n+1)+2 by omega)];have G:Tr D h8 D A:=Il I (FS _ _);have cc:∀c,c=C∨c∈o∨xw f c→c≠3*(n+1)+2:=fun c hc e=>by have:=dl c hc;omega
 refine zq ?_;exact⟨C,o,f,g,_,_,_,_,_,_,_,_,rfl,m8.go G (fun c hc=>I.1 c (cc c hc)),(o8.go Fi G (I.1 g Z)).as (Rg l8 f8),iR.t G,jR.t G,fun x hx=>by have:=a9 x hx;omega,Z,c6⟩
end
theorem Rh(k:Nat){p:Sdp}{aO aF:Option Addr}{lB lO cO lF cF:Nat}(hF:F≤100)(hp:SdpR h n (Y aB lB cB) (Y aO lO cO) (Y aF lF cF) (Y aE lE cE) p)(hok:SdpOk F least p)(iy:NS h n (Y aY lY cY) ys)(be:O ys=O p.eqs)(b:SlB p ys K)(hK:K≤2^532):
  CX (KO (k+10)) 17 [.agg #[Y aB lB cB,U .i64 (p.free:Int),Y aO lO cO,Y aF lF cF,Y aE lE cE],Y aY lY cY] h n fun v u C=>∃bm bs f s a l c s2 a2 l2 c2,v=.tuple #[Y (some ⟨bm,0,none⟩) (O (dimN p)) (O (dimN p)),Y (some ⟨f,0,none⟩) p.free p.free,.agg #[Dk s,Y a l c,Dk s2,Y a2 l2 c2]]∧O bs=O (dimN p)∧MS u C (Y (some ⟨bm,0,none⟩) (O (dimN p)) (O (dimN p))) (Lk (dimN p) bs) (Lh p ys (O p.eqs))∧NS u C (Y (some ⟨f,0,none⟩) p.free p.free) ((D9 p.free).map (KZ p ys (O p.eqs)))∧UI u C s a l c (Lg p ys (O p.eqs)).num∧UI u C s2 a2 l2 c2 (denZ (Lg p ys (O p.eqs))):=by
 have d0:=hok.bl;have d2:=hok.free;have d1:=hok.eql;have c1:O (dimN p)=O p.blocks:=by unfold dimN;rw[DC]
 have c5:lB=O (dimN p):=by rw[c1];exact hp.blocks.lenEq Z AH
 have c7:lF=p.free:=by rw[wo hp.objFree];exact hok.ofl
 have c8:lO=O p.obj:=hp.obj.lenEq Z (wD _);subst c5 c7 c8;have al:∀N∈dimN p,1≤N∧N≤3:=fun N hN=>by
  exact Co
 refine zl (fn:=Tryz.f17) R4<|zG ?_;refine sB [Y aB (O (dimN p)) cB,U .i64 (p.free:Int),Y aO (O p.obj) cO,Y aF p.free cF,Y aE lE cE] ?_;intro h1 p1 x1;refine Zs ?_;intro h2 p2 x2;obtain⟨z2,q2⟩:∃e,h2 (3*n+2)=some (.row [Y aB (O (dimN p)) cB,U .i64 (p.free:Int),Y aO (O p.obj) cO,Y aF p.free cF,Y aE lE cE] e):=⟨_,zp⟩;have L:KN n h h2:=(zx:Tx n h (n+1+1) h2).2;have ao:=hp.ext0 L (show n≤n+1+1 by omega);refine zG ?_;have ag:=zss k hF ao hok (iy.ext L (show n≤n+1+1 by omega)) be b hK;refine sC ag ?_;rintro _ h3 n3⟨bS,a4,B,f,s3,a3,l3,c3,t3,b3,a1,d3,rfl,m3,o3,i3,j3,f3,am,bw,bx,ak⟩ y3 x3;refine Zs ?_;intro h4 p4 x4;refine zG ?_;refine sS [Dk s3,Y a3 l3 c3,Dk t3,Y b3 a1 d3] ?_;intro S p5 o5;have H:KN n3 h3 S:=(zx:Tx n3 h3 (n3+1) S).2;have m5:=m3.ext H zs;have b2:OR 4 numP S (n3+1) f ((D9 p.free).map (Li p ys (O p.eqs))):=o3.ext Fi H zs;have i5:=i3.t (show Tr n3 h3 (n3+1) S from⟨DM _,fun c hc=>.inl (H c hc)⟩);have j5:=j3.t (show Tr n3 h3 (n3+1) S from⟨DM _,fun c hc=>.inl (H c hc)⟩);have X5:KN (n+1+1) h2 S:=fun c hc=>(H c Z).trans (x3 c hc);have E5:Ex0 n h S:=⟨fun c hc=>(X5 c Z).trans (L c hc)⟩;have q5:=(X5 (3*n+2) Z).trans q2;obtain⟨zz,z5⟩:∃e,S (3*(n+1)+2)=some (.row [Dk false,Y none 0 0,Dk false,Y none 0 0] e):=⟨_,(X5 _ Z).trans p2⟩;have ci:=o3.1;have an:∀c,c=bS∨c∈a4∨xw B c→c<3*n3:=fun c hc=>by
  rcases hc with rfl|hc|hc
  .exact m3.s.1
  .exact m3.tlt hc
  exact m3.rlt hc
 have a7:∀x,xw B x→3*(n+1+1)≤x:=f3;have cz:3*n3≤3*n3+2∧3*n3+2<3*(n3+1):=Z;refine zG ?_;refine zn [0,0,0,4,15] rfl<|zH ?_;refine dC (rX _ _ _ (-1) zd) ?_;rintro _ h6 n6⟨s6,a6,l6,c6,t6,b6,d8,d6,rfl,i6,j6⟩ y6 M;have em:((-1:Int):Rat)= -1:=rfl;rw[em]at i6 j6;refine zH ?_;have X6:KN n h h6:=fun c hc=>(M c Z).trans (E5.e c hc);have m6:=m5.ext M y6;have bb:=Re (k+1) (c:= -1) m6 i6 j6 al (hp.obj.ext X6 (show n≤n6 by omega)) (fun ad e hb=>by
  have h1:=hp.obj.below;subst e;have h1:ad.block<3*n:=h1;have:=a7 _ hb;omega) (fun e he=>b.o e he) (by have:=b.ol;omega) ⟨kF,kF⟩ (fun P Q e k' i' j'=>by
   have:=b.oz hK (m:=O p.eqs) Z (E:=P) (fun x hx=>b.o x Ap) BM k' i' j';exact this.mono zd)
 refine yy _ R7 bb ?_;rintro _ a8 Z4 dc⟨cg,D,W,a0,bf⟩;refine⟨rfl,cg,?_⟩;rw[qf,zZ (fun c hc=>by have:=a7 c (bf c hc);omega)];rw[uO];have a0:RMs a8 Z4 bS (dimN p) a4 B (Lh p ys (O p.eqs)):=a0.as (fun k' i' j'=>zrm p ys (O p.eqs) k' i' j');have nr:∀c,c<3*(n+1+1)→¬xw B c:=fun c hc hb=>by have:=a7 c hb;omega
 have ca:∀c,3*n3≤c→¬xw B c:=fun c hc hb=>by have:=an c (.inr (.inr hb));omega
 have ai:Ex0 n h a8:=⟨fun c hc=>(D c Z (nr c Z)).trans (X6 c hc)⟩;have b7:=(D (3*n+2) Z (nr _ Z)).trans ((M _ Z).trans q5);have z13:=(D (3*(n+1)+2) Z (nr _ Z)).trans ((M _ Z).trans z5);have b4:=(D (3*n3+2) Z (ca _ Z)).trans ((M _ Z).trans p5);have b1:OR 4 numP a8 Z4 f ((D9 p.free).map (Li p ys (O p.eqs))):=(b2.ext Fi M y6).go Fi W (D f Z ak);have ap:=(i5.x ⟨y6,M⟩).t W;have av:=(j5.x ⟨y6,M⟩).t W;have cj:n3+1≤Z4:=Z;refine zG ?_;refine sF (α:=Nat×List Rat) (fun z=>[(2,Dn (some ⟨3*n+2,0,none⟩)),(6,Dn (some ⟨3*(n+1)+2,0,none⟩)),(7,Y (some ⟨bS,0,none⟩) (O (dimN p)) (O (dimN p))),(8,Y (some ⟨f,0,none⟩) p.free p.free),(9,Dn (some ⟨3*n3+2,0,none⟩)),(24,U .i64 (p.free:Int)),(25,U .i64 (z.1:Int))])
  (fun z u C w'=>w'=[]∧Z4≤C∧Ex0 n h u∧u (3*n+2)=some (.row [Y aB (O (dimN p)) cB,U .i64 (p.free:Int),Y aO (O p.obj) cO,Y aF p.free cF,Y aE lE cE] z2)∧u (3*(n+1)+2)=some (.row [Dk false,Y none 0 0,Dk false,Y none 0 0] zz)∧(∃e,u (3*n3+2)=some (.row [Dk s3,Y a3 l3 c3,Dk t3,Y b3 a1 d3] e))∧RMs u C bS (dimN p) a4 B (Lh p ys (O p.eqs))∧OR 4 numP u C f z.2∧O z.2=p.free∧(∀t,t<p.free→z.2[t]?=some (if t<z.1 then KZ p ys (O p.eqs) t else Li p ys (O p.eqs) t))∧UI u C s3 a3 l3 c3 (Lg p ys (O p.eqs)).num∧UI u C t3 b3 a1 d3 (denZ (Lg p ys (O p.eqs)))∧z.1≤p.free)
  (fun z=>p.free-z.1) (0,(D9 p.free).map (Li p ys (O p.eqs))) ⟨rfl,Dh,ai,b7,z13,⟨_,b4⟩,a0,b1,nP,fun t ht=>(by rw[CT (Fr t)];show((D9 p.free).map _)[t]?=_;rw[DB,Et ht];rfl),ap,av,Di⟩ ?_
 rintro⟨j,qs⟩ t R y _ ⟨rfl,b9,V,cc,z14,⟨cu,af⟩,az,A,Z0,Z1,aq,aw,hj⟩;have b9:Z4≤y:=b9;have A:OR 4 numP R y f qs:=A;have Z0:O qs=p.free:=Z0;have Z1:∀t,t<p.free→qs[t]?=some (if t<j then KZ p ys (O p.eqs) t else Li p ys (O p.eqs) t):=Z1;have hj:j≤p.free:=hj;refine zG ?_;by_cases qj:(j:Int)<(p.free:Int)
 .have T:j<p.free:=Z;obtain⟨c0,hc⟩:∃c0,p.objFree[j]?=some c0:=⟨_,Dm (by have:=hok.ofl;omega)⟩;obtain⟨x,aa,ab,rfl⟩:=hok.ofs c0 (Dq hc);have ah:Li p ys (O p.eqs) j-(x:Rat)=KZ p ys (O p.eqs) j:=by
   rw[←Rf p ys (O p.eqs) j,hc];show _-(x:Rat)=_-numOf (ratT (x:Rat));rw[zT]
  have hf:=Z1 j T;rw[CT (GM _)]at hf;obtain⟨cS,⟨da,cl,d4,cq,db,cn,d7,cs,rfl,iS,jS⟩,lS,tS⟩:=A.get hf (off:=0+j*4) Z;obtain⟨co,ac,bo,bg,ce,cf⟩:=xN (hp.objFree.ext V.e (show n≤y by omega)) hc;refine zG ?_;refine zn [0,0,0,0,12,28,0,64,0,448,960,1984,4092,8191,16383] rfl<|zH ?_;refine dI (j:=j) (len:=p.free) rfl T ?_;refine dL tS A.1 0 ?_;refine zH ?_;refine dI (j:=j) bo ce ?_;refine dL cf bg 0 ?_;refine zH ?_;refine dC (numU _ _ _ (ratT (x:Rat)) (DY (rI ((tG ⟨aa,ab⟩).mono zd)) zd)) ?_;rintro _ cy d9⟨cp,cm,d5,cr,ct,cv,cw,cx,rfl,ar,ax⟩ ba a5;rw[zT]at ar ax;refine dC (Qs _ (iS.x ⟨ba,a5⟩) (jS.x ⟨ba,a5⟩) ar ax (b.nz hK (m:=O p.eqs) Z j) (tG ⟨aa,ab⟩) Z) ?_;rintro _ bv b0⟨bj,bi,c4,bk,bn,bp,bq,bt,rfl,au,ay⟩ dd b8;rw[ah]at au ay;have Z3:KN y R bv:=fun c hc=>(b8 c Z).trans (a5 c hc);refine dI (j:=j) (len:=p.free) rfl T ?_;refine LI (n0:=n) (j:=j) (q:=KZ p ys (O p.eqs) j) [Dk bj,Y bi c4 bk,Dk bn,Y bp bq bt] (A.ext Fi Z3 Z) Fi Z (show(0:Nat)+j*4=j*4 by omega) ⟨_,_,_,_,_,_,_,_,rfl,au,ay⟩ Z ?_;intro g ae i;have G:∀c,c<3*y→c≠f→g c=R c:=fun c hc hn=>(i.1 c hn).trans (Z3 c hc);have w:Tr y R b0 g:=Il i ⟨Z,fun c hc=>.inl (Z3 c hc)⟩;have a9:=A.1;have c9:RMs g b0 bS (dimN p) a4 B (Lh p ys (O p.eqs)):=az.go w (fun c hc=>G c (by have:=an c hc;omega) (fun e=>by
   subst e;rcases hc with hc|hc|hc
   .exact bw hc
   .exact bx hc
   .exact ak hc))
  have aj:Ex0 n h g:=⟨fun c hc=>(G c Z Z).trans (V.e c hc)⟩;have bc:3*(n+1+1)≤f:=am;have cd:=(G _ Z Z).trans cc;have z20:=(G _ Z Z).trans z14;have b5:=(G (3*n3+2) Z Z).trans af;refine zG ?_;exact sK (j+1,qs.set j (KZ p ys (O p.eqs) j)) ⟨rfl,Z,aj,cd,z20,⟨_,b5⟩,c9,ae,by rw[EU];exact Z0,fun t ht=>by
   show(qs.set j (KZ p ys (O p.eqs) j))[t]?=_;rw[Gd];by_cases htj:j=t
   .subst htj;rw[De rfl,De Z,De (G1 _)]
   .rw[CT htj,Z1 t ht];by_cases h3:t<j
    .rw[De h3,De Z]
    .rw[CT h3,CT Z],aq.t w,aw.t w,Ac⟩
 have T:j=p.free:=Z;subst T;have ac:=A.as (Rg Z0 (fun t ht=>by rw[Z1 t ht,De ht]));have bd:1≤O (dimN p)∧O (dimN p)≤1000:=Z;refine zG ?_;refine zn [0,1,0,0,3,23,63] rfl<|zH ?_;refine dC (zsi (k+2) az al bd (b.mz0 hK (m:=O p.eqs) Z) zd) ?_;rintro _ bu I⟨bm,bs,rfl,lb,ms,fm,br⟩ ch J;have z15:=(J _ Z).trans z14;have cb:=(J (3*n3+2) Z).trans af;refine zH ?_;refine Mm (n0:=n) [Dk s3,Y a3 l3 c3,Dk t3,Y b3 a1 d3] z15 ?_;intro g b5 i;rw[wF (show 3*n≤3*(n+1)+2 by omega)];have w:Tr y R I g:=Il i ⟨ch,fun c hc=>.inl (J c hc)⟩;have ck:Tr I bu I g:=Il i (FS _ _);have aj:KN n h g:=fun c hc=>(i.1 c Z).trans ((J c Z).trans (V.e c hc));have de:n≤I:=Z;have a9:=ac.1;have bc:3*(n+1+1)≤f:=am;have ae:OR 4 numP g I f ((D9 p.free).map (KZ p ys (O p.eqs))):=ac.go Fi w ((i.1 f Z).trans (J f a9));have bh:MS g I (Y (some ⟨bm,0,none⟩) (O (dimN p)) (O (dimN p))) (Lk (dimN p) bs) (Lh p ys (O p.eqs)):=ms.keep (i.1 bm Z) (fun b' bz=>i.1 b' (by have:=br b' bz;omega));refine zq ?_;exact⟨bm,bs,f,_,_,_,_,_,_,_,_,rfl,lb,bh,OR.sl ae nP Dh,aq.t w,aw.t w⟩
theorem zcl(k:Nat){p:Sdp}{A y:Option Addr}{I L C J B:Nat}(hF:F≤100)(hp:SdpR h n (Y aB I cB) (Y A L C) (Y y J B) (Y aE lE cE) p)(hok:SdpOk F least p)(iy:NS h n (Y aY lY cY) ys)(G:O ys=O p.eqs)(b:SlB p ys K)(Z3:K≤2^532):
  VF (KO (k+11)) 22 [.agg #[Y aB I cB,U .i64 (p.free:Int),Y A L C,Y y J B,Y aE lE cE],Y aY lY cY] h n fun v=>∃o:Bool,v=Dk o∧(o=true↔Rc p ys):=by
 have aa:=hok.free;have a0:O (dimN p)<1000000:=by unfold dimN;rw[DC];have:=hok.bl;omega
 refine zB (fn:=Tryz.f22) R4<|zG ?_;refine sB [Y aB I cB,U .i64 (p.free:Int),Y A L C,Y y J B,Y aE lE cE] ?_;intro h1 p1 s;refine zG ?_;refine sC (Rh k hF (hp.ext0 s zs) hok (iy.ext s zs) G b Z3) ?_;rintro _ Z4 f⟨bm,bs,bF,s3,a3,l3,c3,t3,b3,a6,d3,rfl,lb,ms,o3,i3,j3⟩ y3 x3;refine Zs ?_;intro h4 p4 x4;refine zG ?_;refine sS [Dk s3,Y a3 l3 c3,Dk t3,Y b3 a6 d3] ?_;intro i p5 o5;have a:KN f Z4 i:=(zx:Tx f Z4 (f+1) i).2;have m5:=ms.ext a zs;have i5:=o3.ext a zs;have E5:Ex0 n h i:=⟨fun c hc=>(a c Z).trans ((x3 c Z).trans (s c hc))⟩;refine zG ?_;refine sF (α:=Nat) (fun z=>[(5,Y (some ⟨bm,0,none⟩) (O (dimN p)) (O (dimN p))),(17,Y (some ⟨bF,0,none⟩) p.free p.free),(18,U .i64 (p.free:Int)),(19,U .i64 (z:Int))])
  (fun z h' n' w'=>w'=[]∧f+1≤n'∧Ex0 (f+1) i h'∧(∀t,t<z→KZ p ys (O p.eqs) t=0)∧z≤p.free) (fun z=>p.free-z) 0 ⟨rfl,Dh,⟨FU _ _⟩,fun t l=>oU l (Fr _),Di⟩ ?_
 rintro j t V m _⟨rfl,u,w,hz,hj⟩;have u:f+1≤m:=u;have hz:∀t,t<j→KZ p ys (O p.eqs) t=0:=hz;have hj:j≤p.free:=hj;refine zG ?_;by_cases qj:(j:Int)<(p.free:Int)
 .have g:j<p.free:=Z;obtain⟨ab,ac,Z1,M,a4,P,R,S,T,a9,D,a5,a7,a8,a1,a2⟩:=NS.at (i5.ext w.e u) (show((D9 p.free).map (KZ p ys (O p.eqs)))[j]?=some (KZ p ys (O p.eqs) j)by rw[DB,Et g];rfl);refine zG ?_;refine sI D a7 ?_;refine sL a8 a5 0 ?_;refine sA ?_;intro h7 p7 x7;refine zG ?_;refine sS [Dk Z1,Y M a4 P,Dk R,Y S T a9] ?_;intro W p8 o8;have X8:KN m V W:=(zx:Tx m V (m+1) W).2;refine zG ?_;refine sC (mA _ (a1.t zt) (a2.t zt)) ?_;rintro _ h9 n9⟨q,rfl,r9⟩ y9 x9;have r9:q= -1∧(KZ p ys (O p.eqs) j).num<0∨q=0∧(KZ p ys (O p.eqs) j).num=0∨q=1∧0<(KZ p ys (O p.eqs) j).num:=r9;by_cases hs9:q=0
  .have h0:KZ p ys (O p.eqs) j=0:=FM.1 Z;refine zG ?_;exact sK (j+1) ⟨rfl,Z,⟨fun c hc=>(x9 c Z).trans ((X8 c Z).trans (w.e c hc))⟩,fun t l=>by
    rcases EG t j with h|h
    .exact hz t h
    .rw[show t=j by have:t<j+1:=l;omega];exact h0,Ac⟩
  refine Zt ?_;refine⟨false,rfl,fun h=>Aq,fun h=>?_⟩;have:=FM.2 (h.1 j g);omega
 have g:j=p.free:=Z;refine zG ?_;refine sC (Z9 k (m5.ext w.e u) (b.mok Z3 hok) (by rw[sO lb];exact a0)).cx ?_;rintro _ h4 n4⟨o,rfl,hk⟩ y4 x4;refine Zt ?_;refine⟨o,rfl,hk.trans ⟨fun h=>⟨fun t l=>hz t Z,fun H N Z0=>?_⟩,fun h H d hd=>?_⟩⟩
 .have h2:=(Du.1 Z0).1;exact h H _ (aH Z0 (Dm Z))
 obtain⟨N,b',h1,h2,rfl⟩:=pE hd;exact h.2 H N h1
structure SdpStr (R:List UInt8→Prop)(p:Sdp):Prop where
 obj:∀e∈p.obj,R e.v
 objFree:∀s∈p.objFree,R s
 eqs:∀q∈p.eqs,(∀e∈q.es,R e.v)∧∀s∈q.rhs::q.fr,R s
section
variable {b len:Nat}
theorem sU(k:Nat)(c:GK.G h)(n:Nat):VF (KO (k+1)) 9 [] h n fun v=>v=Dk true:=⟨_,_,_,_,Tq k c n,rfl,rfl,rfl,rfl⟩
theorem zee(k:Nat){S:List (List UInt8)}(m:Int)(p:Sl h n 1 (Y a len cap) (strs S))(C:O S<100000000):VF (KO (k+1)) 8 [U .i64 m,Y a len cap] h n fun v=>∃b:Bool,v=Dk b∧(b=true↔∀s∈S,(O s:Int)≤m):=by
 refine zB (fn:=Tryz.f8) R4 ?_;have u:=wo p;subst u;refine Zx ?_;refine zK (α:=Nat) (fun z=>[(0,U .i64 m),(7,Y a (O S) cap),(8,U .i64 (O S:Int)),(9,U .i64 (z:Int))]) (fun z h' y B=>h=h'∧y=n∧B=[]∧z≤O S∧∀i s,i<z→S[i]?=some s→(O s:Int)≤m) (fun z=>O S-z) 0 V4 ⟨rfl,rfl,rfl,Di,fun i d o=>oU o (Fr i)⟩ Ag ?_;rintro z t _ _ _⟨rfl,rfl,rfl,D,g⟩;refine zN ?_;by_cases hze:z=O S
 .refine Zm ?_;refine retF _ rfl (zj rfl) R2 ⟨true,rfl,fun _ s p=>?_,fun _=>rfl⟩;obtain⟨i,o,e⟩:=List.getElem_of_mem p;exact g i s Z (by rw[Dm o,e])
 obtain⟨s,l⟩:∃s,S[z]?=some s:=⟨S[z]'Z,Dm Z⟩;have q:s∈S:=Dq l;refine Zq ?_;refine ya (f:=fun s=>Dl ⟨⟨s⟩⟩) (j:=z) (dv:=s) R7 p R2 l (fun _=>rfl) R4 fun _=>?_;refine ZG ?_;refine st_I (ik:=.i64) (a:=(O s:Int)) R5 ?_;by_cases hbig:m<(O s:Int)
 .refine Zo ?_;exact retF _ rfl (zj rfl) R2 ⟨false,rfl,fun h=>oU h cA,fun w=>by have:=w s q;omega⟩
 refine Zm ?_;refine goOn (z+1) As ⟨rfl,rfl,rfl,dO,Df⟩ ⟨rfl,rfl,rfl,AO,fun i A o c=>?_⟩;by_cases hij:i<z
 .exact g i A hij c
 have:i=z:=Z;subst this;rw[l]at c;injection c with c
 subst c;omega
structure Sdp60 (p:Sdp):Prop where
 ol:O p.obj≤60
 fl:O p.objFree≤60
 el:O p.eqs≤60
 qs:∀q∈p.eqs,O q.es≤60∧O q.fr≤60
end
section
variable {v:Value}
theorem Sl.tape{h h':HF}{n n' b:Nat}{c C:List Value}{e:TypeId}(s:Sl h n sz v c)(j:h b=some (.row C e))(q:∀x,x<3*n→x≠b→h' x=h x)(p:n≤n')(i:0<sz)(g:c≠[]→∀o,(C.drop o).take (O c)≠c):Sl h' n' sz v c:=by
 cases s with
 |nil ha=>exact .nil (uK ha p)
 | @at_ b' off len cap x cs cells hb hx' hc hcap hl he=>
  have d:O c=len*sz:=by rw[←he,DW,Ea];omega
  by_cases e':b'=b
  .subst e';rw[j]at hx';cases hx';cases hc;by_cases hc0:c=[]
   .subst hc0;have:len=0:=by
     rcases Nat.eq_zero_or_pos len with f|f
     .exact f
     have:=Fw f i;have d:0=len*sz:=d;omega
    exact C7
   exact oU (d▸he) (g hc0 off)
  exact .at_ Z ((q _ hb e').trans hx') hc hcap hl he
section
variable {b k:Nat}
theorem dt{c:List Value}(f:3≤O c)(o:Nat):(([Y a l k,U .i64 z]:List Value).drop o).take (O c)≠c:=fun h=>by
 have:=congrArg O h;rw[DW,Ea]at this;have d:O ([Y a l k,U .i64 z]:List Value)=2:=rfl;omega
theorem Ri{S:List (List UInt8)}(h0:strs S≠[])(o:Nat):(([Y a l k,U .i64 z]:List Value).drop o).take (O (strs S))≠strs S:=fun h=>by
 cases S with
 |nil=>exact h0 rfl
 |cons s S=>
  have h1:Dl ⟨⟨s⟩⟩∈(([Y a l k,U .i64 z]:List Value).drop o).take (O (strs (s::S))):=by rw[h];exact C1
  have c:=FB (EB h1);rcases DR.1 c with c|c
  .cases c
  rw[Dx]at c;cases c
theorem EqR.tape(r:EqR h n ce qs)(d:h b=some (.row [Y a l k,U .i64 z] e))(g:∀x,x<3*n→x≠b→h' x=h x)(f:n≤n'):EqR h' n' ce qs:=by
 induction r with
 |nil=>exact .nil
 | @cons ve vf q cs qs h1 h2 h3 ih=>
  exact .cons (h1.tape d g f zd (fun c=>dt (by
   cases hq:q.es with
   |nil=>rw[hq]at c;exact oU rfl c
   |cons x y=>rw[wD,D3];omega))) (h2.tape d g f zd Ri) ih
theorem SdpR.tape{p:Sdp}(r:SdpR h n vB vO vF vE p)(i:h b=some (.row [Y a l k,U .i64 z] e))(f:∀x,x<3*n→x≠b→h' x=h x)(d:n≤n')(B:yh m vB)(F:b<3*m):SdpR h' n' vB vO vF vE p:=by
 obtain⟨o,s,u,ce,w,g⟩:=r;refine⟨o.keep (fun j G C q=>?_) d,s.tape i f d zd (fun c=>dt (by
   cases hq:p.obj with
   |nil=>rw[hq]at c;exact oU rfl c
   |cons x y=>rw[wD,D3];omega)),u.tape i f d zd Ri,ce,w.tape i f d zd (fun c=>dt (by
   rw[g.len];cases hq:p.eqs with
   |nil=>rw[hq]at g;cases g;exact oU rfl c
   |cons x y=>rw[D3];omega)),g.tape i f d⟩
 subst q;have D:3*m≤j.block:=B;have A:j.block<3*n:=o.below;exact f _ A Z
end
theorem gi(k:Nat){h:HF}(hG:GK.G h){n:Nat}(hn:20≤n){aL:Option Addr}{lL cL:Nat}{L:List Int}(cs:∀ad,aL=some ad→ad.spot=none)(hL:Sl h n 1 (Y aL lL cL) (i64s L)){Z3:List (List UInt8)}(M:Sl h n 1 (Y aY lY cY) (strs Z3)):
  VF (KO (k+19)) 3 [Y aL lL cL,Y aY lY cY] h n fun v=>v=Dk true:=by
 have g:GG h n:=⟨hG,hn⟩;have b4:=wo M;subst b4;refine zB (fn:=Tryz.f3) R4<|zG ?_;refine zk _ R5 (XY (k+17) cs hL) ?_;rintro _ h1 _ _⟨rfl,rfl,c5,rfl,br⟩;refine zG ?_;have bi:=XZ (k+12) (F:=2) (least:=0) Z br (n:=n+1) Dh;refine zk _ R5 bi ?_;rintro _ Z1 f w2⟨⟨az,dy,bt,ai⟩,p,vB,vO,vF,vE,rfl,hp,u,bw,_,_,_⟩;dsimp only at az ai;obtain⟨aB,lB,cB,rfl,_⟩:=hp.blocks.len;obtain⟨aO,lO,cO,rfl,_⟩:=hp.obj.len;obtain⟨aF,lF,cF,rfl,_⟩:=hp.objFree.len;obtain⟨dm,al,am⟩:=hp.eqs;obtain⟨aE,lE,cE,rfl,_⟩:=al.len;have dw:=u.eql;have d4:lE=O p.eqs:=al.lenEq Z am.len;subst d4;rw[qf,zZ (W:=w2) (fun b hb=>by have:=az b hb;omega)];have X2:Ex0 n h Z1:=⟨fun c hc=>(ai c Z Z).trans (c5 c hc)⟩;refine Zs ?_;intro Z0 p3 x3;refine sS [Y aB lB cB,U .i64 (p.free:Int),Y aO lO cO,Y aF lF cF,Y aE (O p.eqs) cE] ?_;intro h4 p4 o4;have ag:KN f Z1 h4:=(zx:Tx f Z1 (f+1) h4).2;have c0:=hp.ext0 ag (show f≤f+1 by omega);have bu:=bt.ext ag (show n+1≤f by omega);have E4:Ex0 n h h4:=⟨fun c hc=>(ag c Z).trans (X2.e c hc)⟩;have bv:=M.ext E4.e (show n≤f+1 by omega);have g4:GG h4 (f+1):=g.ext E4.e Z;by_cases hY6:6<O Z3
 .refine zG ?_;refine sC (sU (k+17) g4.1 _).cx ?_;rintro _ h9 n9 rfl y9 I;refine Zt ?_;rfl
 refine zG ?_;refine sC (zee (k+17) 40 bv Z).cx ?_;rintro _ h5 n5⟨b5,rfl,ct⟩ y5 x5;rcases K3 ct with⟨rfl,q5⟩|⟨rfl,q5⟩
 .refine zG ?_;refine sC (sU (k+17) (g4.x ⟨y5,x5⟩).1 _).cx ?_;rintro _ h9 n9 rfl y9 I;refine Zt ?_;rfl
 have an:=bu.ext x5 (show n+1≤f+1 by omega);have c1:=c0.ext0 x5 y5;have p5:=(x5 (3*f+2) Z).trans p4;have E5:Ex0 n h h5:=⟨fun c hc=>(x5 c Z).trans (E4.e c hc)⟩;have o:∀s∈Z3,O s≤40:=fun s hs=>by have:=q5 s hs;omega
 refine zG ?_;have bg:=tQ (k+17) (m:=2) zd an (show n+1≤n5 by omega);refine zk _ R5 bg ?_;rintro _ h6 n5 w6⟨b0,rfl,ao,a2,r,rfl,dz,e0⟩;dsimp only at b0 a2;rw[qf,zZ (W:=w6) (fun b hb=>by have:=b0 b hb;omega)];obtain⟨dg,e5,ah,_⟩:=an.row;have H:=c1.tape ah (fun c _ hc=>a2 c hc) (Fu n5) bw (show 3*n+2<3*(n+1)by omega);have p6:=(a2 (3*f+2) Z).trans p5;have E6:Ex0 n h h6:=⟨fun c hc=>(a2 c Z).trans (E5.e c hc)⟩;refine jC R6 ?_;rw[yi,zm];refine yp (α:=Option Addr×Nat×Nat×List (List UInt8)) (fun z=>[(1,Y z.1 z.2.1 z.2.2.1),(6,Dn (some ⟨3*f+2,0,none⟩))]) (fun z h' n' w=>w=[]∧f+1≤n'∧Ex0 n h h'∧(∃e,h' (3*f+2)=some (.row [Y aB lB cB,U .i64 (p.free:Int),Y aO lO cO,Y aF lF cF,Y aE (O p.eqs) cE] e))∧SdpR h' n' (Y aB lB cB) (Y aO lO cO) (Y aF lF cF) (Y aE (O p.eqs) cE) p∧Sl h' n' 1 (Y z.1 z.2.1 z.2.2.1) (strs z.2.2.2)∧(∀s∈z.2.2.2,O s≤40)∧O z.2.2.2≤6) ?_ ?_
 .by_cases hr:r=0
  .rw[kA hr];refine zG ?_;have bh:=zsl (k+11) ao (show n+1≤n5 by omega) (N:=O p.eqs) Z;refine zk _ R5 bh ?_;rintro _ h7 n7 w7⟨⟨b1,y7,du,a4⟩,a7,qs,rfl,lq,hq,iq,_⟩;dsimp only at b1 a4;rw[qf,zZ (W:=w7) (fun b hb=>by have:=b1 b hb;omega)];obtain⟨dh,e6,bj,_⟩:=ao.row;have J:=H.tape bj a4 y7 bw (show 3*n+2<3*(n+1)by omega);have p7:=(a4 (3*f+2) Z Z).trans p6;have E7:Ex0 n h h7:=⟨fun c hc=>(a4 c Z Z).trans (E6.e c hc)⟩;refine zG ?_;refine sC (zio (k+12) iq Z (fun q aw=>(hq q aw).ok.1) Z) ?_;rintro _ h8 n8⟨b8,rfl,f8,o8⟩ V A;refine zG ?_;exact zC (some ⟨b8,0,none⟩,O p.eqs,O p.eqs,qs.map ratT) V2 ⟨rfl,by show f+1≤n8;omega,⟨fun c hc=>(A c Z).trans (E7.e c hc)⟩,⟨_,(A _ Z).trans p7⟩,J.ext0 A V,ar8 o8 (by rw[DC];exact lq.symm) Dh,fun s hs=>by
    obtain⟨q,aw,rfl⟩:=EX.1 hs;exact(hq q aw).ok.2,by show(qs.map ratT).length≤6;rw[DC];omega⟩
  rw[aA hr];refine zG ?_;exact zC (aY,O Z3,cY,Z3) V2 ⟨rfl,by show f+1≤n5;omega,E6,⟨_,p6⟩,H,M.ext E6.e (show n≤n5 by omega),o,by show O Z3≤6;omega⟩
 rintro⟨aY,lY,cY,Z3⟩ t h6 n6 _ ⟨rfl,y6,E6,⟨e6,p6⟩,H,M,o,S⟩;dsimp only at y6 M o S;have g6:GG h6 n6:=g.ext E6.e Z;have b4:=wo M;subst b4;refine zG ?_;refine sC (Q9 (k+3) g6 (F:=2) Z H u M o S) ?_;rintro v7 h7 n7 cz y7 x7;have g7:GG h7 n7:=g6.x ⟨y7,x7⟩;have J:=H.ext0 x7 y7;have a0:=M.ext x7 y7;have p7:=(x7 (3*f+2) Z).trans p6;rcases cz with⟨au,ar,bm,bs,bf,rfl,m7,o7⟩|⟨e7,rfl,he⟩
 .obtain⟨K,cr,hK⟩:∃K,(2^133)^O Z3≤K∧K≤2^532:=⟨_,jP (m:=532) Z,Dh⟩;have b:=u.slb o cr;have bx:∀e,¬ErrD p Z3 e:=fun e he=>by
   rcases he with⟨_,h,_⟩|⟨h,_⟩
   .exact h ar
   exact h au
  refine zG ?_;refine sC (Rd (k+6) g7 (F:=2) Z J u a0 o S).cx ?_;rintro v8 h8 n8 ax V A;rcases ax with⟨_,_,rfl⟩|⟨e,_,he⟩
  rotate_left
  .exact oU he (bx e)
  have g8:GG h8 n8:=g7.x ⟨V,A⟩;have a1:=J.ext0 A V;have P:=a0.ext A V;have p8:=(A (3*f+2) Z).trans p7;have m8:=m7.ext A V;have o8:=o7.ext Ib A V;refine zG ?_;refine sC (ft k g8 (F:=2) Z a1 u P o S).cx ?_;rintro v9 h9 n9 ay y9 I;rcases ay with⟨_,_,ok,rfl,ap⟩|⟨e,_,he⟩
  rotate_left
  .exact oU he (bx e)
  have g9:GG h9 n9:=g8.x ⟨y9,I⟩;have c2:=a1.ext0 I y9;have aa:=P.ext I y9;have p9:=(I (3*f+2) Z).trans p8;have m9:=m8.ext I y9;have o9:=o8.ext Ib I y9;refine zG ?_;refine sC (Oe (k+11) aa (fun s hs=>by have:=o s hs;omega) Z) ?_;rintro _ ak b9⟨cm,d2,cn,T,rfl,D,iq⟩ a6 B;have R:T=true:=D.2 au;subst R;have iq:=iq rfl;have a8:GG ak b9:=g9.x ⟨a6,B⟩;have ac:=c2.ext0 B a6;have bc:=(B (3*f+2) Z).trans p9;have b6:=m9.ext B a6;have ba:=o9.ext Ib B a6;obtain⟨ys,c7⟩:∃ys,ys=Z3.map numOf:=⟨_,rfl⟩;have c6:O ys=O p.eqs:=by rw[c7,DC];exact ar
  rw[←c7]at b b6 ba ap iq⊢;refine zG ?_;refine sC (Rh (k+8) (F:=2) Z ac u iq c6 b hK) ?_;rintro _ a9 j⟨dk,dl,dj,s3,a3,l3,c3,t3,b3,d6,d3,rfl,d5,c9,o2,i2,j2⟩ ab Z4;have c8:=b6.ext Z4 ab;have cb:=ba.ext Ib Z4 ab;have av:=ac.ext0 Z4 ab;have b2:=iq.ext Z4 ab;have cd:=(Z4 (3*f+2) Z).trans bc;have bo:GG a9 j:=a8.x ⟨ab,Z4⟩;refine Zs ?_;intro dr db df;refine zG ?_;refine sS [Dk s3,Y a3 l3 c3,Dk t3,Y b3 d6 d3] ?_;intro C dc d9;have y:KN j a9 C:=(zx:Tx j a9 (j+1) C).2;have co:GG C (j+1):=bo.ext y zs;have b7:=c8.ext y zs;have ck:=cb.ext Ib y zs;have ch:=av.ext0 y zs;have ci:=b2.ext y zs;have dd:=(y (3*f+2) Z).trans cd;have cj:=c9.ext y zs;have da:=o2.ext y zs;have d0:=i2.t (show Tr j a9 (j+1) C from⟨DM _,fun c hc=>.inl (y c hc)⟩);have d1:=j2.t (show Tr j a9 (j+1) C from⟨DM _,fun c hc=>.inl (y c hc)⟩);refine zG ?_;refine sC (sU (k+17) co.1 _).cx ?_;rintro _ bp ca rfl aj a5;refine zG ?_;obtain⟨dn,s1,r1⟩:=((b7.ext a5 aj).ms (cap:=O (dimN p)) rfl Dh).matR;obtain⟨dp,s2,r2⟩:=(cj.ext a5 aj).matR;rw[znz 0 d5 b7.l]at r2;have dv:O (dimN p)≤2:=by unfold dimN;rw[DC];have:=u.bl;omega
  refine sC (eJ (k+15) s1 r1 s2 r2 (by rw[zn0,sO b7.l];omega) (fun m hm=>by
   obtain⟨d,hd,e⟩:=zny hm;obtain⟨i,hi,rfl⟩:=Gs.1 hd;have:=(b.mok hK u (bs:=bs)).hn i _ (Dm hi);have:=LH this.2;omega)).cx ?_
  rintro _ cp d7 rfl ec cf;have ae:KN (j+1) C cp:=fun c hc=>(cf c Z).trans (a5 c hc);have cl:j+1≤d7:=Z;have dx:=u.free;refine zG ?_;refine sC (Ou (k+13) (da.ext ae cl) Z (m:=560) (fun q hq=>by
   obtain⟨t,_,rfl⟩:=EX.1 hq;exact b.fz hK (m:=O p.eqs) Z t) zd) ?_
  rintro _ ds e1⟨di,rfl,dq,cc⟩ ed bd;rw[H2]at cc;refine sC (qb (k+17) (ar8 (ck.ext Ib (fun c hc=>(bd c Z).trans (ae c hc)) Z) (len:=p.free) (cap:=p.free) nP Dh) (ar8 cc nP Dh) tv).cx ?_;rintro _ bq d8 rfl ee cg;have af:KN (j+1) C bq:=fun c hc=>(cg c Z).trans ((bd c Z).trans (ae c hc));have bk:Tr (j+1) C d8 bq:=⟨Z,fun c hc=>.inl (af c hc)⟩;have e4:=(af (3*j+2) Z).trans dc;have de:=(af (3*f+2) Z).trans dd;refine zG ?_;refine sC (Ql (k+14) (d0.t bk) (d1.t bk) (b.vz hK (m:=O p.eqs) Z) zd).cx ?_;rintro _ cq e2 rfl ef be;have ea:=(be (3*f+2) Z).trans de;have bn:KN (j+1) C cq:=fun c hc=>(be c Z).trans (af c hc);refine zG ?_;refine sQ true (beq_self_eq_true _) ?_;refine zG ?_;refine sC (zcl (k+7) (F:=2) Z (ch.ext0 bn Z) u (ci.ext bn Z) c6 b hK).cx ?_;rintro _ dt e3⟨bb,rfl,aq⟩ eg eb;have cy:bb=ok:=by
   cases ok<;>cases bb
   .rfl
   .exact oU (ap.2 (aq.1 rfl)) cA
   .exact oU (aq.2 (ap.1 rfl)) cA
   rfl
  subst cy;cases bb
  .refine Zt ?_;rfl
  refine Zt ?_;rfl
 have c4:∀e,ErrD p Z3 e→e=e7:=fun e cu=>by
  rcases cu with⟨h1,Z1,rfl⟩|⟨h1,rfl⟩<;>rcases he with⟨Z0,h4,rfl⟩|⟨Z0,rfl⟩
  .rfl
  .exact oU h1 Z0
  .exact oU Z0 h1
  rfl
 have bz:∀{q:Prop},(∀s∈Z3,xC s)→O Z3=O p.eqs→q:=fun h1 Z1=>by
  rcases he with⟨_,h4,_⟩|⟨Z0,_⟩
  .exact oU Z1 h4
  exact oU h1 Z0
 refine zG ?_;refine sC (Rd (k+6) g7 (F:=2) Z J u a0 o S).cx ?_;rintro v8 h8 n8 ax V A;rcases ax with⟨h1,Z1,_⟩|⟨e8,rfl,cv⟩
 .exact bz h1 Z1
 have e8:=c4 _ cv;subst e8;have g8:GG h8 n8:=g7.x ⟨V,A⟩;have a1:=J.ext0 A V;have P:=a0.ext A V;have p8:=(A (3*f+2) Z).trans p7;refine zG ?_;refine sC (ft k g8 (F:=2) Z a1 u P o S).cx ?_;rintro v9 h9 n9 ay y9 I;rcases ay with⟨h1,Z1,_⟩|⟨e9,rfl,cw⟩
 .exact bz h1 Z1
 have e9:=c4 _ cw;subst e9;have g9:GG h9 n9:=g8.x ⟨y9,I⟩;have aa:=P.ext I y9;have p9:=(I (3*f+2) Z).trans p8;refine zG ?_;refine sC (Oe (k+11) aa (fun s hs=>by have:=o s hs;omega) Z) ?_;rintro _ ak b9⟨cm,d2,cn,T,rfl,D,_⟩ a6 B;have a8:GG ak b9:=g9.x ⟨a6,B⟩;have bc:=(B (3*f+2) Z).trans p9;rcases he with⟨Z0,h4,rfl⟩|⟨Z0,rfl⟩
 .have R:T=true:=D.2 Z0;exact Ci
 have R:T=false:=by
  cases T
  .rfl
  exact oU (D.1 rfl) Z0
 exact Ci
end
section
variable {b:Nat}
def upFn(nm:Nat→Nat):Fn→Fn
 | .yield l=>.yield (nm l)
 |f=>f
mutual
def up(nm:Nat→Nat):Value→Value
 | Dn (some a)=>Dn (some ⟨nm a.block,a.off,a.spot⟩)
 | Y (some a) l c=>Y (some ⟨nm a.block,a.off,a.spot⟩) l c
 | .func f a b=>.func (upFn nm f) (ME nm a) (ME nm b)
 | .agg cs=>.agg (ME nm cs)
 | .tuple cs=>.tuple (ME nm cs)
 |v=>v
def ME(nm:Nat→Nat):Array Value→Array Value
 |⟨l⟩=>⟨Nv nm l⟩
def Nv(nm:Nat→Nat):List Value→List Value
 |[]=>[]
 |v::r=>up nm v::Nv nm r
end
mutual
theorem cC{j:Nat→Nat}(d:∀b,ρ.b (j b)=b)(i:∀b,ρ.x (j b)=0)(g:∀b,gro (j b)=false):∀v:Value,conc ρ (up j v)=v
 | Dn none=>rfl
 | Dn (some a)=>by simp[up,conc,ag7,d]
 | Y none _ _=>rfl
 | Y (some a) l c=>by
  simp only[up,conc];rw[ρ.adrS_old (g a.block),i];simp[ag7,d]
 | .func f a b=>by
  have h1:ρ.fn (upFn j f)=f:=by cases f<;>simp[upFn,Ren.fn,d]
  simp only[up,conc,h1,nJ d i g a,nJ d i g b]
 | .agg cs=>by simp only[up,conc,nJ d i g cs]
 | .tuple cs=>by simp only[up,conc,nJ d i g cs]
 | Dk _=>by simp[up,conc]
 | U _ _=>by simp[up,conc]
 | .float _ _=>by simp[up,conc]
 | .complex _ _ _=>by simp[up,conc]
 | Dl _=>by simp[up,conc]
 | .map _=>by simp[up,conc]
 | .chan _=>by simp[up,conc]
 | .nilFunc=>by simp[up,conc]
 | .nilIface=>by simp[up,conc]
 | .iface _ _=>by simp[up,conc]
theorem nJ{nm:Nat→Nat}(hb:∀b,ρ.b (nm b)=b)(hx:∀b,ρ.x (nm b)=0)(hg:∀b,gro (nm b)=false):∀a:Array Value,lK ρ (ME nm a)=a
 |⟨l⟩=>by simp only[ME,lK,Rj hb hx hg l]
theorem Rj{nm:Nat→Nat}(hb:∀b,ρ.b (nm b)=b)(hx:∀b,ρ.x (nm b)=0)(hg:∀b,gro (nm b)=false):∀l:List Value,ko ρ (Nv nm l)=l
 |[]=>rfl
 |v::r=>by simp only[Nv,ko,cC hb hx hg v,Rj hb hx hg r]
end
def bdFn:Fn→Nat
 | .yield l=>l+1
 |_=>0
mutual
def bd:Value→Nat
 | Dn (some a)=>a.block+1
 | Y (some a) _ _=>a.block+1
 | .func f a b=>bdFn f+MF a+MF b
 | .agg cs=>MF cs
 | .tuple cs=>MF cs
 |_=>0
def MF:Array Value→Nat
 |⟨l⟩=>Mb l
def Mb:List Value→Nat
 |[]=>0
 |v::r=>bd v+Mb r
end
theorem zky(d:Lc m ρ ρ'){a:Addr}(h:a.block<m):ρ'.addr a=ρ.addr a:=by
 unfold ag7;rw[(d _ h).1]
theorem zkx(d:Lc m ρ ρ'){a:Addr}(h:a.block<m):ρ'.adrS a l c=ρ.adrS a l c:=by
 unfold Ren.adrS ag7;rw[(d _ h).1,(d _ h).2]
mutual
theorem Ov:∀(v:Value) (m:Nat),bd v≤m→Nb m v
 | Dn none,m,_=>fun ρ ρ' _=>by simp
 | Dn (some a),m,h=>fun ρ ρ' d=>by
  simp only[bd]at h;simp only[conc,zky d (show a.block<m by omega)]
 | Y none _ _,m,_=>fun ρ ρ' _=>by simp
 | Y (some a) l c,m,h=>fun ρ ρ' d=>by
  simp only[bd]at h;simp only[conc,zkx d (show a.block<m by omega),(d _ (show a.block<m by omega)).2]
 | .func f a b,m,h=>fun ρ ρ' d=>by
  simp only[bd]at h;have h1:ρ'.fn f=ρ.fn f:=by
   cases f<;>simp[Ren.fn];rename_i l;exact(d l (by simp only[bdFn]at h;omega)).1
  simp only[conc,h1,au a m Z ρ ρ' d,au b m Z ρ ρ' d]
 | .agg cs,m,h=>fun ρ ρ' d=>by
  simp only[bd]at h;simp only[conc,au cs m h ρ ρ' d]
 | .tuple cs,m,h=>fun ρ ρ' d=>by
  simp only[bd]at h;simp only[conc,au cs m h ρ ρ' d]
 | Dk _,m,_=>fun ρ ρ' _=>by simp[conc]
 | U _ _,m,_=>fun ρ ρ' _=>by simp[conc]
 | .float _ _,m,_=>fun ρ ρ' _=>by simp[conc]
 | .complex _ _ _,m,_=>fun ρ ρ' _=>by simp[conc]
 | Dl _,m,_=>fun ρ ρ' _=>by simp[conc]
 | .map _,m,_=>fun ρ ρ' _=>by simp[conc]
 | .chan _,m,_=>fun ρ ρ' _=>by simp[conc]
 | .nilFunc,m,_=>fun ρ ρ' _=>by simp[conc]
 | .nilIface,m,_=>fun ρ ρ' _=>by simp[conc]
 | .iface _ _,m,_=>fun ρ ρ' _=>by simp[conc]
theorem au:∀(a:Array Value) (m:Nat),MF a≤m→∀ρ ρ':Ren,Lc m ρ ρ'→lK ρ' a=lK ρ a
 |⟨l⟩,m,h=>fun ρ ρ' ha=>by
  simp only[MF]at h;simp only[lK,Rk l m h ρ ρ' ha]
theorem Rk:∀(l:List Value) (m:Nat),Mb l≤m→∀ρ ρ':Ren,Lc m ρ ρ'→ko ρ' l=ko ρ l
 |[],m,_=>fun ρ ρ' _=>rfl
 |v::r,m,h=>fun ρ ρ' ha=>by
  simp only[Mb]at h;simp only[ko,Ov v m Z ρ ρ' ha,Rk r m Z ρ ρ' ha]
end
theorem Ow:∀{l:List Value} {v:Value},v∈l→bd v≤Mb l:=by
 intro l;induction l with
 |nil=>intro v d;cases d
 |cons a l ih=>
  intro v d;simp only[Mb];rcases DR.1 d with rfl|d
  .omega
  have:=ih d;omega
def rn(W:World)(b:Nat):Option (List Value):=match W.heap[b]? with|some (.cells c _ _)=>some c.toList|_=>none
noncomputable def wh(nm:Nat→Nat)(W:World):Nat→Hp
 |0=>.lf
 |k+1=>match rn W k with|some c=>Tr.put (wh nm W k) (nm k) (some (.ro (c.map (up nm))))|none=>wh nm W k
theorem M4{d:Nat→Nat}(p:∀a b,d a=d b→a=b)(W:World):∀k x y,(wh d W k).at x=some y↔∃b,b<k∧x=d b∧∃c,rn W b=some c∧y=.ro (c.map (up d)):=by
 intro k;induction k with
 |zero=>
  intro x y;constructor
  .intro h;cases h
  rintro⟨b,g,_⟩;omega
 |succ k ih=>
  intro x y;unfold wh;cases hc:rn W k with
  |none=>
   simp only;rw[ih];constructor
   .rintro⟨b,g,h⟩;exact⟨b,Z,h⟩
   rintro⟨b,g,rfl,c,f,i⟩;have:b≠k:=fun e=>by rw[e,hc]at f;cases f
   exact⟨b,Z,rfl,c,f,i⟩
  |some c=>
   simp only;show Tr.get none (Tr.put (wh d W k) (d k) _) x=some y↔_;rw[Tr.get_put none rfl];by_cases hx:x=d k
   .rw[De hx];constructor
    .intro h;injection h with h;exact⟨k,Z,hx,c,hc,h.symm⟩
    rintro⟨b,g,e,q,f,i⟩;have j:b=k:=p _ _ (e.symm.trans hx);rw[j,hc]at f;injection f with f
    rw[i,f]
   rw[CT hx];show(wh d W k).at x=some y↔_;rw[ih];constructor
   .rintro⟨b,g,h⟩;exact⟨b,Z,h⟩
   rintro⟨b,g,e,h⟩;have:b≠k:=fun o=>hx (by rw[e,o]);exact⟨b,Z,e,h⟩
def nm(b:Nat):Nat:=if b=1∨b=0∨b=4 then 3*b else 3*b+2
theorem gG(a b:Nat)(h:nm a=nm b):a=b:=by
 unfold nm at h;split at h<;>split at h<;>omega
def ren0:Ren:=⟨fun x=>x/3,fun _=>0,fun _ _=>rfl,fun g=>by simp⟩
theorem mD(b:Nat):ren0.b (nm b)=b:=by
 unfold nm ren0;split<;>simp<;>omega
theorem Ox(h:b<n):nm b<3*n:=by
 unfold nm;split<;>omega
theorem Rl(b:Nat):gro (nm b)=false:=by
 unfold nm gro;split
 .rw[Nat.mul_mod_right];rfl
 rw[Nat.mul_add_mod];rfl
noncomputable def wH(W:World):Hp:=wh nm W W.heap.size
theorem zpx(W:World):Sim Mv ren0 (wH W) W:=by
 refine⟨fun x y h=>?_,fun x o h f e=>?_⟩
 .obtain⟨b,j,rfl,c,a,rfl⟩:=(M4 gG W _ _ _).1 h;unfold rn at a;split at a
  .rename_i c' e fz hW;injection a with a
   subst a;refine⟨_,by rw[mD];exact hW,e,fz,?_⟩;rw[H2];have:(c'.toList.map (conc ren0 ∘ up nm))=c'.toList:=by
    conv=>rhs;rw[←HS c'.toList]
    exact EQ fun v _=>cC mD (fun _=>rfl) Rl v
   rw[this]
  cases a
 obtain⟨y,g⟩:=Eg.1 h;obtain⟨p,d⟩:=Eg.1 f;obtain⟨b,_,rfl,_⟩:=(M4 gG W _ _ _).1 g;obtain⟨i,_,rfl,_⟩:=(M4 gG W _ _ _).1 d;rw[mD,mD]at e;rw[e]
structure Wn (W:World)(n:Nat):Prop where
 sz:W.heap.size≤n
 le:∀(b:Nat) (c:Array Value) (e:TypeId) (fz:Nat×Nat),W.heap[b]?=some (Obj.cells c e fz)→∀v∈c.toList,bd (up nm v)≤3*n
theorem zr3(W:World)(d:List Value):∃n,20≤n∧Wn W n∧K9 (3*n) (wH W)∧∀v∈d,bd v≤3*n:=by
 have s:∀k,∃m,∀b,b<k→∀c,rn W b=some c→Mb (c.map (up nm))≤m:=by
  intro k;induction k with
  |zero=>exact⟨0,fun b a=>Z⟩
  |succ k ih=>
   obtain⟨m,g⟩:=ih;cases i:rn W k with
   |none=>exact⟨m,fun b a c h=>g b (by(have:b≠k:=fun e=>by rw[e,i]at h;cases h);omega) c h⟩
   |some c'=>
    refine⟨m+Mb (c'.map (up nm)),fun b a c h=>?_⟩;by_cases hbk:b=k
    .rw[hbk,i]at h;injection h with h;subst h;omega
    have:=g b Z c h;omega
 obtain⟨m,g⟩:=s W.heap.size;refine⟨20+W.heap.size+m+Mb d,Z,⟨Z,fun b c e u o v q=>?_⟩,fun x y h=>?_,fun v p=>by have:=Ow p;omega⟩
 .have a:b<W.heap.size:=by
   rcases EG b W.heap.size with j|j
   .exact j
   rw[FA j]at o;cases o
  have w:=g b a c.toList (by unfold rn;rw[o]);have A:=Ow (Ko (f:=up nm) q);omega
 obtain⟨b,a,rfl,c,i,rfl⟩:=(M4 gG W _ _ _).1 h;exact⟨Ox Z,fun v p=>Ov v _ (by have:=Ow p;have:=g b a c i;omega)⟩
theorem jr{W:World}{c:Array Value}{fz:Nat×Nat}(h:W.heap[b]?=some (.cells c e fz)):hv (wH W) (nm b)=some (.ro (c.toList.map (up nm))):=by
 have d:b<W.heap.size:=by
  rcases EG b W.heap.size with a|a
  .exact a
  rw[FA a]at h;cases h
 exact NE ((M4 gG W _ _ _).2 ⟨b,d,rfl,_,by unfold rn;rw[h],rfl⟩)
theorem zc3{W:World}(f:FuncId)(a:List Value)(k:Nat)(u:∀n,20≤n→Wn W n→(∀v∈a.map (up nm),bd v≤3*n)→VF (KO k) f (a.map (up nm)) (hv (wH W)) n fun v=>v=Dk true):
  Calls D6 f a.toArray W fun e C=>e=.returned (Dk true)∧RowKit.Below W.heap.size W C:=by
 obtain⟨n,J,K,B,o⟩:=zr3 W (a.map (up nm));have F:∀v∈a.map (up nm),Nb (3*n) v:=fun v hv=>Ov v _ (o v hv);obtain⟨v,R,S,w,A,p,y,q,s⟩:=u n J K o;rw[p,y,q,s]at A;obtain⟨⟨Z1,D,N,P⟩,L,M⟩:=(Tn k).call f (a.map (up nm)) (wH W) n _ A;obtain⟨p,y,q,s⟩:Z1=Dk true∧hv D=hv (wH W)∧N=n∧P=[]:=by
  simpa [rv]using M
 subst p q s;obtain⟨_,d⟩:=(Tm k).call _ _ _ _ _ _ _ _ L 0 ren0 W (zpx W) B F;have i:((a.map (up nm)).map (conc ren0))=a:=by
  rw[H2]
  conv=>rhs;rw[←HS a]
  exact EQ fun v _=>cC mD (fun _=>rfl) Rl v
 rw[i]at d;refine(callsIn_wide.1 d).mono fun e C⟨ρ',H,g⟩=>⟨by rw[H];simp,?_⟩;exact⟨g.os,g.tape,g.out,g.size,fun j I=>g.fr j I fun b G=>oU G Ds⟩
end
end Go.Proofs.YtfajmfoofmienaaGreatDoor
namespace Go.Proofs.YtfajmfoofmienaaGreatDoor
open Go Go.GL Go.ChangeShapes Go.WideShapes Go.RowKit
variable {fuel base n sz g c i l:Nat}{held:Bool}{H α:Type}{cells cs:List Value}{e t:TypeId}{v:Value}{W:World}
section
set_option maxRecDepth 100000
theorem dH{enc:TypeId×Value→H}{P:Program}{w:World}{d:Nat→Bool}{a:Bool}{k:IntKind}{c:Value}{y:DataW H×List MemPlace}
  (b:P.underlying t=some (.int k))(h:Gz enc P w base d a fuel t [c]=some y):∃n,c=U k n∧y=(.lit (.int k n),[]):=by
 cases fuel with
 |zero=>simp[Gz]at h
 |succ fuel=>
  cases c<;>simp[Gz,b]at h;rename_i k' n;obtain⟨⟨rfl,_⟩,rfl⟩:=h;exact⟨n,rfl,rfl⟩
theorem iL{enc:TypeId×Value→H}{P:Program}{w:World}{G:Nat→Bool}{f:Bool}{k:IntKind}{l:List Int}{p:List MemPlace}
  (D:P.underlying t=some (.array n e))(C:P.underlying e=some (.int k))(o:P.cellsOf e=1)(s:P.cellsOf t=n)
  (h:Gz enc P w base G f fuel t cs=some (.agg (l.map fun z=>.lit (.int k z)),p)):cs=l.map fun z=>U k z:=by
 cases fuel with
 |zero=>simp[Gz]at h
 |succ fuel=>
  simp only[Gz,D]at h;split at h
  .rename_i hl;rw[s]at hl;rw[Option.map_eq_some_iff]at h;obtain⟨A,u,a⟩:=h;simp only[Prod.mk.injEq,DataW.agg.injEq]at a;obtain⟨a,_⟩:=a;have m:=mapM_some_length u;rw[Fg]at m;have I:O l=n:=by
    have:=congrArg O a;simp at this;omega
   apply Fh;intro i;by_cases hi:i<n
   .have j:=mapM_some_get u i i (by simp[hi]);obtain⟨y,c⟩:∃y,A[i]?=some y:=⟨A[i]'Z,Dm Z⟩;rw[c,o,Ek]at j;have B:(cs.drop i).take 1=[cs[i]'Z]:=by
     rw[Fs Z];rfl
    rw[B]at j;obtain⟨z,F,rfl⟩:=dH C j;have b:=congrArg (fun q=>q[i]?) a;simp only[DB,c,JX]at b;obtain⟨z',d⟩:∃z',l[i]?=some z':=⟨l[i]'Z,Dm Z⟩;rw[d]at b;simp only[JX,HR,DataW.lit.injEq,Lit.int.injEq,true_and]at b;rw[Dm Z,F,DB,d,b];rfl
   rw[DS Z,DS eN]
  cases h
theorem zdm{P:Program}{W:World}{a:String}{cs:Array Value}(b:P.globalNamed a=some g)(hv:W.var? P a=some cs):∃e fz,W.heap[g]?=some (.cells cs e fz):=by
 unfold World.var? at hv;rw[b]at hv;simp only[Option.bind_some]at hv;split at hv
 .rename_i cs' e fz h;injection hv with hv
  subst hv;exact⟨e,fz,h⟩
 cases hv
theorem up_u(a:Nat→Nat)(k:IntKind)(l:List Int):(GK.u k l).map (up a)=GK.u k l:=by
 unfold GK.u;rw[H2];exact EQ fun z _=>rfl
def MG:List (String×DataW Unit):=Rows.sdpSlacksRow.laid
def ij (i:Nat):String:=match MG[i]? with|some x=>x.1|none=> ""
theorem g32:D6.globalNamed (ij 0)=some 4:=by kernel_rfl
theorem g64:D6.globalNamed (ij 1)=some 1:=by kernel_rfl
theorem g10:D6.globalNamed (ij 2)=some 0:=by kernel_rfl
def Nw(t:TypeId)(n:Nat)(k:IntKind):Prop:=∃e,D6.underlying t=some (.array n e)∧D6.underlying e=some (.int k)∧D6.cellsOf e=1∧D6.cellsOf t=n
theorem mc{W:World}{a:String}{t:Nat}{k:IntKind}{l:List Int}{cs:Array Value}{p:List MemPlace}(s:D6.globalNamed a=some g)(b:W.var? D6 a=some cs)(j:Nw t n k)
  (q:Gz (fun _=>()) D6 W 0 (fun _=>true) false fuel t cs.toList=some (.agg (l.map fun z=>.lit (.int k z)),p)):hv (wH W) (nm g)=some (.ro (GK.u k l)):=by
 obtain⟨e,c,d,f,i⟩:=j;have o:=iL c d f i q;obtain⟨w,y,m⟩:=zdm s b;have:=jr m;rw[this,o];show some (BF.ro ((GK.u k l).map (up nm)))=_;rw[up_u]
theorem ty32:(D6.globals[4]?).map (·.type)=some 297:=by kernel_rfl
theorem ty64:(D6.globals[1]?).map (·.type)=some 288:=by kernel_rfl
theorem ty10:(D6.globals[0]?).map (·.type)=some 269:=by kernel_rfl
theorem zr7:Nw 297 32 .u8:=⟨5,by kernel_rfl,by kernel_rfl,by kernel_rfl,by kernel_rfl⟩
theorem zr6:Nw 288 64 .u8:=⟨5,by kernel_rfl,by kernel_rfl,by kernel_rfl,by kernel_rfl⟩
theorem zr8:Nw 269 20 .u64:=⟨164,by kernel_rfl,by kernel_rfl,by kernel_rfl,by kernel_rfl⟩
theorem zh1{W:World}(h:laidMet D6 MG W):GK.G (hv (wH W)):=by
 obtain⟨M,a,_,_⟩:=h;obtain⟨D,R,u,A,J,N,b,l,p,f,a,_⟩:=a;obtain⟨F,S,w,B,K,Z1,c,m,q,i,a,_⟩:=a;obtain⟨I,T,y,C,L,P,d,o,s,j,_,_⟩:=a;obtain rfl:=ET (g32.symm.trans b);obtain rfl:=ET (g64.symm.trans c);obtain rfl:=ET (g10.symm.trans d);obtain rfl:=ET (ty32.symm.trans l);obtain rfl:=ET (ty64.symm.trans m);obtain rfl:=ET (ty10.symm.trans o);exact⟨mc c q zr6 i,mc d s zr8 j,mc b p zr7 f⟩
theorem zjo{enc:TypeId×Value→H}{W:World}{d:DataW H}{p:List MemPlace}(q:D6.underlying t=some (.slice e))(T:D6.underlying e=some (.int .i64))(S:D6.cellsOf e=1)
  (hok:H0 D6 W .any base t v)(h:DataW.Trod enc D6 W 0 (fun _=>true) true t v d p)(hn:W.heap.size≤n):∃(a:Option Addr) (l c:Nat) (L:List Int),(∀w,a=some w→w.spot=none)∧v=Y a l c∧up nm v=Y (a.map fun x=>⟨nm x.block,x.off,x.spot⟩) l c∧Sl (hv (wH W)) n 1 (up nm v) (L.map (U .i64)):=by
 obtain⟨fuel,h⟩:=h;rcases open_ints q T S h with⟨m,_⟩|⟨a,o,j,zs,m,_,K,_,M,_,B,_⟩
 .have u:v=Y none 0 0:=by
   cases v<;>simp[FH]at m⊢
   .exact m
   rename_i cs;unfold H0 at hok;rw[q]at hok;simp[Kh,al6,q]at hok
  subst u;exact⟨none,0,0,[],(fun w h=>by cases h),rfl,rfl,.nil (.inl rfl)⟩
 have u:v=Y (some a) o j:=by
  cases v<;>simp[FH]at m⊢
  .exact m
  rename_i cs;unfold H0 at hok;rw[q]at hok;simp[Kh,al6,q]at hok
 subst u;obtain⟨b,f,I⟩:=a;have C:I=none∧∃c e J,W.heap[b]?=some (.cells c e J):=by
  unfold H0 at hok;rw[q]at hok;simp only[Kh,al6,q,World.has]at hok;obtain⟨_,_,_,y,Z0,N,F,_⟩:=hok;refine⟨y,?_⟩;unfold World.shape? at F;split at F
  .exact⟨_,_,_,nN⟩
  cases F
 obtain⟨rfl,c,e',J,A⟩:=C;have V:b<W.heap.size:=by
  rcases EG b W.heap.size with s|s
  .exact s
  rw[FA s]at A;cases A
 refine⟨some ⟨b,f,none⟩,o,j,zs.take o,(fun w h=>by injection h with h;rw[←h]),rfl,rfl,?_⟩;by_cases h0:o=0
 .subst h0;rw[Fe];exact .nil (.inr ⟨nm b,f,none,rfl,Ox Z⟩)
 have Z4:O zs=j:=by simpa using M
 have D:∀i,i<j→c[f+i]?=some (U .i64 (zs.getD i 0)):=fun i G=>by
  have:=B i Z;unfold I0 at this;have Z1:(FX ⟨b,f,none⟩ i).block=b:=by unfold FX;split<;>rfl
  have P:(FX ⟨b,f,none⟩ i).off=f+i:=by unfold FX;split<;>simp_all
  have R:(FX ⟨b,f,none⟩ i).spot=none:=by unfold FX;split<;>rfl
  rw[Z1,A]at this;simp only[P,R]at this;simpa using this
 have Z3:f+j≤c.size:=by
  have y:=D (j-1) Z;rcases EG (f+(j-1)) c.size with s|s
  .omega
  rw[FA s]at y;cases y
 refine .at_ (Ox (show b<n by omega)) (jr A) rfl K eN ?_;rw[Ek];apply Fh;intro i;by_cases G:i<o
 .rw[Eu G,Em,DB,G6,D i Z];rw[DB,Eu G];have:zs.getD i 0=zs[i]'Z:=by simp[show i<O zs from Z]
  rw[this,Dm Z];rfl
 rw[DS eN,DS eN]
end
section
set_option maxRecDepth 100000
mutual
theorem zkp{H:Type}:∀d:DataW H,1≤Rows.uptoBulk d
 | .lit (.string b)=>by simp[Rows.uptoBulk]
 | .lit (.bool b)=>by simp[Rows.uptoBulk]
 | .lit (.int k b)=>by simp[Rows.uptoBulk]
 | .lit (.float k b)=>by simp[Rows.uptoBulk]
 | .lit .nil=>by simp[Rows.uptoBulk]
 | .nil=>by simp[Rows.uptoBulk]
 | .ptr d=>by simp[Rows.uptoBulk]
 | .slice _ _=>by simp[Rows.uptoBulk]
 | .agg _=>by simp[Rows.uptoBulk]
 | .iface _ d=>by simp[Rows.uptoBulk]
 | .map _=>by simp[Rows.uptoBulk]
 | .held _=>by simp[Rows.uptoBulk]
end
theorem cH{H:Type}:∀l:List (DataW H),O l≤Rows.uptoBulkAll l:=by
 intro l;induction l with
 |nil=>simp
 |cons d l ih=>have:=zkp d;simp only[D3,Rows.uptoBulkAll];omega
theorem cG{H:Type}{d:DataW H}:∀{l:List (DataW H)},d∈l→Rows.uptoBulk d≤Rows.uptoBulkAll l:=by
 intro l;induction l with
 |nil=>intro h;cases h
 |cons e l ih=>
  intro h;simp only[Rows.uptoBulkAll];rcases DR.1 h with rfl|h
  .omega
  have:=ih h;omega
theorem zkq{a:Addr}(h:bd (up nm (Y (some a) l c))≤3*n):nm a.block<3*n:=by
 simp only[up,bd]at h;omega
theorem fR(a:Addr)(i:Nat):(a.add i).block=a.block:=by unfold FX;split<;>rfl
theorem Rm(a:Addr)(i:Nat):(a.add i).off=a.off+i:=by unfold FX;split<;>simp_all
theorem fQ(a:Addr):a.add 0=a:=by unfold FX;simp
section
variable {enc:TypeId×Value→H}
theorem zbx{d:DataW H}{p:List MemPlace}(hW:Wn W n)(ht:D6.underlying t=some (.slice e))(a4:D6.cellsOf e=sz)(h0:0<sz)(h:Gz enc D6 W 0 (fun _=>true) held fuel t [v]=some (d,p))(hb:bd (up nm v)≤3*n):
  ∃(a:Option Addr) (l c:Nat) (cells:List Value),v=Y a l c∧Sl (hv (wH W)) n sz (up nm v) (cells.map (up nm))∧O cells=l*sz∧l≤Rows.uptoBulk d∧(∀x∈cells,bd (up nm x)≤3*n)∧
   ∀i,i<l→∃F D q,Gz enc D6 W 0 (fun _=>true) held F e ((cells.drop (i*sz)).take sz)=some (D,q)∧Rows.uptoBulk D≤Rows.uptoBulk d:=by
 rcases Go.Deep.open_slice ht h with⟨hv,Z4⟩|⟨a,f,Z3,m,F,D,P,hv,_,Z1,_,hm,y,N⟩
 .injection hv with hv
  injection Z4 with Z4
  subst hv Z4;exact⟨none,0,0,[],rfl,.nil (.inl rfl),cA,Di,(fun x y=>by cases y),fun i u=>oU u (Fr i)⟩
 injection hv with hv
 injection y with y _
 subst hv y;have a3:m=Z3:=by rw[hm];rfl
 subst a3;rw[a4]at N;have J:nm a.block<3*n:=zkq hb;have a2:f≤Rows.uptoBulk (DataW.slice ((D9 f).map D) ((D9 (m-f)).map fun j=>D (f+j))):=by
  have:=cH ((D9 f).map D);rw[DC,Fg]at this;simp only[Rows.uptoBulk];omega
 have V:∀i,i<f→Rows.uptoBulk (D i)≤Rows.uptoBulk (DataW.slice ((D9 f).map D) ((D9 (m-f)).map fun j=>D (f+j))):=fun i u=>by
  have:=cG (d:=D i) (l:=(D9 f).map D) (Ko (Gy.2 u));simp only[Rows.uptoBulk];omega
 by_cases hc0:m=0
 .have a1:f=0:=Z;subst a1;refine⟨some a,0,m,[],rfl,.nil (.inr ⟨_,_,_,rfl,J⟩),cA,Di,(fun x y=>by cases y),fun i u=>oU u (Fr i)⟩
 have B:∀i,i<m→∃o,Gz enc D6 W 0 (fun _=>true) held F e o=some (D i,P i)∧O o=sz∧∀j,j<sz→W.cell? ((a.add (i*sz)).add j)=o[j]?:=fun i u=>by
  obtain⟨o,s,w⟩:=N i u;obtain⟨_,G,I⟩:=World.cells?_some s;exact⟨o,w,G,I⟩
 have T:a.spot=none∧∃c R S,W.heap[a.block]?=some (.cells c R S):=by
  obtain⟨o,_,w,s⟩:=B 0 Z;have s:=s 0 h0;rw[EI,fQ,fQ,Dm Z]at s;unfold I0 at s;split at s
  .split at s
   .cases s
   rename_i hs;exact⟨by simpa using hs,_,_,_,nN⟩
  cases s
 obtain⟨C,c,R,S,A⟩:=T;obtain⟨b,g,sp⟩:=a;simp only at C A J;subst C;have K:∀i,i<m→∃o,Gz enc D6 W 0 (fun _=>true) held F e o=some (D i,P i)∧O o=sz∧∀j,j<sz→c[g+i*sz+j]?=o[j]?:=fun i u=>by
  obtain⟨o,w,I,G⟩:=B i u;refine⟨o,w,I,fun j L=>?_⟩;rw[←G j L];have e1:((FX ⟨b,g,none⟩ (i*sz)).add j).block=b:=by rw[fR,fR]
  have e2:((FX ⟨b,g,none⟩ (i*sz)).add j).off=g+i*sz+j:=by rw[Rm,Rm]
  have e3:((FX ⟨b,g,none⟩ (i*sz)).add j).spot=none:=by
   unfold FX;split
   .split<;>rfl
   rfl
  unfold I0;rw[e1,A];simp only[e2,e3];rfl
 have a5:g+m*sz≤c.size:=by
  obtain⟨o,_,G,w⟩:=K (m-1) Z;have w:=w (sz-1) Z;rw[Dm Z]at w;rcases EG (g+(m-1)*sz+(sz-1)) c.size with Z0|Z0
  .have:(m-1)*sz+sz=m*sz:=by rw[←Fb];congr 1;omega
   omega
  rw[FA Z0]at w;cases w
 have a7:f*sz≤m*sz:=Dw _ Z1;have M:O ((c.toList.drop g).take (f*sz))=f*sz:=by
  rw[DW,Ea,Array.length_toList];omega
 refine⟨some ⟨b,g,none⟩,f,m,(c.toList.drop g).take (f*sz),rfl,.at_ J (jr A) rfl Z1 (by show g+f*sz≤O (c.toList.map (up nm));simp;omega) (by rw[List.map_take,List.map_drop]),M,a2,fun x y=>hW.le b c R S A x (FB (EB y)),fun i u=>?_⟩;obtain⟨o,s,G,I⟩:=K i Z;have a0:(((c.toList.drop g).take (f*sz)).drop (i*sz)).take sz=o:=by
  have a6:i*sz+sz≤f*sz:=by rw[←Fb];exact Dw _ u
  apply Fh;intro j;by_cases L:j<sz
  .rw[Eu L,Em,Eu Z,Em,G6,←I j L,Nat.add_assoc]
  rw[DS (by rw[DW,Ea,M];omega),DS Z]
 exact⟨F,D i,P i,by rw[a0];exact s,V i u⟩
theorem zro{g:α→List Value}{Q:α→Prop}:∀{l:Nat} {cells:List Value},O cells=l*sz→(∀i,i<l→∃x,(cells.drop (i*sz)).take sz=g x∧Q x)→∃b:List α,O b=l∧cells=b.flatMap g∧∀x∈b,Q x:=by
 intro l;induction l with
 |zero=>intro cells f _;exact⟨[],rfl,List.length_eq_zero_iff.1 (by rw[f,EI]),fun x d=>by cases d⟩
 |succ l ih=>
  intro cells f h;obtain⟨x,d,j⟩:=h 0 Z;rw[EI,List.drop_zero]at d;obtain⟨b,m,o,p⟩:=ih (cells:=cells.drop sz) (by rw[Ea,f,Fb];omega) (fun i q=>by
   obtain⟨y,a,j⟩:=h (i+1) Z;exact⟨y,by rw[ES,←a,Fb,Nat.add_comm],j⟩)
  refine⟨x::b,by rw[D3,m],?_,fun y a=>?_⟩
  .rw[JD,←d,←o,Ep]
  rcases DR.1 a with rfl|a
  .exact j
  exact p y a
theorem zib{c:Value}{y:DataW H×List MemPlace}(a:D6.underlying t=some .string)(h:Gz enc D6 W 0 (fun _=>true) held fuel t [c]=some y):∃s:List UInt8,c=Dl ⟨⟨s⟩⟩:=by
 cases fuel with
 |zero=>simp[Gz]at h
 |succ fuel=>
  cases c<;>simp[Gz,a]at h;rename_i s;exact⟨s.data.toList,rfl⟩
theorem zi4(a:O cells=l*1)(b:i<l):∃v,(cells.drop (i*1)).take 1=[v]:=by
 rw[Ek]at a⊢;exact⟨cells[i]'Z,by rw[Fs Z];rfl⟩
theorem zd3{d:DataW H}{p:List MemPlace}(B:Wn W n)(G:D6.underlying t=some (.slice e))(F:D6.underlying e=some .string)(o:D6.cellsOf e=1)(h:Gz enc D6 W 0 (fun _=>true) held fuel t [v]=some (d,p))(C:bd (up nm v)≤3*n):
  ∃S:List (List UInt8),Sl (hv (wH W)) n 1 (up nm v) (strs S)∧O S≤Rows.uptoBulk d:=by
 obtain⟨a,l,c,cells,rfl,u,b,J,_,w⟩:=zbx B G o zd h C;obtain⟨L,y,f,A⟩:=zro (g:=fun s:List UInt8=>[Dl ⟨⟨s⟩⟩]) (Q:=fun _=>True) b (fun i m=>by
  obtain⟨v,hv⟩:=zi4 b m;obtain⟨I,D,q,j,_⟩:=w i m;rw[hv]at j⊢;obtain⟨z,rfl⟩:=zib F j;exact⟨z,rfl,Df⟩)
 refine⟨L,?_,Z⟩;have:cells.map (up nm)=strs L:=by
  rw[f];clear A f y;induction L with
  |nil=>rfl
  |cons z L ih=>rw[JD,EN,ih];rfl
 rw[←this];exact u
end
end
section
set_option maxRecDepth 100000
section
variable {enc:TypeId×Value→H}
theorem zhf{a:Nat}{t e:TypeId}{v:Value}(b:D6.underlying t=some (.slice e))(hok:H0 D6 W .any a t v):v.cells.toList=[v]:=by
 cases v<;>try rfl
 all_goals (unfold H0 at hok;rw[b]at hok;simp[Kh,al6,b]at hok)
end
end
section
set_option maxRecDepth 100000
theorem own:ownKnob D6.godebug=none:=by kernel_rfl
theorem Rn:laidOutB D6=true:=by kernel_rfl
def jY(c:Array Value):Obj→Obj
 | .cells _ t frozen=>.cells c t frozen
 |o=>o
noncomputable def gU(os:Os):World:=
 {ai7 D6 os ⟨#[],#[],[]⟩with heap:=(((ai7 D6 os ⟨#[],#[],[]⟩).heap.modify 1 (jY GK.d64.toArray)).modify 0 (jY GK.p10.toArray)).modify 4 (jY GK.d32.toArray)}
theorem jZ(os:Os)(a:Array Value):laidMet D6 MG ((gU os).forCall (fun _ _=>0) ⟨#[],a,[]⟩).memory:=
 laidMet_of_run' 8 (by kernel_rfl) (by kernel_rfl)
end
end Go.Proofs.YtfajmfoofmienaaGreatDoor
