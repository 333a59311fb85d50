import Derived.Below
import Derived.Test.YtlmbghgklnmlkaaGreatDoorRows
import Derived.ChangeSame
import Derived.ChangeVars
import Derived.ChangeSlices
import Derived.JoinedOf
import Derived.RowKit
import Derived.RowKitTokens
import Derived.LaidLaws
import Derived.Carry
import Derived.Handed
import Derived.Deep.Slices
import Derived.Test.YtlmbghgklnmlkaaGreatDoorTie
import Derived.Test.YtlmbghgklnmlkaaGreatDoorCards
import Derived.Test.YtlmbghgklnmlkaaGreatDoorChkE
set_option maxHeartbeats 8000000
set_option linter.unusedVariables false
set_option linter.unusedSimpArgs false
namespace Go.Proofs.YtlmbghgklnmlkaaGreatDoor
open Go Go.GL
variable {ρ ρ':Ren}{b m n:Nat}{e:TypeId}
section
variable {h h0:HF}{cx g l lx m n n0:Nat}{T w:List Nat}{v:Value}{ax:Option Addr}{q:Rat}
theorem GroT.text {a:Option Addr}(g:GroT h n (.slice a T.length T.length) T):argS h 1 (.slice a T.length T.length) T.length (u8s T):=vI (Gro.sl g)
theorem GroT.nil (h:HF)(n:Nat):GroT h n (.slice none ([]:List Nat).length ([]:List Nat).length) []:=Gro.nil
theorem zb0:∀(m V:Nat),V<2^m→(decD V).length≤m:=by
 intro m
 induction m with
 |zero=>(intro V h;have:V=0:=by simpa using h);subst this;simp [decD]
 |succ m ih=>
  intro V h
  by_cases h0:V=0
  ·subst h0;simp [decD]
  rw [decD]
  simp only [h0,if_false,↓reduceDIte,↓reduceIte,List.length_cons,List.length_append,List.length_singleton,List.length_nil]
  have:=ih (V/10) (by rw [Nat.pow_succ] at h;omega)
  omega
theorem zbj {x:Int}(h:x.natAbs<2^m):(intN x).length≤m+2:=by
 have h1:(decN x.natAbs).length≤m+1:=by
  unfold decN
  split
  ·simp
  have:=zb0 m _ h
  simp only [decB,List.length_map,List.length_reverse]
  omega
 unfold intN
 rw [List.length_append]
 split<;>simp<;>omega
theorem AS.w_nil {c:Nat}(a:AS h0 n0 (.slice none l c) h n w v T):w=[]:=by
 cases w with
 |nil=>rfl
 |cons b w=>
  obtain ⟨o,l,c,e⟩:=a.hw b List.mem_cons_self
  cases e
theorem et (k:Nat)(hG:GK.G h)(hn:20≤n){b:Bool}{x:Int}(i:IW h n b ax lx cx x)(hx:x.natAbs<2^m)(hm:m≤1920):
  VF (cal (k+9)) 66 [.agg #[.bool b,.slice ax lx cx]] h n fun v=>v=.string ⟨⟨intT x⟩⟩:=by
 refine zA (fn:=Tryz.f66) R4 ?_
 refine zN ?_
 refine nT [.bool b,.slice ax lx cx] R5 ?_
 intro h1 p1 x1
 have i1:=i.ext x1 zs
 refine zM ?_
 refine zN ?_
 refine zK (v:=.agg #[.bool b,.slice ax lx cx]) R5 (zL R2 p1 rfl zb rfl) ?_
 refine zu _ R5 (pu k (rG hG x1 hn) (n:=n+1) zo (GroT.nil h1 (n+1)) (by show 0<10000000;omega) i1 hx hm) ?_
 intro v h2 n2 w2 a2
 obtain ⟨a',rfl⟩:=a2.g.shape
 have hw2:=a2.w_nil
 subst hw2
 refine qH R5 (t9 (B:=[]++intN x) R3 a2.g.text) ?_
 refine zM ?_
 refine zN ?_
 refine retF _ rfl (zi rfl) R2 ?_
 show Value.string _=_
 rw [List.nil_append,ci]
theorem nR {w:Nat}(hw:w≤9223372036854775808)(h0:0<w):IntKind.wrap .i64 ((18446744073709551616-w:Nat):Int)= -(w:Int):=by
 simp only [IntKind.wrap,IntKind.signed,IntKind.bits]
 simp
 omega
theorem zbk (k:Nat){b:Bool}{x:Int}(i:IW h n b ax lx cx x):
  VF (cal (k+1)) 64 [.agg #[.bool b,.slice ax lx cx]] h n fun v=>∃y ok,v=.tuple #[.int .i64 y,.bool ok]∧(ok=true→y=x∧ -9223372036854775808≤x∧x<9223372036854775808):=by
 refine zA (fn:=Tryz.f64) R4 ?_
 obtain ⟨eb,L,hs,nL,hv⟩:=i
 have elx:=hs.lenW
 subst elx
 refine zN ?_
 refine nT [.bool b,.slice ax L.length cx] R5 ?_
 intro h1 p1 x1
 have hs1:=hs.ext x1 zs
 refine zM ?_
 refine zM ?_
 refine zN ?_
 refine zM ?_
 refine zK (v:=.slice ax L.length cx) R5 (z8 rfl p1 R2) ?_
 by_cases h0:L=[]
 ·subst h0
  have hx0:x=0:=by
   have:x.natAbs=0:=hv.symm.trans rfl
   omega
  repeat refine zR ?_
  refine zN ?_
  rw [zc rfl]
  refine zN ?_
  repeat refine zR ?_
  refine zN ?_
  exact retF [.int .i64 0,.bool true] rfl (y6 rfl (y6 rfl rP)) R2 ⟨_,_,rfl,fun _=>⟨hx0.symm,zo,zo⟩⟩
 have hl0:L.length≠0:=fun e=>h0 (List.length_eq_zero_iff.1 e)
 obtain ⟨w,L',rfl⟩:∃w L',L=w::L':=by
  cases L with
  |nil=>exact absurd rfl h0
  |cons w L'=>exact ⟨w,L',rfl⟩
 have hw64:w<18446744073709551616:=nL.1 w (by simp)
 repeat refine zR ?_
 refine zN ?_
 rw [za rfl]
 refine zN ?_
 refine zM ?_
 refine zK (v:=.slice ax (w::L').length cx) R5 (z8 rfl p1 R2) ?_
 refine z6 (f:=fun d:Nat=>Value.int .u64 (d:Int)) (j:=0) (dv:=w) R7 hs1 R2 rfl (fun _=>rfl) R4 fun _=>?_
 refine zM ?_
 refine zN ?_
 refine zM ?_
 refine zK (v:=.slice ax (w::L').length cx) R5 (z8 rfl p1 R2) ?_
 by_cases h1:L'=[]
 ·subst h1
  rw [qw] at hv
  have hw0:w≠0:=nL.last (l:=[])
  refine zM ?_
  refine pW R6 (by show ¬(((1:Nat):Int)>1);omega) ?_
  refine zM ?_
  refine zN ?_
  rw [za rfl]
  refine zN ?_
  refine zM ?_
  refine zK (v:=.bool b) R5 (z8 rfl p1 R2) ?_
  cases b
  ·have hx0:0≤x:=Int.not_lt.1 (of_decide_eq_false eb.symm)
   repeat refine zR ?_
   refine zN ?_
   rw [za rfl]
   refine zN ?_
   refine zM ?_
   refine zK (v:=.bool false) R5 (z8 rfl p1 R2) ?_
   by_cases hlt:w≤9223372036854775807
   ·refine zM ?_
    refine zM ?_
    refine zM ?_
    refine rN R6 zo ?_
    refine zM ?_
    refine zM ?_
    refine zN ?_
    rw [zc rfl]
    refine zN ?_
    refine zM ?_
    refine wX (a:=(w:Int)) R7 zo ?_
    refine zM ?_
    refine zM ?_
    refine zN ?_
    exact retF [.int .i64 (w:Int),.bool true] rfl (y6 rfl (y6 rfl rP)) R2 ⟨_,_,rfl,fun _=>⟨zo,zo,zo⟩⟩
   refine zM ?_
   refine zM ?_
   refine zM ?_
   refine qJ R6 zo ?_
   refine zM ?_
   refine zM ?_
   refine zN ?_
   rw [za rfl]
   refine zN ?_
   refine zM ?_
   refine zM ?_
   refine zN ?_
   exact retF [.int .i64 0,.bool false] rfl (y6 rfl (y6 rfl rP)) R2 ⟨_,_,rfl,fun e=>by cases e⟩
  have hx0:x<0:=of_decide_eq_true eb.symm
  by_cases hlt:w≤9223372036854775808
  ·refine zM ?_
   refine zM ?_
   refine rN R6 zo ?_
   refine zM ?_
   refine zM ?_
   refine zN ?_
   rw [zc rfl]
   refine zN ?_
   refine zM ?_
   refine zF (v:=.int .u64 ((18446744073709551616-w:Nat):Int)) R4 (dP hw64 hw0) ?_
   refine wY (ik:=.i64) (a:= -(w:Int)) R6 (by show some (Value.int .i64 (IntKind.wrap .i64 _))=_;rw [nR hlt zo]) ?_
   refine zM ?_
   refine zM ?_
   refine zN ?_
   exact retF [.int .i64 (-(w:Int)),.bool true] rfl (y6 rfl (y6 rfl rP)) R2 ⟨_,_,rfl,fun _=>⟨zo,zo,zo⟩⟩
  refine zM ?_
  refine zM ?_
  refine qJ R6 zo ?_
  refine zM ?_
  refine zM ?_
  refine zN ?_
  rw [za rfl]
  refine zN ?_
  refine zM ?_
  refine zK (v:=.bool true) R5 (z8 rfl p1 R2) ?_
  repeat refine zR ?_
  refine zN ?_
  rw [za rfl]
  refine zN ?_
  refine zM ?_
  refine zM ?_
  refine zN ?_
  exact retF [.int .i64 0,.bool false] rfl (y6 rfl (y6 rfl rP)) R2 ⟨_,_,rfl,fun e=>by cases e⟩
 have hl2:2≤(w::L').length:=by
  cases L' with
  |nil=>exact absurd rfl h1
  |cons _ _=>simp
 refine zM ?_
 refine qK R6 zo ?_
 refine zM ?_
 refine zN ?_
 rw [zc rfl]
 refine zN ?_
 refine zM ?_
 refine zM ?_
 refine zN ?_
 exact retF [.int .i64 0,.bool false] rfl (y6 rfl (y6 rfl rP)) R2 ⟨_,_,rfl,fun e=>by cases e⟩
theorem oj (h:denZ q=0):ratT q=intT q.num:=by
 unfold ratT intT
 rw [if_pos (yZ.1 h),List.append_nil]
theorem dp (h:¬denZ q=0):ratT q=(intN q.num++[47]++intN (denZ q)).map UInt8.ofNat:=by
 rw [List.map_append,List.map_append,ci,ci,vF h]
 unfold ratT intT
 rw [if_neg (mt yZ.2 h),if_neg (show ¬((q.den:Nat):Int)<0 by omega)]
 simp only [List.append_assoc,Int.natAbs_natCast]
 rfl
theorem rQ (k:Nat)(hG:GK.G h)(hn:20≤n){b d:Bool}{a e:Option Addr}{c f:Nat}(i:IW h n b a l c q.num)(j:IW h n d e f g (denZ q))(hq:Sz m q)(hm:m≤1920):
  VF (cal (k+10)) 30 [.agg #[.bool b,.slice a l c,.bool d,.slice e f g]] h n fun v=>v=.string ⟨⟨ratT q⟩⟩:=by
 refine zA (fn:=Tryz.f30) R4 ?_
 refine zN ?_
 refine nT [.bool b,.slice a l c,.bool d,.slice e f g] R5 ?_
 intro h1 p1 x1
 have i1:=i.ext x1 zs
 have j1:=j.ext x1 zs
 have hG1:=rG hG x1 hn
 refine zM ?_
 refine zN ?_
 refine zM ?_
 refine zK (v:=.agg #[.bool d,.slice e f g]) R5 (zL R2 p1 rfl zb rfl) ?_
 refine yg _ R5 (jW (k+8) j1) ?_
 rintro _ ⟨z,rfl,hz⟩
 refine zN ?_
 cases z
 ·have hz:¬denZ q=0:=fun e=>by cases hz.2 e
  rw [za rfl]
  refine zN ?_
  refine zM ?_
  refine zK (v:=.agg #[.bool b,.slice a l c]) R5 (zL R2 p1 rfl zb rfl) ?_
  refine zu _ R5 (pu (k+1) hG1 (n:=n+1) zo (GroT.nil h1 (n+1)) (by show 0<10000000;omega) i1 hq.1 hm) ?_
  intro v h2 n2 w2 a2
  obtain ⟨a',rfl⟩:=a2.g.shape
  have hw2:=a2.w_nil
  subst hw2
  have x2:Ext (n+1) h1 h2:=fun b hb=>a2.keep b hb fun o l c e=>by cases e
  have hn2:=a2.hn
  refine uE [.int .u8 47] (l:=1) (c:=1) R5 ?_
  intro h3 p3 x3
  have gT:GroT h3 (n2+1) _ _:=a2.g.ext x3 zs
  have hln:(intN q.num).length≤1922:=Nat.le_trans (zbj hq.1) zo
  have hA:AS h (ctx (k+9) n 0).n0 (.slice none 0 0) h3 (n2+1) [] _ ([]++intN q.num):=⟨by show n≤n2+1;omega,fun b hb _=>(x3 b (by have hb:b<3*n:=hb;omega)).trans ((x2 b (by have hb:b<3*n:=hb;omega)).trans (x1 b hb)),fun b hb=>absurd hb List.not_mem_nil,gT,by rcases a2.or with h|h;exact .inl h;exact .inr (h.mono (Nat.le_succ n))⟩
  refine qM (m:=1) (new:=[47]) R9 zb rfl (wy p3 R2) (Nat.le_refl _) rfl (by show (([]++intN q.num).length+1)*1≤_;rw [List.nil_append];omega) hA ?_
  intro v' h4 w4 a4 k4
  obtain ⟨a5,rfl⟩:=a4.g.shape
  have hw4:=a4.w_nil
  subst hw4
  have p4:h4 (3*n+2)=_:=(gT.keepB k4 (zX n) zo).trans ((x3 _ zo).trans ((x2 _ zo).trans p1))
  have x13:Ext (n+1) h1 h3:=x2.trans x3 zo
  have hG3:GK.G h3:=rG hG1 x13 zo
  have hG4:GK.G h4:=G_fr hG3 fun b hb hg=>gT.keepB k4 hg zo
  obtain ⟨ej,Lj,hsj,nLj,hvj⟩:=j1.ext x13 (show n+1≤n2+1 by omega)
  have j4:IW h4 (n2+1+1) d e f g (denZ q):=⟨ej,Lj,hsj.kept k4 gT zs,nLj,hvj⟩
  refine zM ?_
  refine zN ?_
  refine zM ?_
  refine zK (v:=.agg #[.bool d,.slice e f g]) R5 (zL R2 p4 rfl zb rfl) ?_
  refine zM ?_
  refine zu _ R5 (pu (k+1) hG4 (n:=n2+1+1) zo a4.g (by rw [List.length_append,List.nil_append];simp;omega) j4 (by rw [vF hz,Int.natAbs_natCast];exact hq.2) hm) ?_
  intro v h5 n5 w5 a6
  obtain ⟨a7,rfl⟩:=a6.g.shape
  have hw5:addW (ctx (k+9) n 0).n0 w5 []=[]:=(a4.trans a6).w_nil
  refine qH R5 (t9 (B:=[]++intN q.num++[47]++intN (denZ q)) R3 a6.g.text) ?_
  refine zM ?_
  refine zN ?_
  refine retF _ rfl (zi rfl) ⟨rfl,hw5⟩ ?_
  show Value.string _=_
  rw [List.nil_append,dp hz]
 have hz:denZ q=0:=hz.1 rfl
 rw [zc rfl]
 refine zN ?_
 refine zM ?_
 refine zK (v:=.agg #[.bool b,.slice a l c]) R5 (zL R2 p1 rfl zb rfl) ?_
 refine yg _ R5 (zbk (k+8) i1) ?_
 rintro _ ⟨y,ok,rfl,hy⟩
 refine zM ?_
 refine zM ?_
 refine zM ?_
 refine zM ?_
 refine zM ?_
 refine zN ?_
 refine zM ?_
 refine zN ?_
 cases ok
 ·rw [za rfl]
  refine zN ?_
  refine zM ?_
  refine zK (v:=.agg #[.bool b,.slice a l c]) R5 (zL R2 p1 rfl zb rfl) ?_
  refine yg _ R5 (et k hG1 (n:=n+1) zo i1 hq.1 hm) ?_
  rintro _ rfl
  refine zM ?_
  refine zN ?_
  exact retF _ rfl (zi rfl) R2 (by rw [oj hz];rfl)
 obtain ⟨rfl,hy1,hy2⟩:=hy rfl
 rw [zc rfl]
 refine zN ?_
 refine zM ?_
 refine yg _ R5 (kM (k+4) hG1 (n:=n+1) zo ⟨hy1,hy2⟩) ?_
 rintro _ rfl
 refine zM ?_
 refine zN ?_
 exact retF _ rfl (zi rfl) R2 (by rw [oj hz];rfl)
end
section
def allN (S:List (List UInt8)):Prop:=∀s∈S,xM s
noncomputable def valQ (p:LPD)(S:List (List UInt8)):Rat:=dotR (p.obj.map zB) ((S.map zB).take (p.obj.map zB).length)
noncomputable def bndQ (p:LPD)(R C:List (List UInt8)):Rat:=sumS (yj p) ((R.map zB).take (yj p).length)+sumS (yP p) ((C.map zB).take (yP p).length)
def feaP (p:LPD)(S:List (List UInt8)):Prop:=inS (yP p) (S.map zB)∧∀d∈yj p,zav (S.map zB) d
def bndP (p:LPD)(R C:List (List UInt8)):Prop:=okS (yj p) (R.map zB)∧okS (yP p) (C.map zB)
open Classical in
open Classical in
open Classical in
section
variable {p:LPD}{S R C:List (List UInt8)}
open Classical in
open Classical in
end
theorem Txt.nums {b:Nat}{S:List (List UInt8)}(h:∀s∈S,Txt b s):∀q∈S.map zB,Sz b q:=by
 intro q hq
 obtain ⟨s,hs,rfl⟩:=List.mem_map.1 hq
 exact (h s hs).2
theorem VLP.rwb {a:Nat}{p:LPD}(h:VLP p)(hp:LPB a p):RwB a p.obj.length (yj p):=by
 intro d hd
 obtain ⟨r,hr,rfl⟩:=List.mem_map.1 hd
 exact ⟨Txt.nums (hp.rl r hr).2.2.2,by show (r.A.map zB).length≤_;rw [List.length_map,(h.rw r hr).2.2];exact Nat.le_refl _⟩
theorem VLP.cols {p:LPD}(h:VLP p):(yP p).length=p.obj.length:=by rw [mV (h.ll.trans h.lu.symm),h.ll]
end
section
end
section
variable {a b:Nat}{p:LPD}{R S:List (List UInt8)}
theorem ed (hp:∀s∈p.obj,Txt a s)(hS:∀s∈S,Txt b s)(hl:p.obj.length≤S.length):Sz (1+p.obj.length*(a+b+1)) (valQ p S):=by
 have h:=ph (Txt.nums hp) (Txt.nums hS) (p.obj.map zB).length (Nat.le_refl _) (by rw [List.length_map,List.length_map];exact hl)
 rw [List.take_length,List.length_map] at h
 unfold valQ
 rw [List.length_map]
 exact h.mono zo
theorem ah {C:List (List UInt8)}(hv:VLP p)(hp:LPB a p)(hR:∀s∈R,Txt b s)(hC:∀s∈C,Txt b s)(hl:R.length=p.rows.length∧C.length=p.obj.length):Sz (1+p.rows.length*(a+b+1)+p.obj.length*(a+b+1)) (bndQ p R C):=by
 have h1:=sc (LPB.rows hp) (Txt.nums hR) (yj p).length (Nat.le_refl _) (by rw [List.length_map,zY];omega)
 rw [List.take_length,zY] at h1
 have h2:=oQ (LPB.cols hp) (Txt.nums hC) h1 (yP p).length (Nat.le_refl _) (by rw [List.length_map,hv.cols];omega)
 rw [List.take_length,hv.cols] at h2
 unfold bndQ
 rw [zY,hv.cols]
 exact h2.mono zo
end
section
def zhk (p:LPD)(R C:List (List UInt8))(W:List Rat):Prop:=hS Eq (xO (yj p) (R.map zB) (C.map zB) (yj p).length 0) W
def dirP (p:LPD)(Y:List (List UInt8)):Prop:=hS (fun d q=>dirB q d.lo d.hi) (yP p) (Y.map zB)∧∀d∈yj p,rowH dirB (Y.map zB) d
structure PR1 (p:LPD)(V:List UInt8)(X Y R C:List (List UInt8)):Prop where
 ax:allN X
 lx:X.length=p.obj.length
 fx:feaP p X
 ar:allN R
 lr:R.length=p.rows.length
 ac:allN C
 lc:C.length=p.obj.length
 ly:Y.length=0
 vx:ratT (valQ p X)=V
 bo:bndP p R C
 vb:ratT (bndQ p R C)=V
 co:zhk p R C (p.obj.map zB)
structure PR2 (p:LPD)(V:List UInt8)(X Y R C:List (List UInt8)):Prop where
 ar:allN R
 lr:R.length=p.rows.length
 ac:allN C
 lc:C.length=p.obj.length
 lx:X.length=0
 ly:Y.length=0
 v0:V=[]
 bo:bndP p R C
 sb:0<(bndQ p R C).num
 co:zhk p R C (List.replicate p.obj.length 0)
structure PR3 (p:LPD)(V:List UInt8)(X Y R C:List (List UInt8)):Prop where
 ax:allN X
 lx:X.length=p.obj.length
 fx:feaP p X
 ay:allN Y
 ly:Y.length=p.obj.length
 lr:R.length=0
 lc:C.length=0
 v0:V=[]
 sy:(valQ p Y).num<0
 dy:dirP p Y
def prv (p:LPD)(o:Int)(V:List UInt8)(X Y R C:List (List UInt8)):Prop:=o=1∧PR1 p V X Y R C∨o=2∧PR2 p V X Y R C∨o=3∧PR3 p V X Y R C
section
variable {p:LPD}{o:Int}{V:List UInt8}{X Y R C:List (List UInt8)}
theorem wt (h:o=1):prv p o V X Y R C↔PR1 p V X Y R C:=⟨fun hq=>by rcases hq with hq|hq|hq;exact hq.2;omega;omega,fun hq=>.inl ⟨h,hq⟩⟩
theorem xU (h:o=2):prv p o V X Y R C↔PR2 p V X Y R C:=⟨fun hq=>by rcases hq with hq|hq|hq;omega;exact hq.2;omega,fun hq=>.inr (.inl ⟨h,hq⟩)⟩
theorem yW (h:o=3):prv p o V X Y R C↔PR3 p V X Y R C:=⟨fun hq=>by rcases hq with hq|hq|hq;omega;omega;exact hq.2,fun hq=>.inr (.inr ⟨h,hq⟩)⟩
theorem PR1.len (y:PR1 p V X Y R C):X.length=p.obj.length∧R.length=p.rows.length∧C.length=p.obj.length∧Y.length=0:=⟨y.lx,y.lr,y.lc,y.ly⟩
theorem PR2.len (y:PR2 p V X Y R C):X.length=0∧R.length=p.rows.length∧C.length=p.obj.length∧Y.length=0∧V.length=0:=⟨y.lx,y.lr,y.lc,y.ly,congrArg List.length y.v0⟩
theorem PR3.len (y:PR3 p V X Y R C):X.length=p.obj.length∧R.length=0∧C.length=0∧Y.length=p.obj.length∧V.length=0:=⟨y.lx,y.lr,y.lc,y.ly,congrArg List.length y.v0⟩
theorem sW {S:List (List UInt8)}(h:S.length=0):allN S:=fun s hs=>by rw [List.length_eq_zero_iff.1 h] at hs;cases hs
theorem o8 (h:prv p o V X Y R C):allN X∧allN Y∧allN R∧allN C:=by
 rcases h with ⟨_,h⟩|⟨_,h⟩|⟨_,h⟩
 ·exact ⟨h.ax,sW h.ly,h.ar,h.ac⟩
 ·exact ⟨sW h.lx,sW h.ly,h.ar,h.ac⟩
 exact ⟨h.ax,h.ay,sW h.lr,sW h.lc⟩
end
end
section
variable {h:HF}{a b co cq cr cu cw cx cy cz fq gq i j k lo lq lr lu lw lx ly lz n:Nat}{dq sq:Bool}{ao aq ar au aw ax ay az eq:Option Addr}{q:Rat}{hi:List UInt8}{rs:List SideD}{ms xs ys:List Rat}{p:LPD}
theorem aH (k:Nat)(iq:UI h n sq aq lq cq q.num)(jq:UI h n dq eq fq gq (denZ q)){lo:List UInt8}:VF (cal (k+3)) 86 [.agg #[.bool sq,.slice aq lq cq,.bool dq,.slice eq fq gq],.string ⟨⟨lo⟩⟩,.string ⟨⟨hi⟩⟩] h n fun v=>∃b:Bool,v=.bool b∧(b=true↔dirB q lo hi):=by
 refine zA (fn:=Tryz.f86) R4 ?_
 refine zG ?_
 refine sB [.bool sq,.slice aq lq cq,.bool dq,.slice eq fq gq] ?_
 intro h11 p11 x11
 refine zG ?_
 by_cases q12:lo=[]
 ·refine yB true R6 (by simp [q12]) ?_
  refine zG ?_
  by_cases q13:hi=[]
  ·refine yB true R6 (by simp [q13]) ?_
   refine zf ?_
   exact zye (⟨.inl (q12),.inl (q13)⟩)
  refine yB false R6 (by simp [q13]) ?_
  refine zG ?_
  refine sC (wZ _ (iq.x zx) (jq.x zx)) ?_
  rintro _ h14 n14 ⟨s14,rfl,q14⟩ y14 x14
  rcases q14 with ⟨rfl,q14⟩|⟨rfl,q14⟩|⟨rfl,q14⟩
  ·refine zf ?_
   exact zye (⟨.inl (q12),.inr zo⟩)
  ·refine zf ?_
   exact zye (⟨.inl (q12),.inr zo⟩)
  refine zf ?_
  exact zno fun hq=>by rcases hq.2 with hq|hq;exact absurd hq q13;omega
 refine yB false R6 (by simp [q12]) ?_
 refine zG ?_
 refine sC (wZ _ (iq.x zx) (jq.x zx)) ?_
 rintro _ h15 n15 ⟨s15,rfl,q15⟩ y15 x15
 rcases q15 with ⟨rfl,q15⟩|⟨rfl,q15⟩|⟨rfl,q15⟩
 ·refine zf ?_
  exact zno fun hq=>by rcases hq.1 with hq|hq;exact absurd hq q12;omega
 ·refine zG ?_
  by_cases q16:hi=[]
  ·refine yB true R6 (by simp [q16]) ?_
   refine zf ?_
   exact zye (⟨.inr zo,.inl (q16)⟩)
  refine yB false R6 (by simp [q16]) ?_
  refine zG ?_
  refine sC (wZ _ (iq.x zx) (jq.x zx)) ?_
  rintro _ h17 n17 ⟨s17,rfl,q17⟩ y17 x17
  rcases q17 with ⟨rfl,q17⟩|⟨rfl,q17⟩|⟨rfl,q17⟩
  ·exact absurd q17 zo
  ·refine zf ?_
   exact zye (⟨.inr zo,.inr zo⟩)
  exact absurd q17 zo
 refine zG ?_
 by_cases q18:hi=[]
 ·refine yB true R6 (by simp [q18]) ?_
  refine zf ?_
  exact zye (⟨.inr zo,.inl (q18)⟩)
 refine yB false R6 (by simp [q18]) ?_
 refine zG ?_
 refine sC (wZ _ (iq.x zx) (jq.x zx)) ?_
 rintro _ h19 n19 ⟨s19,rfl,q19⟩ y19 x19
 rcases q19 with ⟨rfl,q19⟩|⟨rfl,q19⟩|⟨rfl,q19⟩
 ·exact absurd q19 zo
 ·exact absurd q19 zo
 refine zf ?_
 exact zno fun hq=>by rcases hq.2 with hq|hq;exact absurd hq q18;omega
theorem pp {cs:List Rat}{c:Rat}(h:cs[k]?=some c):(xO rs ms cs i 0)[k]?=some (colQ rs ms c k i):=by
 rw [wC h,if_neg (Nat.not_lt_zero _)]
theorem oG {c:Rat}{d:SideD}{a m:Rat}(h1:rs[i]?=some d)(h2:d.A[j]?=some a)(h3:ms[i]?=some m):colQ rs ms c j i+m*a=colQ rs ms c j (i+1):=by
 rw [Rat.mul_comm,mW h1 h2 h3]
theorem zco (k:Nat)(io:Sl h n 1 (.slice ao lo co) (strs p.obj))(ir:RWS h n (.slice ar lr cr) p.rows)(iw:Sl h n 1 (.slice aw lw cw) (strs p.lower))(iu:Sl h n 1 (.slice au lu cu) (strs p.upper))(hp:LPB a p)(ha:a+a≤2000)(hv:VLP p){zs:List Rat}(ix:NS h n (.slice ax lx cx) xs)(iy:NS h n (.slice ay ly cy) ys)(iz:NS h n (.slice az lz cz) zs){e:Nat}(sxs:∀q∈xs,Sz b q)(sys:∀q∈ys,Sz b q)(szs:∀q∈zs,Sz e q)(hxl:xs.length=p.rows.length)(hyl:ys.length=p.obj.length)(hzl:zs.length=p.obj.length)(hb:xs.length*(a+b+1)+a+b+b+e+2≤1900):VF (cal (k+9)) 84 [.agg #[.slice ao lo co,.slice ar lr cr,.slice aw lw cw,.slice au lu cu],.slice ax lx cx,.slice ay ly cy,.slice az lz cz] h n fun v=>∃b:Bool,v=.bool b∧(b=true↔hS Eq (xO (yj p) xs ys (yj p).length 0) zs):=by
 have hsa:=fun d hd=>(hv.rwb hp d hd).1
 have lenR:=zY p
 have lo1:=zv io
 have lr1:=ir.len
 have lw1:=zv iw
 have lu1:=zv iu
 obtain ⟨hob,hlw,hup,hrl,hn1,hn2,hn3,hn4⟩:=hp
 have lx1:=ix.len
 have ly1:=iy.len
 have lz1:=iz.len
 have hln:=Nat.le_mul_of_pos_right xs.length (show 0<a+b+1 by omega)
 refine zA (fn:=Tryz.f84) R4 ?_
 refine zG ?_
 refine sB [.slice ao lo co,.slice ar lr cr,.slice aw lw cw,.slice au lu cu] ?_
 intro h11 p11 x11
 refine zG ?_
 refine sF (α:=Nat) (fun z=>[(1,.slice ax lx cx),(2,.slice ay ly cy),(3,.slice az lz cz),(4,.pointer (some ⟨3*n+2,0,none⟩)),(9,.int .i64 (z:Int))]) (fun z h' n' w'=>w'=[]∧n+1≤n'∧ExtB (n+1) [] h11 h'∧z≤ys.length∧hT Eq (xO (yj p) xs ys (yj p).length 0) zs z) (fun z=>ys.length-z) 0 ⟨rfl,Nat.le_refl _,ExtB.refl _ _ _,(Nat.zero_le _),(hT.zero _ _)⟩ ?_
 rintro j t h12 n12 _ ⟨rfl,y12,Y12,hj,hin⟩
 have hj:j≤ys.length:=hj
 have hin:hT Eq (xO (yj p) xs ys (yj p).length 0) zs j:=hin
 refine zG ?_
 by_cases q13:(j:Int)<(ly:Int)
 ·refine zG ?_
  obtain ⟨d14,g14⟩:∃d,(ys)[j]?=some d:=⟨_,List.getElem?_eq_getElem zo⟩
  obtain ⟨k14,o14,b14,a14,l14,c14,u14,v14,w14,x14,e14,m14,r14,t14,i14,j14⟩:=NS.at iy g14
  refine sI e14 r14 ?_
  refine sL t14 m14 0 ?_
  refine sA ?_
  intro h15 p15 x15
  refine sS [.bool b14,.slice a14 l14 c14,.bool u14,.slice v14 w14 x14] ?_
  intro h16 p16 o16
  refine zG ?_
  refine sF (α:=Nat×Bool×Option Addr×Nat×Nat×Bool×Option Addr×Nat×Nat) (fun z=>[(1,.slice ax lx cx),(2,.slice ay ly cy),(3,.slice az lz cz),(4,.pointer (some ⟨3*n+2,0,none⟩)),(9,.int .i64 (j:Int)),(10,.pointer (some ⟨3*n12+2,0,none⟩)),(11,.int .i64 (z.1:Int))]) (fun z h' n' w'=>w'=[]∧n12+1≤n'∧ExtB (n12+1) [3*n12+2] h16 h'∧h' (3*n12+2)=some (.row [.bool z.2.1,.slice z.2.2.1 z.2.2.2.1 z.2.2.2.2.1,.bool z.2.2.2.2.2.1,.slice z.2.2.2.2.2.2.1 z.2.2.2.2.2.2.2.1 z.2.2.2.2.2.2.2.2] 75)∧UI h' n' z.2.1 z.2.2.1 z.2.2.2.1 z.2.2.2.2.1 ((colQ (yj p) xs d14 j z.1).num)∧UI h' n' z.2.2.2.2.2.1 z.2.2.2.2.2.2.1 z.2.2.2.2.2.2.2.1 z.2.2.2.2.2.2.2.2 (denZ (colQ (yj p) xs d14 j z.1))∧z.1≤xs.length) (fun z=>xs.length-z.1) (0,b14,a14,l14,c14,u14,v14,w14,x14) ⟨rfl,Nat.le_refl _,ExtB.refl _ _ _,p16,(i14.x zx),(j14.x zx),(Nat.zero_le _)⟩ ?_
  rintro ⟨i,bS,aS,lS,kS,uS,vS,wS,xS⟩ t h17 n17 _ ⟨rfl,y17,Y17,p17_0,i17_0_0,i17_0_1,hi⟩
  have p17_0:h17 (3*n12+2)=some (.row [.bool bS,.slice aS lS kS,.bool uS,.slice vS wS xS] 75):=p17_0
  have i17_0_0:UI h17 n17 bS aS lS kS ((colQ (yj p) xs d14 j i).num):=i17_0_0
  have i17_0_1:UI h17 n17 uS vS wS xS (denZ (colQ (yj p) xs d14 j i)):=i17_0_1
  have hi:i≤xs.length:=hi
  have hjm:i*(a+b+1)≤xs.length*(a+b+1):=Nat.mul_le_mul_right _ hi
  refine zG ?_
  by_cases q18:(i:Int)<(lx:Int)
  ·refine zG ?_
   refine zj [0,0,0,6,14,0,32,0,224,480,992,0,4064,8160,16352,32766,65535,131071] rfl ?_
   refine zH ?_
   obtain ⟨d19,g19⟩:∃d,(xs)[i]?=some d:=⟨_,List.getElem?_eq_getElem zo⟩
   obtain ⟨k19,o19,b19,a19,l19,c19,u19,v19,w19,x19,e19,m19,r19,t19,i19,j19⟩:=NS.at ix g19
   refine dI e19 r19 ?_
   refine dL t19 m19 0 ?_
   refine zH ?_
   obtain ⟨d20,g20⟩:∃d,(p.rows)[i]?=some d:=⟨_,List.getElem?_eq_getElem zo⟩
   obtain ⟨k20,o20,a20,l20,c20,e20,m20,r20,t20,i20⟩:=RWS.at ir g20
   have la20:=zv i20
   have lb20:=(hv.rw _ (List.mem_of_getElem? g20)).2.2
   refine dI e20 r20 ?_
   refine zH ?_
   refine dL t20 m20 0 ?_
   refine zH ?_
   obtain ⟨d21,g21⟩:∃d,(d20.A)[j]?=some d:=⟨_,List.getElem?_eq_getElem zo⟩
   obtain ⟨k21,o21,e21,m21,r21,t21⟩:=yy i20 g21
   refine dI e21 r21 ?_
   refine dL t21 m21 0 ?_
   refine dC (numU _ _ _ d21 (Nat.lt_of_lt_of_le ((hrl _ (List.mem_of_getElem? g20)).2.2.2 _ (List.mem_of_getElem? g21)).1 zd)) ?_
   rintro _ h22 n22 ⟨b22,a22,l22,c22,d22,e22,f22,g22,rfl,i22,j22⟩ y22 x22
   refine dC (zax _ (i19.x zx) (j19.x zx) i22 j22 (sxs _ (List.mem_of_getElem? g19)) ((hrl _ (List.mem_of_getElem? g20)).2.2.2 _ (List.mem_of_getElem? g21)).2 zo) ?_
   rintro _ h23 n23 ⟨b23,a23,l23,c23,d23,e23,f23,g23,rfl,i23,j23⟩ y23 x23
   refine dC (dr _ (i17_0_0.t zt) (i17_0_1.t zt) i23 j23 (jg hsa sxs (sys _ (List.mem_of_getElem? g14)) _ _) ((sxs _ (List.mem_of_getElem? g19)).mul ((hrl _ (List.mem_of_getElem? g20)).2.2.2 _ (List.mem_of_getElem? g21)).2) zo) ?_
   rintro _ h24 n24 ⟨b24,a24,l24,c24,d24,e24,f24,g24,rfl,i24,j24⟩ y24 x24
   refine dS [.bool b24,.slice a24 l24 c24,.bool d24,.slice e24 f24 g24] ?_
   intro h25 p25 o25
   refine zG ?_
   exact sK (i+1,b24,a24,l24,c24,d24,e24,f24,g24) ⟨rfl,zo,zy,p25,((i24.t zt).as (congrArg Rat.num (oG (xY g20) (jR g21) g19))),((j24.t zt).as (congrArg denZ (oG (xY g20) (jR g21) g19))),(by show i+1≤xs.length;omega)⟩
  refine zG ?_
  have hie:i=p.rows.length:=zo
  refine zj [0,0,0,6,14,31,63] rfl ?_
  refine zH ?_
  obtain ⟨d26,g26⟩:∃d,(zs)[j]?=some d:=⟨_,List.getElem?_eq_getElem zo⟩
  obtain ⟨k26,o26,b26,a26,l26,c26,u26,v26,w26,x26,e26,m26,r26,t26,i26,j26⟩:=NS.at iz g26
  refine dI e26 r26 ?_
  refine dL t26 m26 0 ?_
  refine dC ((oi _ i17_0_0 i17_0_1 (i26.x zx) (j26.x zx) (jg hsa sxs (sys _ (List.mem_of_getElem? g14)) _ _) (szs _ (List.mem_of_getElem? g26)) zo).cx) ?_
  rintro _ h27 n27 ⟨s27,rfl,q27⟩ y27 x27
  rcases q27 with ⟨rfl,q27⟩|⟨rfl,q27⟩|⟨rfl,q27⟩
  ·refine zf ?_
   exact zno fun hq=>by have e:=hq _ _ _ (pp g14) g26;rw [lenR,←hie] at e;rw [e] at q27;exact absurd q27 (Rat.not_lt.2 Rat.le_refl)
  ·refine zJ ?_
   exact sK (j+1) ⟨rfl,zo,zy,(by show j+1≤ys.length;omega),(hin.step (pp g14) g26 (by rw [lenR,←hie];exact q27))⟩
  refine zf ?_
  exact zno fun hq=>by have e:=hq _ _ _ (pp g14) g26;rw [lenR,←hie] at e;rw [e] at q27;exact absurd q27 (Rat.not_lt.2 Rat.le_refl)
 refine zf ?_
 exact zye (hin.all (.inl (by rw [y4];omega)))
end
section
variable {h:HF}{a b cm co cr cu cw cx cy cz lm lo lr lu lw lx ly lz n:Nat}{am ao ar au aw ax ay az:Option Addr}{p:LPD}{R:List (List UInt8)}
theorem zel (k:Nat)(io:Sl h n 1 (.slice ao lo co) (strs p.obj))(ir:RWS h n (.slice ar lr cr) p.rows)(iw:Sl h n 1 (.slice aw lw cw) (strs p.lower))(iu:Sl h n 1 (.slice au lu cu) (strs p.upper))(hp:LPB a p)(ha:a+a≤2000)(hv:VLP p){o:Int}{V:List UInt8}{X Y C:List (List UInt8)}(ix:Sl h n 1 (.slice ax lx cx) (strs X))(iy:Sl h n 1 (.slice ay ly cy) (strs Y))(iz:Sl h n 1 (.slice az lz cz) (strs R))(im:Sl h n 1 (.slice am lm cm) (strs C))(hX:∀s∈X,Txt b s)(hXl:X.length<1000000)(hY:∀s∈Y,Txt b s)(hYl:Y.length<1000000)(hR:∀s∈R,Txt b s)(hRl:R.length<1000000)(hC:∀s∈C,Txt b s)(hCl:C.length<1000000)(hVl:V.length<1000000)(hL:p.obj.length*(a+b+1)+a+b+2≤1900)(hLB:p.rows.length*(a+b+1)+p.obj.length*(a+b+1)+a+b+2≤1900)(ha2:1≤a∧a≤90∧b≤90):VF (cal (k+11)) 44 [.agg #[.slice ao lo co,.slice ar lr cr,.slice aw lw cw,.slice au lu cu],.agg #[.int .i64 o,.string ⟨⟨V⟩⟩,.slice ax lx cx,.slice ay ly cy,.slice az lz cz,.slice am lm cm]] h n fun v=>∃t:Bool,v=.bool t∧(t=true↔prv p o V X Y R C):=by
 have hpc:=hp
 have lo1:=zv io
 have lr1:=ir.len
 have lw1:=zv iw
 have lu1:=zv iu
 obtain ⟨hob,hlw,hup,hrl,hn1,hn2,hn3,hn4⟩:=hp
 have lx1:=zv ix
 have ly1:=zv iy
 have lz1:=zv iz
 have lm1:=zv im
 have hll:=hv.ll
 have hlu:=hv.lu
 have hpn:=Nat.mul_le_mul_right (a+b+1) hv.n1
 have eYm:(Y.map zB).length=Y.length:=by rw [List.length_map]
 refine zA (fn:=Tryz.f44) R4 ?_
 refine zG ?_
 refine sB [.slice ao lo co,.slice ar lr cr,.slice aw lw cw,.slice au lu cu] ?_
 intro h11 p11 x11
 refine sB [.int .i64 o,.string ⟨⟨V⟩⟩,.slice ax lx cx,.slice ay ly cy,.slice az lz cz,.slice am lm cm] ?_
 intro h12 p12 x12
 refine zG ?_
 refine sC (jL _ (ix.x zx) (fun s hs=>(hX s hs).1) hXl) ?_
 rintro _ h13 n13 ⟨a13,l13,c13,e13,rfl,m13⟩ y13 x13
 refine zG ?_
 refine sC (jL _ (iy.x zx) (fun s hs=>(hY s hs).1) hYl) ?_
 rintro _ h14 n14 ⟨a14,l14,c14,e14,rfl,m14⟩ y14 x14
 refine zG ?_
 refine sC (jL _ (iz.x zx) (fun s hs=>(hR s hs).1) hRl) ?_
 rintro _ h15 n15 ⟨a15,l15,c15,e15,rfl,m15⟩ y15 x15
 refine zG ?_
 refine sC (jL _ (im.x zx) (fun s hs=>(hC s hs).1) hCl) ?_
 rintro _ h16 n16 ⟨a16,l16,c16,e16,rfl,m16⟩ y16 x16
 refine zG ?_
 by_cases q17:o=1
 ·refine zG ?_
  rcases m13 with ⟨rfl,m13⟩|⟨rfl,m13,s13⟩|⟨rfl,m13,s13,i13⟩
  ·refine zf ?_
   exact zno fun hq=>have y:=(wt q17).1 hq;absurd y.ax m13
  ·refine zf ?_
   exact zno fun hq=>have y:=(wt q17).1 hq;by have:=y.len;omega
  have w13:=i13.len
  rw [List.length_map] at w13
  refine zG ?_
  rcases m15 with ⟨rfl,m15⟩|⟨rfl,m15,s15⟩|⟨rfl,m15,s15,i15⟩
  ·refine zf ?_
   exact zno fun hq=>have y:=(wt q17).1 hq;absurd y.ar m15
  ·refine zf ?_
   exact zno fun hq=>have y:=(wt q17).1 hq;by have:=y.len;omega
  have w15:=i15.len
  rw [List.length_map] at w15
  refine zG ?_
  rcases m16 with ⟨rfl,m16⟩|⟨rfl,m16,s16⟩|⟨rfl,m16,s16,i16⟩
  ·refine zf ?_
   exact zno fun hq=>have y:=(wt q17).1 hq;absurd y.ac m16
  ·refine zf ?_
   exact zno fun hq=>have y:=(wt q17).1 hq;by have:=y.len;omega
  have w16:=i16.len
  rw [List.length_map] at w16
  refine zG ?_
  by_cases q18:(ly:Int)>0
  ·refine zf ?_
   exact zno fun hq=>have y:=(wt q17).1 hq;by have:=y.len;omega
  refine zG ?_
  refine sC ((jX _ (io.x zx) (ir.x zx) (iw.x zx) (iu.x zx) hpc ha (i13.x zx) (Txt.nums hX) (by rw [List.length_map,hv.ll,hv.lu];omega) (fun r hr=>Nat.le_of_eq (hv.rw r hr).2.2) (by rw [List.length_map];omega) hL zo).cx) ?_
  rintro _ h19 n19 ⟨b19,rfl,bq19⟩ y19 x19
  rcases bvs bq19 with ⟨rfl,q19⟩|⟨rfl,q19⟩
  ·refine zf ?_
   exact zno fun hq=>have y:=(wt q17).1 hq;absurd y.fx q19
  refine zG ?_
  refine sC (za5 _ (io.x zx) (fun s hs=>(hpc.ob s hs).1) hpc.n1) ?_
  rintro _ h20 n20 ⟨a20,l20,c20,ok20,rfl,m20,q20⟩ y20 x20
  have i20:=q20 (m20.2 hv.ob)
  refine zG ?_
  refine sC (zcm _ (io.x zx) (ir.x zx) (iw.x zx) (iu.x zx) hpc ha (i15.x zx) (i16.x zx) (Txt.nums hR) (Txt.nums hC) (by rw [List.length_map];omega) (by rw [List.length_map,hv.ll,hv.lu];omega) (by rw [List.length_map,List.length_map,show R.length=p.rows.length by omega,show C.length=p.obj.length by omega];exact hLB)) ?_
  rintro _ h21 n21 ⟨b21,a21,l21,c21,d21,e21,f21,g21,ok21,rfl,bm21,q21⟩ y21 x21
  rcases bvs bm21 with ⟨rfl,m21⟩|⟨rfl,m21⟩
  ·refine zG ?_
   refine sA ?_
   intro h22 p22 x22
   refine sS [.bool b21,.slice a21 l21 c21,.bool d21,.slice e21 f21 g21] ?_
   intro h23 p23 o23
   refine zG ?_
   refine zj [0,1,3,7,3,19,3,115,243,511,1023,2047,4095,8191,4095,20479,65535,131071,262143,524287,524287,524287,524287,8388607,16777215,33554431] rfl ?_
   refine zf ?_
   exact zno fun hq=>have y:=(wt q17).1 hq;absurd y.bo m21
  obtain ⟨i21,j21⟩:=q21 rfl
  have i21:UI h21 n21 b21 a21 l21 c21 (bndQ p R C).num:=i21
  have j21:UI h21 n21 d21 e21 f21 g21 (denZ (bndQ p R C)):=j21
  refine zG ?_
  refine sA ?_
  intro h24 p24 x24
  refine sS [.bool b21,.slice a21 l21 c21,.bool d21,.slice e21 f21 g21] ?_
  intro h25 p25 o25
  refine zG ?_
  refine zj [0,1,3,7,3,19,3,115,243,511,1023,2047,4095,8191,4095,20479,65535,131071,262143,524287,524287,524287,524287,8388607,16777215,33554431] rfl ?_
  refine zH ?_
  refine dC (show CX _ _ _ _ _ (NQ (valQ p X)) from dotU _ (io.x zx) (i13.x zx) (fun s hs=>Nat.lt_of_lt_of_le (hpc.ob s hs).1 zd) (Txt.nums hpc.ob) (Txt.nums hX) (by rw [List.length_map];omega) zo) ?_
  rintro _ h26 n26 ⟨b26,a26,l26,c26,d26,e26,f26,g26,rfl,i26,j26⟩ y26 x26
  refine dC ((zcn _ i26 j26 (ed hpc.ob hX zo) zo).cx) ?_
  rintro _ h27 n27 rfl y27 x27
  by_cases q28:V=ratT (valQ p X)
  ·refine wc true R6 (by simp [q28]) ?_
   refine zH ?_
   refine dC ((zcn _ (i21.t zt) (j21.t zt) (ah hv hpc hR hC zo) zo).cx) ?_
   rintro _ h29 n29 rfl y29 x29
   by_cases q30:V=ratT (bndQ p R C)
   ·refine wc true R6 (by simp [q30]) ?_
    refine zH ?_
    refine dC ((zco _ (io.x zx) (ir.x zx) (iw.x zx) (iu.x zx) hpc ha hv (i15.x zx) (i16.x zx) (i20.x zx) (Txt.nums hR) (Txt.nums hC) (Txt.nums hpc.ob) (by rw [List.length_map];omega) (by rw [List.length_map];omega) (by rw [List.length_map]) (by rw [List.length_map,show R.length=p.rows.length by omega];omega)).cx) ?_
    rintro _ h31 n31 ⟨b31,rfl,bq31⟩ y31 x31
    rcases bvs bq31 with ⟨rfl,q31⟩|⟨rfl,q31⟩
    ·refine zf ?_
     exact zno fun hq=>have y:=(wt q17).1 hq;absurd y.co q31
    refine zf ?_
    exact zye ((wt q17).2 ⟨m13,zo,q19,m15,zo,m16,zo,zo,q28.symm,m21,q30.symm,q31⟩)
   refine wc false R6 (by simp [q30]) ?_
   refine zf ?_
   exact zno fun hq=>have y:=(wt q17).1 hq;absurd y.vb.symm q30
  refine wc false R6 (by simp [q28]) ?_
  refine zf ?_
  exact zno fun hq=>have y:=(wt q17).1 hq;absurd y.vx.symm q28
 refine zG ?_
 by_cases q32:o=2
 ·refine zG ?_
  rcases m15 with ⟨rfl,m15⟩|⟨rfl,m15,s15⟩|⟨rfl,m15,s15,i15⟩
  ·refine zf ?_
   exact zno fun hq=>have y:=(xU q32).1 hq;absurd y.ar m15
  ·refine zf ?_
   exact zno fun hq=>have y:=(xU q32).1 hq;by have:=y.len;omega
  have w15:=i15.len
  rw [List.length_map] at w15
  refine zG ?_
  rcases m16 with ⟨rfl,m16⟩|⟨rfl,m16,s16⟩|⟨rfl,m16,s16,i16⟩
  ·refine zf ?_
   exact zno fun hq=>have y:=(xU q32).1 hq;absurd y.ac m16
  ·refine zf ?_
   exact zno fun hq=>have y:=(xU q32).1 hq;by have:=y.len;omega
  have w16:=i16.len
  rw [List.length_map] at w16
  refine zG ?_
  refine st_I (ik:=.i64) (a:=(V.length:Int)) R5 ?_
  refine zG ?_
  by_cases q33:(((lx:Int)+(ly:Int))+(V.length:Int))>0
  ·refine zf ?_
   exact zno fun hq=>have y:=(xU q32).1 hq;by have:=y.len;omega
  refine zG ?_
  refine sC (zcm _ (io.x zx) (ir.x zx) (iw.x zx) (iu.x zx) hpc ha (i15.x zx) i16 (Txt.nums hR) (Txt.nums hC) (by rw [List.length_map];omega) (by rw [List.length_map,hv.ll,hv.lu];omega) (by rw [List.length_map,List.length_map,show R.length=p.rows.length by omega,show C.length=p.obj.length by omega];exact hLB)) ?_
  rintro _ h34 n34 ⟨b34,a34,l34,c34,d34,e34,f34,g34,ok34,rfl,bm34,q34⟩ y34 x34
  rcases bvs bm34 with ⟨rfl,m34⟩|⟨rfl,m34⟩
  ·refine zG ?_
   refine sA ?_
   intro h35 p35 x35
   refine sS [.bool b34,.slice a34 l34 c34,.bool d34,.slice e34 f34 g34] ?_
   intro h36 p36 o36
   refine zG ?_
   refine zj [0,1,3,7,15,31,63,127,127,127,127,1151,4095,8191,16383] rfl ?_
   refine zf ?_
   exact zno fun hq=>have y:=(xU q32).1 hq;absurd y.bo m34
  obtain ⟨i34,j34⟩:=q34 rfl
  have i34:UI h34 n34 b34 a34 l34 c34 (bndQ p R C).num:=i34
  have j34:UI h34 n34 d34 e34 f34 g34 (denZ (bndQ p R C)):=j34
  refine zG ?_
  refine sA ?_
  intro h37 p37 x37
  refine sS [.bool b34,.slice a34 l34 c34,.bool d34,.slice e34 f34 g34] ?_
  intro h38 p38 o38
  refine zG ?_
  refine zj [0,1,3,7,15,31,63,127,127,127,127,1151,4095,8191,16383] rfl ?_
  refine zH ?_
  refine dC (wZ _ (i34.t zt) (j34.t zt)) ?_
  rintro _ h39 n39 ⟨s39,rfl,q39⟩ y39 x39
  rcases q39 with ⟨rfl,q39⟩|⟨rfl,q39⟩|⟨rfl,q39⟩
  ·refine zf ?_
   exact zno fun hq=>have y:=(xU q32).1 hq;by have:=y.sb;omega
  ·refine zf ?_
   exact zno fun hq=>have y:=(xU q32).1 hq;by have:=y.sb;omega
  refine zH ?_
  refine dM (L:=lo) ?_
  intro h40 p40 x40
  have i40:NS h40 (n39+1) (.slice (some ⟨3*(n39)+2,0,none⟩) lo lo) (List.replicate p.obj.length 0):=by have q:=NS.zeros (n:=n39+1) zo p40;rwa [show List.replicate lo (0:Rat)=List.replicate p.obj.length 0 by rw [lo1]] at q
  refine dC ((zco _ (io.x zx) (ir.x zx) (iw.x zx) (iu.x zx) hpc ha hv (i15.x zx) (i16.x zx) i40 (Txt.nums hR) (Txt.nums hC) (fun q hq=>by rw [(List.mem_replicate.1 hq).2];exact Sz.zero a zo) (by rw [List.length_map];omega) (by rw [List.length_map];omega) (by rw [List.length_replicate]) (by rw [List.length_map,show R.length=p.rows.length by omega];omega)).cx) ?_
  rintro _ h41 n41 ⟨b41,rfl,bq41⟩ y41 x41
  rcases bvs bq41 with ⟨rfl,q41⟩|⟨rfl,q41⟩
  ·refine zf ?_
   exact zno fun hq=>have y:=(xU q32).1 hq;absurd y.co q41
  refine zf ?_
  exact zye ((xU q32).2 ⟨m15,zo,m16,zo,zo,zo,List.length_eq_zero_iff.1 zo,m34,q39,q41⟩)
 refine zG ?_
 by_cases q42:o=3
 ·refine zG ?_
  rcases m13 with ⟨rfl,m13⟩|⟨rfl,m13,s13⟩|⟨rfl,m13,s13,i13⟩
  ·refine zf ?_
   exact zno fun hq=>have y:=(yW q42).1 hq;absurd y.ax m13
  ·refine zf ?_
   exact zno fun hq=>have y:=(yW q42).1 hq;by have:=y.len;omega
  have w13:=i13.len
  rw [List.length_map] at w13
  refine zG ?_
  rcases m14 with ⟨rfl,m14⟩|⟨rfl,m14,s14⟩|⟨rfl,m14,s14,i14⟩
  ·refine zf ?_
   exact zno fun hq=>have y:=(yW q42).1 hq;absurd y.ay m14
  ·refine zf ?_
   exact zno fun hq=>have y:=(yW q42).1 hq;by have:=y.len;omega
  have w14:=i14.len
  rw [List.length_map] at w14
  refine zG ?_
  refine st_I (ik:=.i64) (a:=(V.length:Int)) R5 ?_
  refine zG ?_
  by_cases q43:(((lz:Int)+(lm:Int))+(V.length:Int))>0
  ·refine zf ?_
   exact zno fun hq=>have y:=(yW q42).1 hq;by have:=y.len;omega
  refine zG ?_
  refine sC ((jX _ (io.x zx) (ir.x zx) (iw.x zx) (iu.x zx) hpc ha (i13.x zx) (Txt.nums hX) (by rw [List.length_map,hv.ll,hv.lu];omega) (fun r hr=>Nat.le_of_eq (hv.rw r hr).2.2) (by rw [List.length_map];omega) hL zo).cx) ?_
  rintro _ h44 n44 ⟨b44,rfl,bq44⟩ y44 x44
  rcases bvs bq44 with ⟨rfl,q44⟩|⟨rfl,q44⟩
  ·refine zf ?_
   exact zno fun hq=>have y:=(yW q42).1 hq;absurd y.fx q44
  refine zG ?_
  refine sC (show CX _ _ _ _ _ (NQ (valQ p Y)) from dotU _ (io.x zx) (i14.x zx) (fun s hs=>Nat.lt_of_lt_of_le (hpc.ob s hs).1 zd) (Txt.nums hpc.ob) (Txt.nums hY) (by rw [List.length_map];omega) zo) ?_
  rintro _ h45 n45 ⟨b45,a45,l45,c45,d45,e45,f45,g45,rfl,i45,j45⟩ y45 x45
  refine sC (wZ _ i45 j45) ?_
  rintro _ h46 n46 ⟨s46,rfl,q46⟩ y46 x46
  rcases q46 with ⟨rfl,q46⟩|⟨rfl,q46⟩|⟨rfl,q46⟩
  ·refine zG ?_
   refine sF (α:=Nat) (fun z=>[(2,.pointer (some ⟨3*n+2,0,none⟩)),(5,.int .i64 (lo:Int)),(8,.slice a14 l14 c14),(20,.int .i64 (z:Int))]) (fun z h' n' w'=>w'=[]∧n46≤n'∧ExtB n46 [] h46 h'∧z≤p.obj.length∧hT (fun d q=>dirB q d.lo d.hi) (yP p) (Y.map zB) z) (fun z=>p.obj.length-z) 0 ⟨rfl,Nat.le_refl _,ExtB.refl _ _ _,(Nat.zero_le _),(hT.zero _ _)⟩ ?_
   rintro j t h47 n47 _ ⟨rfl,y47,Y47,hj,hin⟩
   have hj:j≤p.obj.length:=hj
   have hin:hT (fun d q=>dirB q d.lo d.hi) (yP p) (Y.map zB) j:=hin
   refine zG ?_
   by_cases q48:(j:Int)<(lo:Int)
   ·refine zG ?_
    refine zj [0,0,3,7,0,16,0,112,240,0,512,0,3584,7680,16383,32767] rfl ?_
    refine zH ?_
    obtain ⟨d49,g49⟩:∃d,(Y.map zB)[j]?=some d:=⟨_,List.getElem?_eq_getElem zo⟩
    obtain ⟨k49,o49,b49,a49,l49,c49,u49,v49,w49,x49,e49,m49,r49,t49,i49,j49⟩:=NS.at i14 g49
    refine dI e49 r49 ?_
    refine dL t49 m49 0 ?_
    refine zH ?_
    obtain ⟨d50,g50⟩:∃d,(p.lower)[j]?=some d:=⟨_,List.getElem?_eq_getElem zo⟩
    obtain ⟨k50,o50,e50,m50,r50,t50⟩:=yy iw g50
    refine dI e50 r50 ?_
    refine dL t50 m50 0 ?_
    refine zH ?_
    obtain ⟨d51,g51⟩:∃d,(p.upper)[j]?=some d:=⟨_,List.getElem?_eq_getElem zo⟩
    obtain ⟨k51,o51,e51,m51,r51,t51⟩:=yy iu g51
    refine dI e51 r51 ?_
    refine dL t51 m51 0 ?_
    refine dC ((aH _ (i49.x zx) (j49.x zx)).cx) ?_
    rintro _ h52 n52 ⟨b52,rfl,bq52⟩ y52 x52
    rcases bvs bq52 with ⟨rfl,q52⟩|⟨rfl,q52⟩
    ·refine zf ?_
     exact zno fun hq=>have y:=(yW q42).1 hq;absurd (y.dy.1 _ _ _ (wg g50 g51) g49) q52
    refine zJ ?_
    exact sK (j+1) ⟨rfl,zo,zy,(by show j+1≤p.obj.length;omega),(hin.step (wg g50 g51) g49 q52)⟩
   refine zG ?_
   have hall:=hin.all (.inr (by rw [List.length_map];omega))
   refine zG ?_
   refine sF (α:=Nat) (fun z=>[(2,.pointer (some ⟨3*n+2,0,none⟩)),(8,.slice a14 l14 c14),(21,.int .i64 (z:Int))]) (fun z h' n' w'=>w'=[]∧n47≤n'∧ExtB n47 [] h47 h'∧z≤p.rows.length∧∀r∈p.rows.take z,rowH dirB (Y.map zB) (rowS r)) (fun z=>p.rows.length-z) 0 ⟨rfl,Nat.le_refl _,ExtB.refl _ _ _,(Nat.zero_le _),(fun r hr=>absurd hr (by simp))⟩ ?_
   rintro i t h53 n53 _ ⟨rfl,y53,Y53,hi,hrw⟩
   have hi:i≤p.rows.length:=hi
   have hrw:∀r∈p.rows.take i,rowH dirB (Y.map zB) (rowS r):=hrw
   refine zG ?_
   by_cases q54:(i:Int)<(lr:Int)
   ·refine zG ?_
    refine zj [0,1,0,7,15,31,0,127,0,256,0,1792,3840,7936,0,16384,0,114688,245760,507904,1048575,2097151] rfl ?_
    refine zH ?_
    obtain ⟨d55,g55⟩:∃d,(p.rows)[i]?=some d:=⟨_,List.getElem?_eq_getElem zo⟩
    obtain ⟨k55,o55,a55,l55,c55,e55,m55,r55,t55,i55⟩:=RWS.at ir g55
    have la55:=zv i55
    refine dI e55 r55 ?_
    refine zH ?_
    refine dL t55 m55 0 ?_
    refine zH ?_
    refine dC (dotU _ (i55.x zx) (i14.x zx) (fun s hs=>Nat.lt_of_lt_of_le ((hrl _ (List.mem_of_getElem? g55)).2.2.2 s hs).1 zd) (Txt.nums (hrl _ (List.mem_of_getElem? g55)).2.2.2) (Txt.nums hY) (by rw [List.length_map,(hv.rw _ (List.mem_of_getElem? g55)).2.2];omega) (by rw [(hv.rw _ (List.mem_of_getElem? g55)).2.2];omega)) ?_
    rintro _ h56 n56 ⟨b56,a56,l56,c56,d56,e56,f56,g56,rfl,i56,j56⟩ y56 x56
    refine zH ?_
    refine dI e55 r55 ?_
    refine zH ?_
    refine dL t55 m55 1 ?_
    refine zH ?_
    refine dI e55 r55 ?_
    refine zH ?_
    refine dL t55 m55 2 ?_
    refine dC ((aH _ i56 j56).cx) ?_
    rintro _ h57 n57 ⟨b57,rfl,bq57⟩ y57 x57
    rcases bvs bq57 with ⟨rfl,q57⟩|⟨rfl,q57⟩
    ·refine zf ?_
     exact zno fun hq=>have y:=(yW q42).1 hq;absurd (y.dy.2 _ (List.mem_of_getElem? (xY g55))) q57
    refine zJ ?_
    exact sK (i+1) ⟨rfl,zo,zy,(by show i+1≤p.rows.length;omega),(ul hrw g55 q57)⟩
   refine zf ?_
   exact zye ((yW q42).2 ⟨m13,zo,q44,m14,zo,zo,zo,List.length_eq_zero_iff.1 zo,q46,⟨hall,fun d hd=>by obtain ⟨r,hr,rfl⟩:=List.mem_map.1 hd;rw [List.take_of_length_le zo] at hrw;exact hrw r hr⟩⟩)
  ·refine zf ?_
   exact zno fun hq=>have y:=(yW q42).1 hq;by have:=y.sy;omega
  refine zf ?_
  exact zno fun hq=>have y:=(yW q42).1 hq;by have:=y.sy;omega
 refine zf ?_
 exact zno fun hq=>by rcases hq with hq|hq|hq<;>omega
end
section
variable {h:HF}{a b cc cm co cr cx cy cz lc lm lo lr lx ly lz n:Nat}{ac am ao ar ax ay az:Option Addr}{p:LPD}{R:List (List UInt8)}
theorem zem (k:Nat)(g:GG h n)(io:QS h n (.slice ao lo co) (p.obj.map zB))(ir:SDS h n (.slice ar lr cr) (yj p))(ic:SDS h n (.slice ac lc cc) (yP p))(hv:VLP p)(hp:LPB a p){o:Int}{V:List UInt8}{X Y C:List (List UInt8)}(ix:Sl h n 1 (.slice ax lx cx) (strs X))(iy:Sl h n 1 (.slice ay ly cy) (strs Y))(iz:Sl h n 1 (.slice az lz cz) (strs R))(im:Sl h n 1 (.slice am lm cm) (strs C))(hX:∀s∈X,Txt b s)(hXl:X.length<1000000)(hY:∀s∈Y,Txt b s)(hYl:Y.length<1000000)(hR:∀s∈R,Txt b s)(hRl:R.length<1000000)(hC:∀s∈C,Txt b s)(hCl:C.length<1000000)(hVl:V.length<1000000)(hL:p.obj.length*(a+b+1)+a+b+2≤1900)(hLB:p.rows.length*(a+b+1)+p.obj.length*(a+b+1)+a+b+2≤1900)(ha2:1≤a∧a≤90∧b≤90):VF (cal (k+14)) 43 [.agg #[.slice ao lo co,.slice ar lr cr,.slice ac lc cc],.agg #[.int .i64 o,.string ⟨⟨V⟩⟩,.slice ax lx cx,.slice ay ly cy,.slice az lz cz,.slice am lm cm]] h n fun v=>∃t:Bool,v=.bool t∧(t=true↔prv p o V X Y R C):=by
 have lo1:=io.len
 have lr1:=ir.len
 have lc1:=ic.len
 have lx1:=zv ix
 have ly1:=zv iy
 have lz1:=zv iz
 have lm1:=zv im
 rw [List.length_map] at lo1
 rw [zY] at lr1
 rw [hv.cols] at lc1
 have hra:∀d∈yj p,d.A.length=(yP p).length:=fun d hd=>by
  obtain ⟨r,hr,rfl⟩:=List.mem_map.1 hd
  rw [hv.cols]
  show (r.A.map zB).length=_
  rw [List.length_map]
  exact (hv.rw r hr).2.2
 have hn1:=hp.n1
 have hn2:=hp.n2
 have hmul:(p.rows.length+1)*(a+b+1)=p.rows.length*(a+b+1)+(a+b+1):=Nat.succ_mul _ _
 refine zA (fn:=Tryz.f43) R4 ?_
 refine zG ?_
 refine sB [.slice ao lo co,.slice ar lr cr,.slice ac lc cc] ?_
 intro h11 p11 x11
 refine sB [.int .i64 o,.string ⟨⟨V⟩⟩,.slice ax lx cx,.slice ay ly cy,.slice az lz cz,.slice am lm cm] ?_
 intro h12 p12 x12
 refine zG ?_
 refine sC (un _ (g.x zx) (ix.x zx) (fun s hs=>(hX s hs).1) hXl) ?_
 rintro _ h13 n13 ⟨a13,l13,c13,ok13,rfl,bm13,q13⟩ y13 x13
 refine zG ?_
 refine sC (un _ (g.x zx) (iy.x zx) (fun s hs=>(hY s hs).1) hYl) ?_
 rintro _ h14 n14 ⟨a14,l14,c14,ok14,rfl,bm14,q14⟩ y14 x14
 refine zG ?_
 refine sC (un _ (g.x zx) (iz.x zx) (fun s hs=>(hR s hs).1) hRl) ?_
 rintro _ h15 n15 ⟨a15,l15,c15,ok15,rfl,bm15,q15⟩ y15 x15
 refine zG ?_
 refine sC (un _ (g.x zx) (im.x zx) (fun s hs=>(hC s hs).1) hCl) ?_
 rintro _ h16 n16 ⟨a16,l16,c16,ok16,rfl,bm16,q16⟩ y16 x16
 refine zG ?_
 rcases bvs bm13 with ⟨rfl,m13⟩|⟨rfl,m13⟩
 ·refine zf ?_
  exact zno fun hq=>absurd (o8 hq).1 m13
 have i13:=q13 rfl
 have w13:=i13.1.len
 rw [List.length_map] at w13
 refine zG ?_
 rcases bvs bm14 with ⟨rfl,m14⟩|⟨rfl,m14⟩
 ·refine zf ?_
  exact zno fun hq=>absurd (o8 hq).2.1 m14
 have i14:=q14 rfl
 have w14:=i14.1.len
 rw [List.length_map] at w14
 refine zG ?_
 rcases bvs bm15 with ⟨rfl,m15⟩|⟨rfl,m15⟩
 ·refine zf ?_
  exact zno fun hq=>absurd (o8 hq).2.2.1 m15
 have i15:=q15 rfl
 have w15:=i15.1.len
 rw [List.length_map] at w15
 refine zG ?_
 rcases bvs bm16 with ⟨rfl,m16⟩|⟨rfl,m16⟩
 ·refine zf ?_
  exact zno fun hq=>absurd (o8 hq).2.2.2 m16
 have i16:=q16 rfl
 have w16:=i16.1.len
 rw [List.length_map] at w16
 refine zG ?_
 by_cases q17:(l13:Int)=(lc:Int)
 ·refine zG ?_
  refine sC ((zir _ (g.x zx) (io.x zx) (ir.x zx) (ic.x zx) (i13.x zx).1 (LPB.rows hp) (LPB.cols hp) (hv.rwb hp) (Txt.nums hX) (by rw [List.length_map,hv.cols];omega) (by rw [List.length_map];omega) ⟨by rw [hv.cols];exact hp.n1,by rw [zY];exact hp.n2⟩ hL zo).cx) ?_
  rintro _ h18 n18 ⟨b18,rfl,bq18⟩ y18 x18
  refine zG ?_
  by_cases q19:(l15:Int)=(lr:Int)
  ·refine zG ?_
   by_cases q20:(l16:Int)=(lc:Int)
   ·refine zG ?_
    by_cases q21:o=1
    ·refine zG ?_
     refine zj [0,1,3,7,15,31,63,127,255,511,1023,2047,4095,8191,4095,32767,65535,4095,135167,524287,1048575] rfl ?_
     refine zH ?_
     rcases bvs bq18 with ⟨rfl,q18⟩|⟨rfl,q18⟩
     ·refine zf ?_
      exact zno fun hq=>have y:=(wt q21).1 hq;absurd y.fx q18
     refine zH ?_
     by_cases q22:(l14:Int)>0
     ·refine zf ?_
      exact zno fun hq=>have y:=(wt q21).1 hq;by have:=y.len;omega
     refine zH ?_
     refine dC (show CX _ _ _ _ _ (QV (valQ p X)) from dotQ _ (g.x zx) (io.x zx) (i13.x zx).1 (Txt.nums hp.ob) (Txt.nums hX) (by rw [List.length_map,List.length_map];omega) (by rw [List.length_map];omega)) ?_
     rintro _ h23 n23 ⟨b23,a23,l23,c23,d23,e23,f23,g23,rfl,i23,j23⟩ y23 x23
     refine dC ((rQ _ (g.x zx).1 (g.x zx).2 i23 j23 (ed hp.ob hX zo) zo).cx) ?_
     rintro _ h24 n24 rfl y24 x24
     refine zH ?_
     by_cases q25:ratT (valQ p X)=V
     ·refine rn false R6 (by simp [q25]) ?_
      refine zJ ?_
      refine sC (ag _ (g.x zx) (io.x zx) (ir.x zx) (ic.x zx) (i15.x zx).1 (i16.x zx).1 (LPB.rows hp) (LPB.cols hp) (Txt.nums hR) (Txt.nums hC) (by rw [List.length_map,zY];omega) (by rw [List.length_map,hv.cols];omega) (by rw [zY,hv.cols];omega)) ?_
      rintro _ h26 n26 ⟨b26,a26,l26,c26,d26,e26,f26,g26,ok26,rfl,bm26,q26⟩ y26 x26
      rcases bvs bm26 with ⟨rfl,m26⟩|⟨rfl,m26⟩
      ·refine zG ?_
       refine sA ?_
       intro h27 p27 x27
       refine sS [.bool b26,.slice a26 l26 c26,.bool d26,.slice e26 f26 g26] ?_
       intro h28 p28 o28
       refine zG ?_
       refine zj [0,1,3,7,3,19,63,127,255,511,511,511,4095,511,8703,32767,65535,131071] rfl ?_
       refine zf ?_
       exact zno fun hq=>have y:=(wt q21).1 hq;absurd y.bo m26
      obtain ⟨i26,j26⟩:=q26 rfl
      have i26:IW h26 n26 b26 a26 l26 c26 (bndQ p R C).num:=i26
      have j26:IW h26 n26 d26 e26 f26 g26 (denZ (bndQ p R C)):=j26
      refine zG ?_
      refine sA ?_
      intro h29 p29 x29
      refine sS [.bool b26,.slice a26 l26 c26,.bool d26,.slice e26 f26 g26] ?_
      intro h30 p30 o30
      refine zG ?_
      refine zj [0,1,3,7,3,19,63,127,255,511,511,511,4095,511,8703,32767,65535,131071] rfl ?_
      refine zH ?_
      refine dC ((rQ _ (g.x zx).1 (g.x zx).2 (i26.t zt) (j26.t zt) (ah hv hp hR hC zo) zo).cx) ?_
      rintro _ h31 n31 rfl y31 x31
      refine zH ?_
      by_cases q32:ratT (bndQ p R C)=V
      ·refine wc true R6 (by simp [q32]) ?_
       refine zH ?_
       refine dC (zfw _ (g.x zx) (io.x zx) (ir.x zx) (ic.x zx) (i15.x zx).1 (i16.x zx).1 (fun d hd=>(hv.rwb hp d hd).1) (Txt.nums hR) (Txt.nums hC) hra (by rw [List.length_map,zY];omega) (by rw [List.length_map,hv.cols];omega) ⟨by rw [hv.cols];exact hp.n1,by rw [zY];exact hp.n2⟩ (by rw [zY];omega)) ?_
       rintro _ h33 n33 ⟨a33,l33,c33,rfl,i33⟩ y33 x33
       refine zH ?_
       refine dC ((kY _ i33 (io.x zx) (qq (fun d hd=>(hv.rwb hp d hd).1) (Txt.nums hR) (Txt.nums hC)) (Txt.nums hp.ob) (by rw [y4,List.length_map,List.length_map];omega) (by rw [y4,List.length_map];omega) (by rw [zY];omega)).cx) ?_
       rintro _ h34 n34 ⟨b34,rfl,bq34⟩ y34 x34
       rcases bvs bq34 with ⟨rfl,q34⟩|⟨rfl,q34⟩
       ·refine zf ?_
        exact zno fun hq=>have y:=(wt q21).1 hq;absurd y.co q34
       refine zf ?_
       exact zye ((wt q21).2 ⟨m13,zo,q18,m15,zo,m16,zo,zo,q25,m26,q32,q34⟩)
      refine wc false R6 (by simp [q32]) ?_
      refine zf ?_
      exact zno fun hq=>have y:=(wt q21).1 hq;absurd y.vb q32
     refine rn true R6 (by simp [q25]) ?_
     refine zf ?_
     exact zno fun hq=>have y:=(wt q21).1 hq;absurd y.vx q25
    refine zG ?_
    by_cases q35:o=2
    ·refine zG ?_
     by_cases q36:(l13:Int)>0
     ·refine zf ?_
      exact zno fun hq=>have y:=(xU q35).1 hq;by have:=y.len;omega
     refine zG ?_
     by_cases q37:(l14:Int)>0
     ·refine zf ?_
      exact zno fun hq=>have y:=(xU q35).1 hq;by have:=y.len;omega
     refine zG ?_
     by_cases q38:V=[]
     ·refine vB false R6 (by simp [q38]) ?_
      refine zG ?_
      refine sC (ag _ (g.x zx) (io.x zx) (ir.x zx) (ic.x zx) (i15.x zx).1 (i16.x zx).1 (LPB.rows hp) (LPB.cols hp) (Txt.nums hR) (Txt.nums hC) (by rw [List.length_map,zY];omega) (by rw [List.length_map,hv.cols];omega) (by rw [zY,hv.cols];omega)) ?_
      rintro _ h39 n39 ⟨b39,a39,l39,c39,d39,e39,f39,g39,ok39,rfl,bm39,q39⟩ y39 x39
      rcases bvs bm39 with ⟨rfl,m39⟩|⟨rfl,m39⟩
      ·refine zG ?_
       refine sA ?_
       intro h40 p40 x40
       refine sS [.bool b39,.slice a39 l39 c39,.bool d39,.slice e39 f39 g39] ?_
       intro h41 p41 o41
       refine zG ?_
       refine zj [0,1,3,7,15,31,63,127,127,127,1023,127,2175,8191,16383,32767] rfl ?_
       refine zf ?_
       exact zno fun hq=>have y:=(xU q35).1 hq;absurd y.bo m39
      obtain ⟨i39,j39⟩:=q39 rfl
      have i39:IW h39 n39 b39 a39 l39 c39 (bndQ p R C).num:=i39
      have j39:IW h39 n39 d39 e39 f39 g39 (denZ (bndQ p R C)):=j39
      refine zG ?_
      refine sA ?_
      intro h42 p42 x42
      refine sS [.bool b39,.slice a39 l39 c39,.bool d39,.slice e39 f39 g39] ?_
      intro h43 p43 o43
      refine zG ?_
      refine zj [0,1,3,7,15,31,63,127,127,127,1023,127,2175,8191,16383,32767] rfl ?_
      refine zH ?_
      refine dC (sf _ (i39.t zt) (j39.t zt)) ?_
      rintro _ h44 n44 ⟨s44,rfl,q44⟩ y44 x44
      rcases q44 with ⟨rfl,q44⟩|⟨rfl,q44⟩|⟨rfl,q44⟩
      ·refine zf ?_
       exact zno fun hq=>have y:=(xU q35).1 hq;by have:=y.sb;omega
      ·refine zf ?_
       exact zno fun hq=>have y:=(xU q35).1 hq;by have:=y.sb;omega
      refine zH ?_
      refine dC (zfw _ (g.x zx) (io.x zx) (ir.x zx) (ic.x zx) (i15.x zx).1 (i16.x zx).1 (fun d hd=>(hv.rwb hp d hd).1) (Txt.nums hR) (Txt.nums hC) hra (by rw [List.length_map,zY];omega) (by rw [List.length_map,hv.cols];omega) ⟨by rw [hv.cols];exact hp.n1,by rw [zY];exact hp.n2⟩ (by rw [zY];omega)) ?_
      rintro _ h45 n45 ⟨a45,l45,c45,rfl,i45⟩ y45 x45
      refine zH ?_
      refine dM (L:=lc) ?_
      intro h46 p46 x46
      rw [lc1] at p46
      have i46:=(OQ.zeros (n:=n45+1) zo p46).sl (len:=lc) (cap:=lc) (by rw [List.length_replicate,lc1]) (Nat.le_refl _)
      refine dC ((kY _ (i45.x zx) i46 (qq (fun d hd=>(hv.rwb hp d hd).1) (Txt.nums hR) (Txt.nums hC)) (fun q hq=>by rw [(List.mem_replicate.1 hq).2];exact Sz.zero a zo) (by rw [y4,List.length_map,List.length_replicate];omega) (by rw [y4,List.length_map];omega) (by rw [zY];omega)).cx) ?_
      rintro _ h47 n47 ⟨b47,rfl,bq47⟩ y47 x47
      rcases bvs bq47 with ⟨rfl,q47⟩|⟨rfl,q47⟩
      ·refine zf ?_
       exact zno fun hq=>have y:=(xU q35).1 hq;absurd y.co q47
      refine zf ?_
      exact zye ((xU q35).2 ⟨m15,zo,m16,zo,zo,zo,q38,m39,q44,q47⟩)
     refine vB true R6 (by simp [q38]) ?_
     refine zf ?_
     exact zno fun hq=>have y:=(xU q35).1 hq;absurd y.v0 q38
    refine zG ?_
    by_cases q48:o=3
    ·refine zG ?_
     rcases bvs bq18 with ⟨rfl,q18⟩|⟨rfl,q18⟩
     ·refine zf ?_
      exact zno fun hq=>have y:=(yW q48).1 hq;absurd y.fx q18
     refine zG ?_
     by_cases q49:(l14:Int)=(lc:Int)
     ·refine zG ?_
      by_cases q50:(l15:Int)>0
      ·refine zf ?_
       exact zno fun hq=>have y:=(yW q48).1 hq;by have:=y.len;omega
      refine zG ?_
      by_cases q51:(l16:Int)>0
      ·refine zf ?_
       exact zno fun hq=>have y:=(yW q48).1 hq;by have:=y.len;omega
      refine zG ?_
      by_cases q52:V=[]
      ·refine vB false R6 (by simp [q52]) ?_
       refine zG ?_
       refine sC (show CX _ _ _ _ _ (QV (valQ p Y)) from dotQ _ (g.x zx) (io.x zx) (i14.x zx).1 (Txt.nums hp.ob) (Txt.nums hY) (by rw [List.length_map,List.length_map];omega) (by rw [List.length_map];omega)) ?_
       rintro _ h53 n53 ⟨b53,a53,l53,c53,d53,e53,f53,g53,rfl,i53,j53⟩ y53 x53
       refine sC (sf _ i53 j53) ?_
       rintro _ h54 n54 ⟨s54,rfl,q54⟩ y54 x54
       rcases q54 with ⟨rfl,q54⟩|⟨rfl,q54⟩|⟨rfl,q54⟩
       ·refine zG ?_
        refine sC ((zf1 _ (g.x zx) (io.x zx) (ir.x zx) (ic.x zx) (i14.x zx).1 (LPB.rows hp) (LPB.cols hp) (hv.rwb hp) (Txt.nums hY) (by rw [List.length_map,hv.cols];omega) (by rw [List.length_map];omega) ⟨by rw [hv.cols];exact hp.n1,by rw [zY];exact hp.n2⟩ hL zo).cx) ?_
        rintro _ h55 n55 ⟨b55,rfl,bq55⟩ y55 x55
        rcases bvs bq55 with ⟨rfl,q55⟩|⟨rfl,q55⟩
        ·refine zf ?_
         exact zno fun hq=>have y:=(yW q48).1 hq;absurd y.dy q55
        refine zf ?_
        exact zye ((yW q48).2 ⟨m13,zo,q18,m14,zo,zo,zo,q52,q54,q55⟩)
       ·refine zf ?_
        exact zno fun hq=>have y:=(yW q48).1 hq;by have:=y.sy;omega
       refine zf ?_
       exact zno fun hq=>have y:=(yW q48).1 hq;by have:=y.sy;omega
      refine vB true R6 (by simp [q52]) ?_
      refine zf ?_
      exact zno fun hq=>have y:=(yW q48).1 hq;absurd y.v0 q52
     refine zf ?_
     exact zno fun hq=>have y:=(yW q48).1 hq;by have:=y.len;omega
    refine zf ?_
    exact zno fun hq=>by rcases hq with hq|hq|hq<;>omega
   refine zG ?_
   by_cases q56:o=1
   ·refine zG ?_
    refine zj [0,1,3,7,15,31,63,127,255,511,1023,2047,4095,8191,4095,32767,65535,4095,135167,524287,1048575] rfl ?_
    refine zH ?_
    rcases bvs bq18 with ⟨rfl,q18⟩|⟨rfl,q18⟩
    ·refine zf ?_
     exact zno fun hq=>have y:=(wt q56).1 hq;absurd y.fx q18
    refine zf ?_
    exact zno fun hq=>have y:=(wt q56).1 hq;by have:=y.len;omega
   refine zG ?_
   by_cases q57:o=2
   ·refine zf ?_
    exact zno fun hq=>have y:=(xU q57).1 hq;by have:=y.len;omega
   refine zG ?_
   by_cases q58:o=3
   ·refine zG ?_
    rcases bvs bq18 with ⟨rfl,q18⟩|⟨rfl,q18⟩
    ·refine zf ?_
     exact zno fun hq=>have y:=(yW q58).1 hq;absurd y.fx q18
    refine zG ?_
    by_cases q59:(l14:Int)=(lc:Int)
    ·refine zG ?_
     by_cases q60:(l15:Int)>0
     ·refine zf ?_
      exact zno fun hq=>have y:=(yW q58).1 hq;by have:=y.len;omega
     refine zG ?_
     by_cases q61:(l16:Int)>0
     ·refine zf ?_
      exact zno fun hq=>have y:=(yW q58).1 hq;by have:=y.len;omega
     refine zG ?_
     by_cases q62:V=[]
     ·refine vB false R6 (by simp [q62]) ?_
      refine zG ?_
      refine sC (show CX _ _ _ _ _ (QV (valQ p Y)) from dotQ _ (g.x zx) (io.x zx) (i14.x zx).1 (Txt.nums hp.ob) (Txt.nums hY) (by rw [List.length_map,List.length_map];omega) (by rw [List.length_map];omega)) ?_
      rintro _ h63 n63 ⟨b63,a63,l63,c63,d63,e63,f63,g63,rfl,i63,j63⟩ y63 x63
      refine sC (sf _ i63 j63) ?_
      rintro _ h64 n64 ⟨s64,rfl,q64⟩ y64 x64
      rcases q64 with ⟨rfl,q64⟩|⟨rfl,q64⟩|⟨rfl,q64⟩
      ·refine zG ?_
       refine sC ((zf1 _ (g.x zx) (io.x zx) (ir.x zx) (ic.x zx) (i14.x zx).1 (LPB.rows hp) (LPB.cols hp) (hv.rwb hp) (Txt.nums hY) (by rw [List.length_map,hv.cols];omega) (by rw [List.length_map];omega) ⟨by rw [hv.cols];exact hp.n1,by rw [zY];exact hp.n2⟩ hL zo).cx) ?_
       rintro _ h65 n65 ⟨b65,rfl,bq65⟩ y65 x65
       rcases bvs bq65 with ⟨rfl,q65⟩|⟨rfl,q65⟩
       ·refine zf ?_
        exact zno fun hq=>have y:=(yW q58).1 hq;absurd y.dy q65
       refine zf ?_
       exact zye ((yW q58).2 ⟨m13,zo,q18,m14,zo,zo,zo,q62,q64,q65⟩)
      ·refine zf ?_
       exact zno fun hq=>have y:=(yW q58).1 hq;by have:=y.sy;omega
      refine zf ?_
      exact zno fun hq=>have y:=(yW q58).1 hq;by have:=y.sy;omega
     refine vB true R6 (by simp [q62]) ?_
     refine zf ?_
     exact zno fun hq=>have y:=(yW q58).1 hq;absurd y.v0 q62
    refine zf ?_
    exact zno fun hq=>have y:=(yW q58).1 hq;by have:=y.len;omega
   refine zf ?_
   exact zno fun hq=>by rcases hq with hq|hq|hq<;>omega
  refine zG ?_
  by_cases q66:o=1
  ·refine zG ?_
   refine zj [0,1,3,7,15,31,63,127,255,511,1023,2047,4095,8191,4095,32767,65535,4095,135167,524287,1048575] rfl ?_
   refine zH ?_
   rcases bvs bq18 with ⟨rfl,q18⟩|⟨rfl,q18⟩
   ·refine zf ?_
    exact zno fun hq=>have y:=(wt q66).1 hq;absurd y.fx q18
   refine zf ?_
   exact zno fun hq=>have y:=(wt q66).1 hq;by have:=y.len;omega
  refine zG ?_
  by_cases q67:o=2
  ·refine zf ?_
   exact zno fun hq=>have y:=(xU q67).1 hq;by have:=y.len;omega
  refine zG ?_
  by_cases q68:o=3
  ·refine zG ?_
   rcases bvs bq18 with ⟨rfl,q18⟩|⟨rfl,q18⟩
   ·refine zf ?_
    exact zno fun hq=>have y:=(yW q68).1 hq;absurd y.fx q18
   refine zG ?_
   by_cases q69:(l14:Int)=(lc:Int)
   ·refine zG ?_
    by_cases q70:(l15:Int)>0
    ·refine zf ?_
     exact zno fun hq=>have y:=(yW q68).1 hq;by have:=y.len;omega
    refine zG ?_
    by_cases q71:(l16:Int)>0
    ·refine zf ?_
     exact zno fun hq=>have y:=(yW q68).1 hq;by have:=y.len;omega
    refine zG ?_
    by_cases q72:V=[]
    ·refine vB false R6 (by simp [q72]) ?_
     refine zG ?_
     refine sC (show CX _ _ _ _ _ (QV (valQ p Y)) from dotQ _ (g.x zx) (io.x zx) (i14.x zx).1 (Txt.nums hp.ob) (Txt.nums hY) (by rw [List.length_map,List.length_map];omega) (by rw [List.length_map];omega)) ?_
     rintro _ h73 n73 ⟨b73,a73,l73,c73,d73,e73,f73,g73,rfl,i73,j73⟩ y73 x73
     refine sC (sf _ i73 j73) ?_
     rintro _ h74 n74 ⟨s74,rfl,q74⟩ y74 x74
     rcases q74 with ⟨rfl,q74⟩|⟨rfl,q74⟩|⟨rfl,q74⟩
     ·refine zG ?_
      refine sC ((zf1 _ (g.x zx) (io.x zx) (ir.x zx) (ic.x zx) (i14.x zx).1 (LPB.rows hp) (LPB.cols hp) (hv.rwb hp) (Txt.nums hY) (by rw [List.length_map,hv.cols];omega) (by rw [List.length_map];omega) ⟨by rw [hv.cols];exact hp.n1,by rw [zY];exact hp.n2⟩ hL zo).cx) ?_
      rintro _ h75 n75 ⟨b75,rfl,bq75⟩ y75 x75
      rcases bvs bq75 with ⟨rfl,q75⟩|⟨rfl,q75⟩
      ·refine zf ?_
       exact zno fun hq=>have y:=(yW q68).1 hq;absurd y.dy q75
      refine zf ?_
      exact zye ((yW q68).2 ⟨m13,zo,q18,m14,zo,zo,zo,q72,q74,q75⟩)
     ·refine zf ?_
      exact zno fun hq=>have y:=(yW q68).1 hq;by have:=y.sy;omega
     refine zf ?_
     exact zno fun hq=>have y:=(yW q68).1 hq;by have:=y.sy;omega
    refine vB true R6 (by simp [q72]) ?_
    refine zf ?_
    exact zno fun hq=>have y:=(yW q68).1 hq;absurd y.v0 q72
   refine zf ?_
   exact zno fun hq=>have y:=(yW q68).1 hq;by have:=y.len;omega
  refine zf ?_
  exact zno fun hq=>by rcases hq with hq|hq|hq<;>omega
 refine zG ?_
 by_cases q76:(l15:Int)=(lr:Int)
 ·refine zG ?_
  by_cases q77:(l16:Int)=(lc:Int)
  ·refine zG ?_
   by_cases q78:o=1
   ·refine zG ?_
    refine zj [0,1,3,7,15,31,63,127,255,511,1023,2047,4095,8191,4095,32767,65535,4095,135167,524287,1048575] rfl ?_
    refine zf ?_
    exact zno fun hq=>have y:=(wt q78).1 hq;by have:=y.len;omega
   refine zG ?_
   by_cases q79:o=2
   ·refine zG ?_
    by_cases q80:(l13:Int)>0
    ·refine zf ?_
     exact zno fun hq=>have y:=(xU q79).1 hq;by have:=y.len;omega
    refine zG ?_
    by_cases q81:(l14:Int)>0
    ·refine zf ?_
     exact zno fun hq=>have y:=(xU q79).1 hq;by have:=y.len;omega
    refine zG ?_
    by_cases q82:V=[]
    ·refine vB false R6 (by simp [q82]) ?_
     refine zG ?_
     refine sC (ag _ (g.x zx) (io.x zx) (ir.x zx) (ic.x zx) (i15.x zx).1 i16.1 (LPB.rows hp) (LPB.cols hp) (Txt.nums hR) (Txt.nums hC) (by rw [List.length_map,zY];omega) (by rw [List.length_map,hv.cols];omega) (by rw [zY,hv.cols];omega)) ?_
     rintro _ h83 n83 ⟨b83,a83,l83,c83,d83,e83,f83,g83,ok83,rfl,bm83,q83⟩ y83 x83
     rcases bvs bm83 with ⟨rfl,m83⟩|⟨rfl,m83⟩
     ·refine zG ?_
      refine sA ?_
      intro h84 p84 x84
      refine sS [.bool b83,.slice a83 l83 c83,.bool d83,.slice e83 f83 g83] ?_
      intro h85 p85 o85
      refine zG ?_
      refine zj [0,1,3,7,15,31,63,127,127,127,1023,127,2175,8191,16383,32767] rfl ?_
      refine zf ?_
      exact zno fun hq=>have y:=(xU q79).1 hq;absurd y.bo m83
     obtain ⟨i83,j83⟩:=q83 rfl
     have i83:IW h83 n83 b83 a83 l83 c83 (bndQ p R C).num:=i83
     have j83:IW h83 n83 d83 e83 f83 g83 (denZ (bndQ p R C)):=j83
     refine zG ?_
     refine sA ?_
     intro h86 p86 x86
     refine sS [.bool b83,.slice a83 l83 c83,.bool d83,.slice e83 f83 g83] ?_
     intro h87 p87 o87
     refine zG ?_
     refine zj [0,1,3,7,15,31,63,127,127,127,1023,127,2175,8191,16383,32767] rfl ?_
     refine zH ?_
     refine dC (sf _ (i83.t zt) (j83.t zt)) ?_
     rintro _ h88 n88 ⟨s88,rfl,q88⟩ y88 x88
     rcases q88 with ⟨rfl,q88⟩|⟨rfl,q88⟩|⟨rfl,q88⟩
     ·refine zf ?_
      exact zno fun hq=>have y:=(xU q79).1 hq;by have:=y.sb;omega
     ·refine zf ?_
      exact zno fun hq=>have y:=(xU q79).1 hq;by have:=y.sb;omega
     refine zH ?_
     refine dC (zfw _ (g.x zx) (io.x zx) (ir.x zx) (ic.x zx) (i15.x zx).1 (i16.x zx).1 (fun d hd=>(hv.rwb hp d hd).1) (Txt.nums hR) (Txt.nums hC) hra (by rw [List.length_map,zY];omega) (by rw [List.length_map,hv.cols];omega) ⟨by rw [hv.cols];exact hp.n1,by rw [zY];exact hp.n2⟩ (by rw [zY];omega)) ?_
     rintro _ h89 n89 ⟨a89,l89,c89,rfl,i89⟩ y89 x89
     refine zH ?_
     refine dM (L:=lc) ?_
     intro h90 p90 x90
     rw [lc1] at p90
     have i90:=(OQ.zeros (n:=n89+1) zo p90).sl (len:=lc) (cap:=lc) (by rw [List.length_replicate,lc1]) (Nat.le_refl _)
     refine dC ((kY _ (i89.x zx) i90 (qq (fun d hd=>(hv.rwb hp d hd).1) (Txt.nums hR) (Txt.nums hC)) (fun q hq=>by rw [(List.mem_replicate.1 hq).2];exact Sz.zero a zo) (by rw [y4,List.length_map,List.length_replicate];omega) (by rw [y4,List.length_map];omega) (by rw [zY];omega)).cx) ?_
     rintro _ h91 n91 ⟨b91,rfl,bq91⟩ y91 x91
     rcases bvs bq91 with ⟨rfl,q91⟩|⟨rfl,q91⟩
     ·refine zf ?_
      exact zno fun hq=>have y:=(xU q79).1 hq;absurd y.co q91
     refine zf ?_
     exact zye ((xU q79).2 ⟨m15,zo,m16,zo,zo,zo,q82,m83,q88,q91⟩)
    refine vB true R6 (by simp [q82]) ?_
    refine zf ?_
    exact zno fun hq=>have y:=(xU q79).1 hq;absurd y.v0 q82
   refine zG ?_
   by_cases q92:o=3
   ·refine zf ?_
    exact zno fun hq=>have y:=(yW q92).1 hq;by have:=y.len;omega
   refine zf ?_
   exact zno fun hq=>by rcases hq with hq|hq|hq<;>omega
  refine zG ?_
  by_cases q93:o=1
  ·refine zG ?_
   refine zj [0,1,3,7,15,31,63,127,255,511,1023,2047,4095,8191,4095,32767,65535,4095,135167,524287,1048575] rfl ?_
   refine zf ?_
   exact zno fun hq=>have y:=(wt q93).1 hq;by have:=y.len;omega
  refine zG ?_
  by_cases q94:o=2
  ·refine zf ?_
   exact zno fun hq=>have y:=(xU q94).1 hq;by have:=y.len;omega
  refine zG ?_
  by_cases q95:o=3
  ·refine zf ?_
   exact zno fun hq=>have y:=(yW q95).1 hq;by have:=y.len;omega
  refine zf ?_
  exact zno fun hq=>by rcases hq with hq|hq|hq<;>omega
 refine zG ?_
 by_cases q96:o=1
 ·refine zG ?_
  refine zj [0,1,3,7,15,31,63,127,255,511,1023,2047,4095,8191,4095,32767,65535,4095,135167,524287,1048575] rfl ?_
  refine zf ?_
  exact zno fun hq=>have y:=(wt q96).1 hq;by have:=y.len;omega
 refine zG ?_
 by_cases q97:o=2
 ·refine zf ?_
  exact zno fun hq=>have y:=(xU q97).1 hq;by have:=y.len;omega
 refine zG ?_
 by_cases q98:o=3
 ·refine zf ?_
  exact zno fun hq=>have y:=(yW q98).1 hq;by have:=y.len;omega
 refine zf ?_
 exact zno fun hq=>by rcases hq with hq|hq|hq<;>omega
end
section
variable {h:HF}{a b cm co cr cu cw cx cy cz lm lo lr lu lw lx ly lz n:Nat}{am ao ar au aw ax ay az:Option Addr}
open Classical in
noncomputable def chkI (p:LPD)(o:Int)(V:List UInt8)(X Y R C:List (List UInt8)):Int:=if VLP p then (if prv p o V X Y R C then 0 else 13) else 1
section
variable {p:LPD}{o:Int}{V:List UInt8}{X Y R C:List (List UInt8)}
theorem chk1 (h:¬VLP p):Value.int .i64 1=.int .i64 (chkI p o V X Y R C):=by unfold chkI;rw [if_neg h]
theorem zhn (h:VLP p)(h2:¬prv p o V X Y R C):Value.int .i64 13=.int .i64 (chkI p o V X Y R C):=by unfold chkI;rw [if_pos h,if_neg h2]
theorem chk0 (h:VLP p)(h2:prv p o V X Y R C):Value.int .i64 0=.int .i64 (chkI p o V X Y R C):=by unfold chkI;rw [if_pos h,if_pos h2]
end
theorem zdo (k:Nat)(g:GG h n){p:LPD}(io:Sl h n 1 (.slice ao lo co) (strs p.obj))(ir:RWS h n (.slice ar lr cr) p.rows)(iw:Sl h n 1 (.slice aw lw cw) (strs p.lower))(iu:Sl h n 1 (.slice au lu cu) (strs p.upper))(hp:LPB a p)(ha:a+a≤2000){o:Int}{V:List UInt8}{X Y R C:List (List UInt8)}(ix:Sl h n 1 (.slice ax lx cx) (strs X))(iy:Sl h n 1 (.slice ay ly cy) (strs Y))(iz:Sl h n 1 (.slice az lz cz) (strs R))(im:Sl h n 1 (.slice am lm cm) (strs C))(hX:∀s∈X,Txt b s)(hXl:X.length<1000000)(hY:∀s∈Y,Txt b s)(hYl:Y.length<1000000)(hR:∀s∈R,Txt b s)(hRl:R.length<1000000)(hC:∀s∈C,Txt b s)(hCl:C.length<1000000)(hVl:V.length<1000000)(hL:p.obj.length*(a+b+1)+a+b+2≤1900)(hLB:p.rows.length*(a+b+1)+p.obj.length*(a+b+1)+a+b+2≤1900)(ha2:1≤a∧a≤90∧b≤90):VF (cal (k+15)) 19 [.agg #[.slice ao lo co,.slice ar lr cr,.slice aw lw cw,.slice au lu cu],.agg #[.int .i64 o,.string ⟨⟨V⟩⟩,.slice ax lx cx,.slice ay ly cy,.slice az lz cz,.slice am lm cm]] h n fun v=>v=.int .i64 (chkI p o V X Y R C):=by
 have lo1:=zv io
 have lr1:=ir.len
 have lw1:=zv iw
 have lu1:=zv iu
 refine zA (fn:=Tryz.f19) R4 ?_
 refine zG ?_
 refine sB [.slice ao lo co,.slice ar lr cr,.slice aw lw cw,.slice au lu cu] ?_
 intro h11 p11 x11
 refine sB [.int .i64 o,.string ⟨⟨V⟩⟩,.slice ax lx cx,.slice ay ly cy,.slice az lz cz,.slice am lm cm] ?_
 intro h12 p12 x12
 refine zG ?_
 refine sC (zia _ (g.x zx) (io.x zx) (ir.x zx) (iw.x zx) (iu.x zx) hp ha) ?_
 rintro _ h13 n13 ⟨aO13,lO13,kO13,aR13,lR13,kR13,aC13,lC13,kC13,ok13,rfl,bm13,q13⟩ y13 x13
 rcases bvs bm13 with ⟨rfl,m13⟩|⟨rfl,m13⟩
 ·refine zG ?_
  refine sA ?_
  intro h14 p14 x14
  refine sS [.slice aO13 lO13 kO13,.slice aR13 lR13 kR13,.slice aC13 lC13 kC13] ?_
  intro h15 p15 o15
  refine zf ?_
  exact chk1 m13
 obtain ⟨iO13,iR13,iC13⟩:=q13 rfl
 refine zG ?_
 refine sA ?_
 intro h16 p16 x16
 refine sS [.slice aO13 lO13 kO13,.slice aR13 lR13 kR13,.slice aC13 lC13 kC13] ?_
 intro h17 p17 o17
 refine zG ?_
 refine sC ((zem _ (g.x zx) (iO13.x zx).1 (iR13.x zx).sds (iC13.x zx).sds m13 hp (ix.x zx) (iy.x zx) (iz.x zx) (im.x zx) hX hXl hY hYl hR hRl hC hCl hVl hL hLB ha2).cx) ?_
 rintro _ h18 n18 ⟨b18,rfl,bq18⟩ y18 x18
 rcases bvs bq18 with ⟨rfl,q18⟩|⟨rfl,q18⟩
 ·refine zf ?_
  exact zhn m13 q18
 refine zf ?_
 exact chk0 m13 q18
theorem zdn (k:Nat){p:LPD}(io:Sl h n 1 (.slice ao lo co) (strs p.obj))(ir:RWS h n (.slice ar lr cr) p.rows)(iw:Sl h n 1 (.slice aw lw cw) (strs p.lower))(iu:Sl h n 1 (.slice au lu cu) (strs p.upper))(hp:LPB a p)(ha:a+a≤2000){o:Int}{V:List UInt8}{X Y R C:List (List UInt8)}(ix:Sl h n 1 (.slice ax lx cx) (strs X))(iy:Sl h n 1 (.slice ay ly cy) (strs Y))(iz:Sl h n 1 (.slice az lz cz) (strs R))(im:Sl h n 1 (.slice am lm cm) (strs C))(hX:∀s∈X,Txt b s)(hXl:X.length<1000000)(hY:∀s∈Y,Txt b s)(hYl:Y.length<1000000)(hR:∀s∈R,Txt b s)(hRl:R.length<1000000)(hC:∀s∈C,Txt b s)(hCl:C.length<1000000)(hVl:V.length<1000000)(hL:p.obj.length*(a+b+1)+a+b+2≤1900)(hLB:p.rows.length*(a+b+1)+p.obj.length*(a+b+1)+a+b+2≤1900)(ha2:1≤a∧a≤90∧b≤90):VF (cal (k+12)) 20 [.agg #[.slice ao lo co,.slice ar lr cr,.slice aw lw cw,.slice au lu cu],.agg #[.int .i64 o,.string ⟨⟨V⟩⟩,.slice ax lx cx,.slice ay ly cy,.slice az lz cz,.slice am lm cm]] h n fun v=>v=.int .i64 (chkI p o V X Y R C):=by
 have lo1:=zv io
 have lr1:=ir.len
 have lw1:=zv iw
 have lu1:=zv iu
 refine zA (fn:=Tryz.f20) R4 ?_
 refine zG ?_
 refine sB [.slice ao lo co,.slice ar lr cr,.slice aw lw cw,.slice au lu cu] ?_
 intro h11 p11 x11
 refine sB [.int .i64 o,.string ⟨⟨V⟩⟩,.slice ax lx cx,.slice ay ly cy,.slice az lz cz,.slice am lm cm] ?_
 intro h12 p12 x12
 refine zG ?_
 refine sC ((zdu _ (io.x zx) (ir.x zx) (iw.x zx) (iu.x zx) hp ha).cx) ?_
 rintro _ h13 n13 ⟨b13,rfl,bq13⟩ y13 x13
 rcases bvs bq13 with ⟨rfl,q13⟩|⟨rfl,q13⟩
 ·refine zf ?_
  exact chk1 q13
 refine zG ?_
 refine sC ((zel _ (io.x zx) (ir.x zx) (iw.x zx) (iu.x zx) hp ha q13 (ix.x zx) (iy.x zx) (iz.x zx) (im.x zx) hX hXl hY hYl hR hRl hC hCl hVl hL hLB ha2).cx) ?_
 rintro _ h14 n14 ⟨b14,rfl,bq14⟩ y14 x14
 rcases bvs bq14 with ⟨rfl,q14⟩|⟨rfl,q14⟩
 ·refine zf ?_
  exact zhn q13 q14
 refine zf ?_
 exact chk0 q13 q14
end
section
variable {h h':HF}{b cap k l len lo' m n n' sz:Nat}{S:List (List UInt8)}{v:Value}{c cs:List Value}{e:TypeId}
theorem er (l:List (List UInt8)):(strs l).length=l.length*1:=by simp [strs]
theorem dF (l:List (List UInt8)):ones (strs l)=true:=by
 induction l with
 |nil=>rfl
 |cons e l ih=>exact ih
theorem zcx (k:Nat){a:Option Addr}(hs:Sl h n 1 (.slice a len cap) (strs S))(hb:S.length<1000000):
  CX (cal (k+1)) 27 [.slice a len cap] h n fun v h' n'=>Gr0 h' n n' 9 1 v S.length (strs S):=by
 refine zr (fn:=Tryz.f27) R4 ?_
 have e1:=zv hs
 subst e1
 refine zN ?_
 repeat refine zR ?_
 refine zN ?_
 refine vO (cs:=[]) R5 ?_
 generalize hh:upd h (3*n+2) _=h1
 have hx1:Ext n h h1:=by rw [←hh];exact Ext.upd zo
 clear hh
 refine zM ?_
 refine eF (lo:=n) R8 zd (.emp (Nat.le_refl _) (Nat.lt_succ_self _)) (vI (hs.ext hx1 zs)) zo (er _) (dF _) (by show n≤n∧_;omega) ?_
 intro v h3 n3 hn3 hg hx3 _ _
 rw [Nat.zero_add,List.nil_append] at hg
 obtain ⟨av,rfl,_⟩:=hg.shape
 refine zM ?_
 refine zN ?_
 exact retX [.slice av S.length S.length] R3 (show n≤n3 by omega) (hx1.trans hx3 (Nat.le_refl _)) hg
def fitL (l:List (List UInt8))(n:Nat)(s:List UInt8):List (List UInt8):=(l++List.replicate (n-l.length) s).take n
theorem nl (l:List (List UInt8))(n:Nat)(s:List UInt8):(fitL l n s).length=n:=by
 unfold fitL
 rw [List.length_take,List.length_append,List.length_replicate]
 omega
theorem zbn {l:List (List UInt8)}{s x:List UInt8}(h:x∈fitL l n s):x∈l∨x=s:=by
 rcases List.mem_append.1 (List.mem_of_mem_take h) with h|h
 ·exact .inl h
 exact .inr (List.eq_of_mem_replicate h)
def SSE (lo:Nat)(h:HF)(n:Nat)(v:Value)(L:List (List UInt8)):Prop:=Sl h n 1 v (strs L)∧∀ad len cap,v=.slice (some ad) len cap→3*lo≤ad.block∧(len≠0→∃cs,h ad.block=some (.row cs 9))
theorem SSE.of_gr0 {lo:Nat}(g:Gr0 h lo n 9 1 v len c){T:List (List UInt8)}(hc:c=strs T)(hm:m≤len){a:Option Addr}(hv:v=.slice a l k):SSE lo h n (.slice a m k) (T.take m):=by
 have ht:∀(x:List Value),x=strs T→x.take m=strs (T.take m):=fun x e=>by rw [e];unfold strs;rw [List.map_take]
 cases g with
 |gro g=>
  cases g with
  |nil=>
   cases hv
   have h0:m=0:=zo
   subst h0
   exact ⟨.nil (.inl rfl),fun ad l c e=>by cases e⟩
  |at_ hg hlo hb hr hl ho=>
   cases hv
   refine ⟨.at_ hb hr rfl hm zo (by rw [List.drop_zero,Nat.mul_one];exact ht _ hc),fun ad l c e=>?_⟩
   cases e
   exact ⟨hlo,fun _=>⟨_,hr⟩⟩
 | @emp m2 hlo hm2=>
  cases hv
  have h0:m=0:=zo
  subst h0
  refine ⟨.nil (.inr ⟨_,_,_,rfl,zo⟩),fun ad l c e=>?_⟩
  cases e
  exact ⟨by show 3*lo≤3*m2+2;omega,fun h=>absurd rfl h⟩
theorem SSE.go {lo:Nat}{L:List (List UInt8)}(s:SSE lo h n v L)(hk:∀b cs,3*lo≤b→b<3*n→h b=some (.row cs 9)→h' b=h b)(hn:n≤n'):SSE lo h' n' v L:=by
 obtain ⟨s,f⟩:=s
 generalize hcl:strs L=cl at s
 cases s with
 |nil ha=>exact ⟨by rw [hcl];exact .nil (vt ha hn),fun ad len cap e=>by cases e;exact ⟨(f _ _ _ rfl).1,fun h=>absurd rfl h⟩⟩
 | @at_ b off len cap x cs cells hb hx hc hcap hl he=>
  by_cases h0:len=0
  ·subst h0
   have h1:cl=[]:=by rw [←he];simp
   subst h1
   exact ⟨by rw [hcl];exact .nil (.inr ⟨_,_,_,rfl,zo⟩),fun ad len cap e=>by cases e;exact ⟨(f _ _ _ rfl).1,fun h=>absurd rfl h⟩⟩
  obtain ⟨f1,f2⟩:=f _ _ _ rfl
  obtain ⟨cs2,f3⟩:=f2 h0
  have f4:=hk _ _ f1 hb f3
  exact ⟨by rw [hcl];exact .at_ zo (f4.trans hx) hc hcap hl he,fun ad len cap e=>by cases e;exact ⟨f1,fun _=>⟨_,f4.trans f3⟩⟩⟩
theorem SSE.ext {lo:Nat}{L:List (List UInt8)}(s:SSE lo h n v L)(x:Ext n h h')(hn:n≤n'):SSE lo h' n' v L:=s.go (fun b _ _ hb _=>x b hb) hn
theorem SSE.x {lo:Nat}{L:List (List UInt8)}(g:SSE lo h n v L)(t:Tx n h n' h'):SSE lo h' n' v L:=g.ext t.2 t.1
theorem SSE.st {lo:Nat}{L:List (List UInt8)}(s:SSE lo h n v L)(_:h b=some (.row cs e))(_:cs.all nu=true)(ho:Only b h h')(hb:b<3*lo):SSE lo h' n v L:=s.go (fun k _ hk _ _=>ho k zo) (Nat.le_refl _)
theorem SSE.sto {lo:Nat}{L:List (List UInt8)}(g:SSE lo h n v L)(o:Sto b h h')(hb:b<3*lo):SSE lo h' n v L:=by
 obtain ⟨o,_,_,hp,hu⟩:=o
 exact g.st hp hu o hb
theorem SSE.ss {lo:Nat}{L:List (List UInt8)}(s:SSE lo h n v L):Sl h n 1 v (strs L):=s.1
theorem SSE.lo {lo:Nat}{L:List (List UInt8)}(s:SSE lo h n v L)(hl:lo'≤lo):SSE lo' h n v L:=⟨s.1,fun ad len cap e=>⟨by have:=(s.2 ad len cap e).1;omega,(s.2 ad len cap e).2⟩⟩
def gF (lo:Nat)(c:List Value)(d:RowD)(h:HF)(n:Nat):Prop:=∃a l k,c=[.slice a l k,.string ⟨⟨d.lo⟩⟩,.string ⟨⟨d.hi⟩⟩]∧SSE lo h n (.slice a l k) d.A
structure GRW (lo:Nat)(h:HF)(n:Nat)(v:Value)(ds:List RowD):Prop where
 ex:∃C,Gro h lo n 45 3 v ds.length C∧Rec 3 (fun c d=>gF lo c d h n) C ds
theorem GRW.nil (lo:Nat)(h:HF)(n:Nat):GRW lo h n (.slice none 0 0) []:=⟨[],.nil,.nil⟩
theorem GRW.ext {lo:Nat}{ds:List RowD}(g:GRW lo h n v ds)(x:Ext n h h')(hn:n≤n'):GRW lo h' n' v ds:=by
 obtain ⟨C,h1,h2⟩:=g.ex
 exact ⟨C,h1.ext x hn,h2.mono fun c d ⟨a,l,k,e,s⟩=>⟨a,l,k,e,s.ext x hn⟩⟩
theorem GRW.x {lo:Nat}{ds:List RowD}(g:GRW lo h n v ds)(t:Tx n h n' h'):GRW lo h' n' v ds:=g.ext t.2 t.1
theorem GRW.st {lo:Nat}{ds:List RowD}(g:GRW lo h n v ds)(hp:h b=some (.row cs e))(hu:cs.all nu=true)(ho:Only b h h')(hb:b<3*lo):GRW lo h' n v ds:=by
 obtain ⟨C,h1,h2⟩:=g.ex
 exact ⟨C,h1.same fun k hk _ _=>ho k zo,h2.mono fun c d ⟨a,l,k,e,s⟩=>⟨a,l,k,e,s.st hp hu ho hb⟩⟩
theorem GRW.sto {lo:Nat}{ds:List RowD}(g:GRW lo h n v ds)(o:Sto b h h')(hb:b<3*lo):GRW lo h' n v ds:=by
 obtain ⟨o,_,_,hp,hu⟩:=o
 exact g.st hp hu o hb
theorem GRW.lo {lo:Nat}{ds:List RowD}(g:GRW lo h n v ds)(hl:lo'≤lo):GRW lo' h n v ds:=by
 obtain ⟨C,h1,h2⟩:=g.ex
 refine ⟨C,?_,h2.mono fun c d ⟨a,l,k,e,s⟩=>⟨a,l,k,e,s.lo hl⟩⟩
 generalize ds.length=m at h1 ⊢
 cases h1 with
 |nil=>exact .nil
 |at_ hg hlo hb hr hl2 ho=>exact .at_ hg zo hb hr hl2 ho
theorem GRW.rws {lo:Nat}{ds:List RowD}(g:GRW lo h n v ds):RWS h n v ds:=by
 obtain ⟨C,h1,h2⟩:=g.ex
 exact ⟨C,h1.sl,h2.mono fun c d ⟨a,l,k,e,s⟩=>⟨a,l,k,e,s.1⟩⟩
theorem SSE.keep {lo lo2:Nat}{u:Value}{L:List (List UInt8)}{C:List Value}(s:SSE lo h n v L)(g:Gro h lo2 n 45 3 u len C)(k:Keep u n h h')(hn:n≤n'):SSE lo h' n' v L:=
 s.go (fun b cs hb hb2 hr=>by
  refine k b hb2 fun o l c e=>?_
  cases g with
  |nil=>cases e
  |at_ hg hlo hb3 hr2 hl2 ho=>
   cases e
   rw [hr] at hr2
   injection hr2 with hr2
   injection hr2 with _ hr2
   exact absurd hr2 zd) hn
theorem GRW.app {lo:Nat}{v':Value}{ds:List RowD}{d:RowD}{C:List Value}(h1:Gro h lo n 45 3 v ds.length C)(h2:Rec 3 (fun c d=>gF lo c d h n) C ds)(s:gF lo c d h n)(k:Keep v n h h')(g:Gro h' lo (n+1) 45 3 v' (ds.length+1) (C++c)):GRW lo h' (n+1) v' (ds++[d]):=by
 have hk:∀c d,gF lo c d h n→gF lo c d h' (n+1):=fun c d ⟨a,l,m,e,s⟩=>⟨a,l,m,e,s.keep h1 k zs⟩
 refine ⟨C++c,by rw [List.length_append];exact g,(h2.mono hk).snoc ?_ (hk _ _ s)⟩
 obtain ⟨a,l,m,rfl,_⟩:=s
 rfl
theorem Gr0.slice {lo:Nat}{a:Option Addr}(g:Gr0 h lo n e sz (.slice a l k) len c):l=len∧k=len∧(a=none∨∃b,a=some ⟨b,0,none⟩):=by
 cases g with
 |gro g=>
  cases g with
  |nil=>exact ⟨rfl,rfl,.inl rfl⟩
  |at_ hg hlo hb hr hl ho=>exact ⟨rfl,rfl,.inr ⟨_,rfl⟩⟩
 |emp hlo hm=>exact ⟨rfl,rfl,.inr ⟨_,rfl⟩⟩
theorem cL (k:Nat){a:Option Addr}(hs:Sl h n 1 (.slice a len cap) (strs S))(hb:S.length<1000000)(hm:m<1000000)(s:List UInt8):
  CX (cal (k+2)) 10 [.slice a len cap,.int .i64 (m:Int),.string ⟨⟨s⟩⟩] h n fun v h' n'=>∃a c,v=.slice a m c∧SSE n h' n' (.slice a m c) (fitL S m s):=by
 refine zr (fn:=Tryz.f10) R4 ?_
 have e1:=zv hs
 subst e1
 refine zN ?_
 repeat refine zR ?_
 refine zN ?_
 refine zM ?_
 refine oL R5 (zcx k hs hb) ?_
 intro v h1 n1 g1 hn1 x1
 obtain ⟨a1,rfl,_⟩:=g1.shape
 refine zM ?_
 refine zN ?_
 refine zV (α:=Option Addr×Nat) (fun z=>[(1,.int .i64 (m:Int)),(2,.string ⟨⟨s⟩⟩),(7,.slice z.1 (S.length+z.2) (S.length+z.2))]) (fun z h' n' w'=>w'=[]∧n≤n'∧Ext n h h'∧Gr0 h' n n' 9 1 (.slice z.1 (S.length+z.2) (S.length+z.2)) (S.length+z.2) (strs (S++List.replicate z.2 s))∧(z.2=0∨S.length+z.2≤m)) (fun z=>m-(S.length+z.2))
  (a1,0) ⟨rfl,rfl,rfl,trivial⟩ ⟨rfl,hn1,x1,by rw [List.replicate_zero,List.append_nil];exact g1,.inl rfl⟩ (by show m-(S.length+0)<LL;unfold LL;omega) ?_
 rintro ⟨av,j⟩ t h2 n2 _ ⟨rfl,hn2,x2,g2,hj⟩
 simp only at g2 hj
 refine zN ?_
 by_cases hc:S.length+j<m
 ·repeat refine zR ?_
  refine zN ?_
  rw [zc rfl]
  refine zN ?_
  refine zM ?_
  refine zM ?_
  refine uE [.string ⟨⟨s⟩⟩] (l:=1) (c:=1) R5 ?_
  intro h3 p3 x3
  refine eF (lo:=n) (m:=1) R8 zd (g2.ext x3 zs) (wy p3 R2) zo rfl rfl (by show n≤n∧_;omega) ?_
  intro v h4 n4 hn4 g4 x4 _ _
  obtain ⟨a4,rfl,_⟩:=g4.shape
  refine zM ?_
  refine zN ?_
  refine goOn (a4,j+1) (by show m-(S.length+(j+1))<m-(S.length+j);omega) ⟨rfl,rfl,rfl,trivial⟩ ⟨rfl,(by show n≤n4;have:n2+1≤n4:=hn4;omega),(x2.trans (x3.mono hn2) (Nat.le_refl _)).trans x4 (Nat.le_refl _),?_,.inr (by show S.length+(j+1)≤m;omega)⟩
  rw [List.replicate_succ',←List.append_assoc,lX]
  exact g4
 repeat refine zR ?_
 refine zN ?_
 rw [za rfl]
 refine zN ?_
 refine zM ?_
 refine zM ?_
 have hf:(S++List.replicate j s).take m=fitL S m s:=by
  unfold fitL
  rcases hj with hj|hj
  ·subst hj;rw [show m-S.length=0 by omega]
  rw [show m-S.length=j by omega]
 have hr:=SSE.of_gr0 g2 rfl (m:=m) zo rfl
 rw [hf] at hr
 rcases g2.slice.2.2 with e|⟨b,e⟩
 ·subst e
  refine lZ m R9 zo ?_
  refine zM ?_
  refine zN ?_
  exact retX [.slice none m (S.length+j)] R3 hn2 x2 ⟨_,_,rfl,hr⟩
 subst e
 refine vN m R8 rfl zo ?_
 refine zM ?_
 refine zN ?_
 exact retX [.slice (some ⟨b,0,none⟩) m (S.length+j)] R3 hn2 x2 ⟨_,_,rfl,hr⟩
end
section
end
section
variable {a b cap j l:Nat}{p:LPD}{e:TypeId}{S:List (List UInt8)}
theorem d9 (V:Nat):V<10^(decT V).length:=by
 have h:∀V,V<10^(decD V).length:=by
  intro V
  induction V using Nat.strongRecOn with
  |_ V ih=>
   by_cases h0:V=0
   ·subst h0;rw [yO];exact Nat.one_pos
   rw [wf h0,List.length_append]
   have:=ih (V/10) zo
   rw [show (decD (V/10)).length+[V%10].length=(decD (V/10)).length+1 from rfl,Nat.pow_succ]
   omega
 unfold decT
 split
 ·rename_i h0;rw [h0];decide
 rw [List.length_map,iK];exact h V
theorem Txt.of {s:List UInt8}{m:Nat}(h:s.length≤m)(hm:m<500)(ha:10^m≤2^a)(h1:1≤a):Txt a s:=by
 refine ⟨zo,?_⟩
 by_cases hn:xM s
 ·have he:=oq hn
  generalize zB s=q at he
  have hl:=congrArg List.length he
  unfold ratT at hl
  simp only [List.length_append] at hl
  constructor
  ·exact Nat.lt_of_lt_of_le (Nat.lt_of_lt_of_le (d9 _) (Nat.pow_le_pow_right zd (show _≤m by omega))) ha
  by_cases h2:q.den=1
  ·rw [h2];exact Nat.lt_of_lt_of_le (by decide:(1:Nat)<2^1) (Nat.pow_le_pow_right zd h1)
  rw [if_neg h2,List.length_cons] at hl
  exact Nat.lt_of_lt_of_le (Nat.lt_of_lt_of_le (d9 _) (Nat.pow_le_pow_right zd (show _≤m by omega))) ha
 rw [wB hn];exact Sz.zero a h1
theorem txt8 {s:List UInt8}(h:(s.length:Int)≤8):Txt 27 s:=.of (m:=8) zo zd zd zd
theorem tu {s:List UInt8}(h:(s.length:Int)≤12):Txt 40 s:=.of (m:=12) zo zd zd zd
def zeb (r:RowD):Prop:=r.A.length≤7∧(∀s∈r.A,(s.length:Int)≤8)∧∀s∈[r.lo,r.hi],(s.length:Int)≤8
structure SmlP (p:LPD):Prop where
 n1:p.obj.length≤5
 n2:p.rows.length≤6
 n3:p.lower.length≤7
 n4:p.upper.length≤7
 ob:∀s∈p.obj,(s.length:Int)≤8
 lw:∀s∈p.lower,(s.length:Int)≤8
 up:∀s∈p.upper,(s.length:Int)≤8
 rw:∀r∈p.rows,zeb r
theorem SmlP.lpb (h:SmlP p):LPB 27 p:=
 ⟨fun s hs=>txt8 (h.ob s hs),fun s hs=>txt8 (h.lw s hs),fun s hs=>txt8 (h.up s hs),fun r hr=>⟨txt8 ((h.rw r hr).2.2 _ (by simp)),txt8 ((h.rw r hr).2.2 _ (by simp)),by have:=(h.rw r hr).1;omega,fun s hs=>txt8 ((h.rw r hr).2.1 s hs)⟩,by have:=h.n1;omega,by have:=h.n2;omega,by have:=h.n3;omega,by have:=h.n4;omega⟩
def zdx (n:Nat)(r:RowD):RowD:=⟨fitL r.A n [48],r.lo,r.hi⟩
def wM (p:LPD):List RowD:=p.rows.map (zdx p.obj.length)
def zdy (p:LPD):LPD:=⟨p.obj,wM p,fitL p.lower p.obj.length [],fitL p.upper p.obj.length []⟩
theorem gi {i:Nat}{r:RowD}(h:p.rows[i]?=some r):(wM p)[i]?=some (zdx p.obj.length r):=by unfold wM;rw [List.getElem?_map,h];rfl
theorem wP (p:LPD):(wM p).length=p.rows.length:=by unfold wM;rw [List.length_map]
theorem rj {l:List (List UInt8)}{n:Nat}{s:List UInt8}{m:Int}(h:∀x∈l,(x.length:Int)≤m)(hs:(s.length:Int)≤m):∀x∈fitL l n s,(x.length:Int)≤m:=fun x hx=>by
 rcases zbn hx with h1|h1
 ·exact h x h1
 rw [h1];exact hs
theorem SmlP.tidy (h:SmlP p):SmlP (zdy p):=
 ⟨h.n1,by show (wM p).length≤6;rw [wP];exact h.n2,by show (fitL _ _ _).length≤7;rw [nl];have:=h.n1;omega,by show (fitL _ _ _).length≤7;rw [nl];have:=h.n1;omega,h.ob,rj h.lw zd,rj h.up zd,fun r hr=>by
  obtain ⟨r2,hr2,rfl⟩:=List.mem_map.1 hr
  exact ⟨by show (fitL _ _ _).length≤7;rw [nl];have:=h.n1;omega,rj (h.rw r2 hr2).2.1 zd,(h.rw r2 hr2).2.2⟩⟩
def slP (c:List Value)(S:List (List UInt8))(h:HF)(n:Nat):Prop:=∃a l k,c=[.slice a l k]∧Sl h n 1 (.slice a l k) (strs S)
def SLS (h:HF)(n:Nat)(v:Value)(LL:List (List (List UInt8))):Prop:=RS 1 slP h n v LL
theorem SLS.len {h:HF}{n:Nat}{a:Option Addr}{len:Nat}{LL:List (List (List UInt8))}(r:SLS h n (.slice a len cap) LL):len=LL.length:=RS.len' zd r
theorem SLS.at {h:HF}{n:Nat}{a:Option Addr}{len:Nat}{LL:List (List (List UInt8))}{d:List (List UInt8)}(r:SLS h n (.slice a len cap) LL)(hj:LL[j]?=some d):∃bb off a2 l2 k2,a=some ⟨bb,off,none⟩∧bb<3*n∧j<len∧At h bb (off+j*1) [.slice a2 l2 k2]∧Sl h n 1 (.slice a2 l2 k2) (strs d):=by
 obtain ⟨bb,off,c,p1,p2,p3,p4,_,a2,l2,k2,rfl,s⟩:=RS.at' zd r hj
 exact ⟨bb,off,a2,l2,k2,p1,p2,p3,p4,s⟩
theorem zgj {h:HF}{n:Nat}{s t:List UInt8}(hp:h b=some (.row [.string ⟨⟨s⟩⟩,.string ⟨⟨t⟩⟩] e))(hb:b<3*n):Sl h n 1 (.slice (some ⟨b,0,none⟩) 2 2) (strs [s,t]):=.at_ hb hp rfl (Nat.le_refl _) (Nat.le_refl _) rfl
theorem vy (k:Nat){h:HF}{n:Nat}(g:GG h n):VF (cal (k+1)) 8 [] h n fun v=>v=.bool true:=⟨_,_,_,_,bX k g.1 n,rfl,rfl,rfl,rfl⟩
theorem zer (k:Nat){h:HF}{n:Nat}{a:Option Addr}{len:Nat}(hs:Sl h n 1 (.slice a len cap) (strs S))(hb:S.length<1000000):
  CX (cal (k+1)) 27 [.slice a len cap] h n fun v h' n'=>∃a l c,v=.slice a l c∧SSE n h' n' (.slice a l c) S:=
 (zcx k hs hb).mono fun v h' n' g=>by
  obtain ⟨av,rfl,_⟩:=g.shape
  have:=SSE.of_gr0 g rfl (Nat.le_refl _) rfl
  rw [List.take_length] at this
  exact ⟨_,_,_,rfl,this⟩
section
variable {X:CtxF}{ops r:List Oper}{t:TF}{h:HF}{n:Nat}{w:List Nat}{Q:SV→Prop}{o:Oper}{d:Tmp}
end
section
variable {X:CtxF}{ops r:List Oper}{ms:List Nat}{i m:Nat}{t:TF}{h:HF}{n:Nat}{w:List Nat}{al ld:List (Nat×Nat)}{ef:List (Nat×HF×List Nat)}{Q:SV→Prop}{o:Oper}{d:Tmp}
theorem zck (cs:List Value){c:Nat}(hw:zg ops t o=true∧o.dst=some d∧zm X.nt (some d)=true∧cls o.op=2∧mkE X.E o.op (evF t)=some ⟨cs,e,false,some (l,c)⟩)
  (k:∀h',h' (3*n+2)=some (.row cs e)→Ext n h h'→ED X ops r ms (i+1) ⟨⟨upd t d (.slice (some ⟨3*n+2,0,none⟩) l c),h',n+1,w⟩,(i,3*n+2)::al,ld,ef⟩ Q):ED X ops (o::r) (m::ms) i ⟨⟨t,h,n,w⟩,al,ld,ef⟩ Q:=by obtain ⟨hw,hd,hn,hc,hm⟩:=hw;exact zhe hw hd hn hc hm (k _ (ze _ _ _) (Ext.upd zo))
end
end
section
variable {h:HF}{co cr cu cw cx lo lr lu lw lx n:Nat}{ao ar au aw ax:Option Addr}{S:List (List UInt8)}{p:LPD}
theorem p9 (k:Nat)(m:Int)(ix:Sl h n 1 (.slice ax lx cx) (strs S))(hb:S.length<100000000):VF (cal (k+1)) 24 [.int .i64 m,.slice ax lx cx] h n fun v=>∃b:Bool,v=.bool b∧(b=true↔∀s∈S,(s.length:Int)≤m):=by
 have lx1:=zv ix
 refine zA (fn:=Tryz.f24) R4 ?_
 refine zG ?_
 refine sF (α:=Nat) (fun z=>[(0,.int .i64 m),(1,.slice ax lx cx),(5,.int .i64 (z:Int))]) (fun z h' n' w'=>w'=[]∧n≤n'∧ExtB n [] h h'∧z≤S.length∧∀s∈S.take z,(s.length:Int)≤m) (fun z=>S.length-z) 0 ⟨rfl,Nat.le_refl _,ExtB.refl _ _ _,(Nat.zero_le _),(fun s hs=>absurd hs (by simp))⟩ ?_
 rintro j t h11 n11 _ ⟨rfl,y11,Y11,hj,hall⟩
 have hj:j≤S.length:=hj
 have hall:∀s∈S.take j,(s.length:Int)≤m:=hall
 refine zG ?_
 by_cases q12:(j:Int)<(lx:Int)
 ·refine zG ?_
  obtain ⟨d13,g13⟩:∃d,(S)[j]?=some d:=⟨_,List.getElem?_eq_getElem zo⟩
  obtain ⟨k13,o13,e13,m13,r13,t13⟩:=yy ix g13
  refine sI e13 r13 ?_
  refine sL t13 m13 0 ?_
  refine st_I (ik:=.i64) (a:=(d13.length:Int)) R5 ?_
  refine zG ?_
  by_cases q14:(d13.length:Int)>m
  ·refine zf ?_
   exact zno fun hq=>by have:=hq _ (List.mem_of_getElem? g13);omega
  refine zG ?_
  exact sK (j+1) ⟨rfl,zo,Y11,(by show j+1≤S.length;omega),(ul hall g13 zo)⟩
 refine zf ?_
 exact zye (by have hq:=hall;rw [List.take_of_length_le zo] at hq;exact hq)
theorem jG (k:Nat){al:Option Addr}{ll cl:Nat}{LS:List (List (List UInt8))}(il:SLS h n (.slice al ll cl) LS)(hb:LS.length<100000000):VF (cal (k+2)) 7 [.slice al ll cl] h n fun v=>∃b:Bool,v=.bool b∧(b=true→∀S∈LS,S.length≤10∧∀s∈S,(s.length:Int)≤12):=by
 have ll1:=il.len
 refine zA (fn:=Tryz.f7) R4 ?_
 refine zG ?_
 refine sF (α:=Nat) (fun z=>[(0,.slice al ll cl),(3,.int .i64 (z:Int))]) (fun z h' n' w'=>w'=[]∧n≤n'∧ExtB n [] h h'∧z≤LS.length∧∀S∈LS.take z,S.length≤10∧∀s∈S,(s.length:Int)≤12) (fun z=>LS.length-z) 0 ⟨rfl,Nat.le_refl _,ExtB.refl _ _ _,(Nat.zero_le _),(fun s hs=>absurd hs (by simp))⟩ ?_
 rintro j t h11 n11 _ ⟨rfl,y11,Y11,hj,hall⟩
 have hj:j≤LS.length:=hj
 have hall:∀S∈LS.take j,S.length≤10∧∀s∈S,(s.length:Int)≤12:=hall
 refine zG ?_
 by_cases q12:(j:Int)<(ll:Int)
 ·refine zG ?_
  obtain ⟨d13,g13⟩:∃d,(LS)[j]?=some d:=⟨_,List.getElem?_eq_getElem zo⟩
  obtain ⟨k13,o13,a13,l13,c13,e13,m13,r13,t13,i13⟩:=SLS.at il g13
  have la13:=zv i13
  refine sI e13 r13 ?_
  refine sL t13 m13 0 ?_
  refine zG ?_
  by_cases q14:(l13:Int)>10
  ·refine zf ?_
   exact ⟨_,rfl,fun hq=>(by cases hq)⟩
  refine zG ?_
  refine sI e13 r13 ?_
  refine sL t13 m13 0 ?_
  refine sC ((p9 _ (12) (i13.x zx) zo).cx) ?_
  rintro _ h15 n15 ⟨b15,rfl,bq15⟩ y15 x15
  rcases bvs bq15 with ⟨rfl,q15⟩|⟨rfl,q15⟩
  ·refine zf ?_
   exact ⟨_,rfl,fun hq=>(by cases hq)⟩
  refine zG ?_
  exact sK (j+1) ⟨rfl,zo,zy,(by show j+1≤LS.length;omega),(ul hall g13 ⟨zo,q15⟩)⟩
 refine zf ?_
 exact ⟨_,rfl,fun _=>by have hq:=hall;rw [List.take_of_length_le zo] at hq;exact hq⟩
theorem mf (k:Nat)(io:Sl h n 1 (.slice ao lo co) (strs p.obj))(ir:RWS h n (.slice ar lr cr) p.rows)(iw:Sl h n 1 (.slice aw lw cw) (strs p.lower))(iu:Sl h n 1 (.slice au lu cu) (strs p.upper)):VF (cal (k+2)) 6 [.agg #[.slice ao lo co,.slice ar lr cr,.slice aw lw cw,.slice au lu cu]] h n fun v=>∃b:Bool,v=.bool b∧(b=true→SmlP p):=by
 have lo1:=zv io
 have lr1:=ir.len
 have lw1:=zv iw
 have lu1:=zv iu
 refine zA (fn:=Tryz.f6) R4 ?_
 refine zG ?_
 refine sB [.slice ao lo co,.slice ar lr cr,.slice aw lw cw,.slice au lu cu] ?_
 intro h11 p11 x11
 refine zG ?_
 by_cases q12:(lo:Int)>5
 ·refine zf ?_
  exact ⟨_,rfl,fun hq=>(by cases hq)⟩
 refine zG ?_
 by_cases q13:(lr:Int)>6
 ·refine zf ?_
  exact ⟨_,rfl,fun hq=>(by cases hq)⟩
 refine zG ?_
 by_cases q14:(lw:Int)>7
 ·refine zf ?_
  exact ⟨_,rfl,fun hq=>(by cases hq)⟩
 refine zG ?_
 by_cases q15:(lu:Int)>7
 ·refine zf ?_
  exact ⟨_,rfl,fun hq=>(by cases hq)⟩
 refine zG ?_
 refine sC ((p9 _ (8) (io.x zx) zo).cx) ?_
 rintro _ h16 n16 ⟨b16,rfl,bq16⟩ y16 x16
 rcases bvs bq16 with ⟨rfl,q16⟩|⟨rfl,q16⟩
 ·refine zf ?_
  exact ⟨_,rfl,fun hq=>(by cases hq)⟩
 refine zG ?_
 refine sC ((p9 _ (8) (iw.x zx) zo).cx) ?_
 rintro _ h17 n17 ⟨b17,rfl,bq17⟩ y17 x17
 rcases bvs bq17 with ⟨rfl,q17⟩|⟨rfl,q17⟩
 ·refine zf ?_
  exact ⟨_,rfl,fun hq=>(by cases hq)⟩
 refine zG ?_
 refine sC ((p9 _ (8) (iu.x zx) zo).cx) ?_
 rintro _ h18 n18 ⟨b18,rfl,bq18⟩ y18 x18
 rcases bvs bq18 with ⟨rfl,q18⟩|⟨rfl,q18⟩
 ·refine zf ?_
  exact ⟨_,rfl,fun hq=>(by cases hq)⟩
 refine zG ?_
 refine sF (α:=Nat) (fun z=>[(1,.pointer (some ⟨3*n+2,0,none⟩)),(3,.int .i64 (z:Int))]) (fun z h' n' w'=>w'=[]∧n18≤n'∧ExtB n18 [] h18 h'∧z≤p.rows.length∧∀r∈p.rows.take z,zeb r) (fun z=>p.rows.length-z) 0 ⟨rfl,Nat.le_refl _,ExtB.refl _ _ _,(Nat.zero_le _),(fun s hs=>absurd hs (by simp))⟩ ?_
 rintro i t h19 n19 _ ⟨rfl,y19,Y19,hi,hrw⟩
 have hi:i≤p.rows.length:=hi
 have hrw:∀r∈p.rows.take i,zeb r:=hrw
 refine zG ?_
 by_cases q20:(i:Int)<(lr:Int)
 ·refine zG ?_
  refine zj [0,1,0,7,15,31,63,127,255,511,1023,511,4095,8191,16383,32767,65535,131071,262143,524287,1048575,524287,4194303,8388607,16777215,524287,34078719,524287,235405311,503840767,1040711679,2147483647,4294967295,8589934591,17179869183] rfl ?_
  refine zH ?_
  obtain ⟨d21,g21⟩:∃d,(p.rows)[i]?=some d:=⟨_,List.getElem?_eq_getElem zo⟩
  obtain ⟨k21,o21,a21,l21,c21,e21,m21,r21,t21,i21⟩:=RWS.at ir g21
  have la21:=zv i21
  refine dI e21 r21 ?_
  refine zH ?_
  refine dL t21 m21 0 ?_
  refine zH ?_
  by_cases q22:(l21:Int)>7
  ·refine zf ?_
   exact ⟨_,rfl,fun hq=>(by cases hq)⟩
  refine zH ?_
  refine dI e21 r21 ?_
  refine zH ?_
  refine dL t21 m21 0 ?_
  refine dC ((p9 _ (8) (i21.x zx) zo).cx) ?_
  rintro _ h23 n23 ⟨b23,rfl,bq23⟩ y23 x23
  rcases bvs bq23 with ⟨rfl,q23⟩|⟨rfl,q23⟩
  ·refine zf ?_
   exact ⟨_,rfl,fun hq=>(by cases hq)⟩
  refine zH ?_
  refine dI e21 r21 ?_
  refine zH ?_
  refine dL t21 m21 1 ?_
  refine zH ?_
  refine dI e21 r21 ?_
  refine zH ?_
  refine dL t21 m21 2 ?_
  refine zck [.string ⟨⟨d21.lo⟩⟩,.string ⟨⟨d21.hi⟩⟩] (l:=2) (c:=2) R5 ?_
  intro h24 p24 x24
  refine dC ((p9 _ (8) (zgj p24 zo) (by show 2<100000000;omega)).cx) ?_
  rintro _ h25 n25 ⟨b25,rfl,bq25⟩ y25 x25
  rcases bvs bq25 with ⟨rfl,q25⟩|⟨rfl,q25⟩
  ·refine zf ?_
   exact ⟨_,rfl,fun hq=>(by cases hq)⟩
  refine zJ ?_
  exact sK (i+1) ⟨rfl,zo,zy,(by show i+1≤p.rows.length;omega),(ul hrw g21 ⟨zo,q23,q25⟩)⟩
 refine zf ?_
 exact ⟨_,rfl,fun _=>⟨zo,zo,zo,zo,q16,q17,q18,by have hq:=hrw;rw [List.take_of_length_le zo] at hq;exact hq⟩⟩
end
section
variable {h:HF}{co cr cu cw lo lr lu lw n:Nat}{ao ar au aw:Option Addr}{p:LPD}
theorem zdw (k:Nat)(io:Sl h n 1 (.slice ao lo co) (strs p.obj))(ir:RWS h n (.slice ar lr cr) p.rows)(iw:Sl h n 1 (.slice aw lw cw) (strs p.lower))(iu:Sl h n 1 (.slice au lu cu) (strs p.upper))(hp:SmlP p):CX (cal (k+3)) 9 [.agg #[.slice ao lo co,.slice ar lr cr,.slice aw lw cw,.slice au lu cu]] h n fun v h' n'=>∃aO lO kO aR lR kR aL lL kL aU lU kU,v=.agg #[.slice aO lO kO,.slice aR lR kR,.slice aL lL kL,.slice aU lU kU]∧SSE n h' n' (.slice aO lO kO) p.obj∧GRW n h' n' (.slice aR lR kR) (wM p)∧SSE n h' n' (.slice aL lL kL) (fitL p.lower p.obj.length [])∧SSE n h' n' (.slice aU lU kU) (fitL p.upper p.obj.length []):=by
 have lo1:=zv io
 have lr1:=ir.len
 have lw1:=zv iw
 have lu1:=zv iu
 obtain ⟨hn1,hn2,hn3,hn4,hq1,hq2,hq3,hrw⟩:=hp
 refine zr (fn:=Tryz.f9) R4 ?_
 refine zG ?_
 refine sB [.slice ao lo co,.slice ar lr cr,.slice aw lw cw,.slice au lu cu] ?_
 intro h11 p11 x11
 refine sA ?_
 intro h12 p12 x12
 refine zG ?_
 refine zj [0,1,3,0,8,0,63,0,128,0,1023,2047,0,8191] rfl ?_
 refine zH ?_
 refine dC (zer _ (io.x zx) zo) ?_
 rintro _ h13 n13 ⟨a13,l13,c13,rfl,i13⟩ y13 x13
 refine zH ?_
 refine dC (cL _ (iw.x zx) zo (m:=lo) zo []) ?_
 rintro _ h14 n14 ⟨a14,c14,rfl,i14⟩ y14 x14
 have i14:SSE n13 h14 n14 (.slice a14 lo c14) (fitL p.lower p.obj.length []):=by have e:fitL p.lower lo []=fitL p.lower p.obj.length []:=(by rw [lo1]);rw [←e];exact i14
 refine zH ?_
 refine dC (cL _ (iu.x zx) zo (m:=lo) zo []) ?_
 rintro _ h15 n15 ⟨a15,c15,rfl,i15⟩ y15 x15
 have i15:SSE n14 h15 n15 (.slice a15 lo c15) (fitL p.upper p.obj.length []):=by have e:fitL p.upper lo []=fitL p.upper p.obj.length []:=(by rw [lo1]);rw [←e];exact i15
 refine dT #[.slice a13 l13 c13,.slice none 0 0,.slice a14 lo c14,.slice a15 lo c15] ?_
 refine dB [.slice none 0 0,.slice none 0 0,.slice none 0 0,.slice none 0 0] ?_
 intro h16 p16 x16
 refine dS [.slice a13 l13 c13,.slice none 0 0,.slice a14 lo c14,.slice a15 lo c15] ?_
 intro h17 p17 o17
 refine zG ?_
 refine sF (α:=Nat×Option Addr×Nat×Nat) (fun z=>[(1,.pointer (some ⟨3*n+2,0,none⟩)),(2,.pointer (some ⟨3*(n+1)+2,0,none⟩)),(3,.int .i64 (lo:Int)),(4,.pointer (some ⟨3*n15+2,0,none⟩)),(5,.int .i64 (z.1:Int))]) (fun z h' n' w'=>w'=[]∧n15+1≤n'∧ExtB (n15+1) [3*n15+2] h17 h'∧h' (3*n15+2)=some (.row [.slice a13 l13 c13,.slice z.2.1 z.2.2.1 z.2.2.2,.slice a14 lo c14,.slice a15 lo c15] 25)∧GRW (n15+1) h' n' (.slice z.2.1 z.2.2.1 z.2.2.2) ((wM p).take z.1)∧z.1≤p.rows.length) (fun z=>p.rows.length-z.1) (0,none,0,0) ⟨rfl,Nat.le_refl _,ExtB.refl _ _ _,p17,GRW.nil _ _ _,(Nat.zero_le _)⟩ ?_
 rintro ⟨i,aT,lT,kT⟩ t h18 n18 _ ⟨rfl,y18,Y18,p18_0,i18_0_0,hi⟩
 have p18_0:h18 (3*n15+2)=some (.row [.slice a13 l13 c13,.slice aT lT kT,.slice a14 lo c14,.slice a15 lo c15] 25):=p18_0
 have i18_0_0:GRW (n15+1) h18 n18 (.slice aT lT kT) ((wM p).take i):=i18_0_0
 have hi:i≤p.rows.length:=hi
 refine zG ?_
 by_cases q19:(i:Int)<(lr:Int)
 ·refine zG ?_
  refine zj [0,1,0,4,0,28,60,124,0,508,0,1024,0,7168,15360,31744,0,65536,0,458752,983040,2031616,4194300,8388604,16777215,33554431,67108863] rfl ?_
  refine zH ?_
  obtain ⟨d20,g20⟩:∃d,(p.rows)[i]?=some d:=⟨_,List.getElem?_eq_getElem zo⟩
  obtain ⟨k20,o20,a20,l20,c20,e20,m20,r20,t20,i20⟩:=RWS.at ir g20
  have la20:=zv i20
  refine dI e20 r20 ?_
  refine zH ?_
  refine dL t20 m20 0 ?_
  refine zH ?_
  refine dC (cL _ (i20.x zx) (by have:=(hrw _ (List.mem_of_getElem? g20)).1;omega) (m:=lo) zo [48]) ?_
  rintro _ h21 n21 ⟨a21,c21,rfl,i21⟩ y21 x21
  have i21:SSE n18 h21 n21 (.slice a21 lo c21) (fitL d20.A p.obj.length [48]):=by have e:fitL d20.A lo [48]=fitL d20.A p.obj.length [48]:=(by rw [lo1]);rw [←e];exact i21
  refine zH ?_
  refine dI e20 r20 ?_
  refine zH ?_
  refine dL t20 m20 1 ?_
  refine zH ?_
  refine dI e20 r20 ?_
  refine zH ?_
  refine dL t20 m20 2 ?_
  refine dT #[.slice a21 lo c21,.string ⟨⟨d20.lo⟩⟩,.string ⟨⟨d20.hi⟩⟩] ?_
  refine zck [.slice a21 lo c21,.string ⟨⟨d20.lo⟩⟩,.string ⟨⟨d20.hi⟩⟩] (l:=1) (c:=1) R5 ?_
  intro h22 p22 x22
  have s23:gF (n15+1) [.slice a21 lo c21,.string ⟨⟨d20.lo⟩⟩,.string ⟨⟨d20.hi⟩⟩] (zdx p.obj.length d20) h22 (n21+1):=⟨_,_,_,rfl,((i21.x zx)).lo (show n15+1≤n18 by omega)⟩
  obtain ⟨C23,gr23,rc23⟩:=((i18_0_0.x (h':=h22) (n':=n21+1) zx)).ex
  have ph23:h22 (3*n21+2)=_:=p22
  refine zhg (lo:=(n15+1)) (mm:=1) rfl rfl rfl rfl rfl rfl rfl rfl ⟨Nat.le_of_ble_eq_true rfl,Nat.le_of_ble_eq_true rfl⟩ rfl rfl rfl gr23 (wy ph23 R2) (Nat.le_refl _) (by rw [List.length_take,wP];omega) rfl rfl ⟨by show n≤_;omega,zo⟩ ?_
  intro v23 h23 W23 gg23 x23 k23 f23
  have G23:=GRW.app gr23 rc23 s23 k23 gg23
  obtain ⟨a23,es23,_⟩:=gg23.shape
  subst es23
  replace x23:Exa (n15+1) _ _:=⟨x23⟩
  have p24:h23 (3*n+2)=_:=(k23.blk gr23 (zX _) zo).trans zp
  have p25:h23 (3*(n+1)+2)=_:=(k23.blk gr23 (zX _) zo).trans zp
  have p26:h23 (3*n15+2)=_:=(k23.blk gr23 (zX _) zo).trans zp
  have p27:h23 (3*n21+2)=_:=(k23.blk gr23 (zX _) zo).trans zp
  refine zH ?_
  refine dS (b:=3*n15+2) (off:=1) [.slice a13 l13 c13,.slice a23 (((wM p).take i).length+1) (((wM p).take i).length+1),.slice a14 lo c14,.slice a15 lo c15] ?_
  intro h28 p28 o28
  have i29:=G23.sto o28 zo
  refine zG ?_
  exact sK (i+1,a23,(((wM p).take i).length+1),(((wM p).take i).length+1)) ⟨rfl,zo,zy,p28,((xo (gi g20)).symm▸i29),(by show i+1≤p.rows.length;omega)⟩
 refine zG ?_
 have hie:i=p.rows.length:=zo
 have hrows:GRW (n15+1) h18 n18 (.slice aT lT kT) (wM p):=by have hq:=i18_0_0;rw [List.take_of_length_le (by rw [wP];omega)] at hq;exact hq
 refine zG ?_
 refine sS [.slice a13 l13 c13,.slice aT lT kT,.slice a14 lo c14,.slice a15 lo c15] ?_
 intro h30 p30 o30
 have i31:=(i13.x zx).sto o30 zo
 have i32:=(i14.x zx).sto o30 zo
 have i33:=(i15.x zx).sto o30 zo
 have i34:=i18_0_0.sto o30 zo
 have i35:=hrows.sto o30 zo
 refine zq ?_
 exact ⟨_,_,_,_,_,_,_,_,_,_,_,_,rfl,(i31).lo zo,(i35).lo zo,(i32).lo zo,(i33).lo zo⟩
end
section
variable {h:HF}{b cm co cr cu cw cx cy cz l1 l2 lm lo lr lu lw lx ly lz n:Nat}{e:TypeId}{a1 a2 am ao ar au aw ax ay az:Option Addr}{R S:List (List UInt8)}{p:LPD}
theorem SLS.four {a3 a4:Option Addr}{k1 k2 l3 k3 l4 k4:Nat}{T C:List (List UInt8)}(hp:h b=some (.row [.slice a1 l1 k1,.slice a2 l2 k2,.slice a3 l3 k3,.slice a4 l4 k4] e))(hb:b<3*n)(h1:Sl h n 1 (.slice a1 l1 k1) (strs S))(h2:Sl h n 1 (.slice a2 l2 k2) (strs T))(h3:Sl h n 1 (.slice a3 l3 k3) (strs R))(h4:Sl h n 1 (.slice a4 l4 k4) (strs C)):SLS h n (.slice (some ⟨b,0,none⟩) 4 4) [S,T,R,C]:=
 ⟨_,.at_ hb hp rfl (Nat.le_refl _) (Nat.le_refl _) rfl,.cons (c:=[_]) rfl ⟨_,_,_,rfl,h1⟩ (.cons (c:=[_]) rfl ⟨_,_,_,rfl,h2⟩ (.cons (c:=[_]) rfl ⟨_,_,_,rfl,h3⟩ (.cons (c:=[_]) (cs:=[]) rfl ⟨_,_,_,rfl,h4⟩ .nil)))⟩
set_option maxRecDepth 100000
theorem zb6 (k:Nat)(g:GG h n)(io:Sl h n 1 (.slice ao lo co) (strs p.obj))(ir:RWS h n (.slice ar lr cr) p.rows)(iw:Sl h n 1 (.slice aw lw cw) (strs p.lower))(iu:Sl h n 1 (.slice au lu cu) (strs p.upper)){o:Int}{V:List UInt8}{X Y C:List (List UInt8)}(ix:Sl h n 1 (.slice ax lx cx) (strs X))(iy:Sl h n 1 (.slice ay ly cy) (strs Y))(iz:Sl h n 1 (.slice az lz cz) (strs R))(im:Sl h n 1 (.slice am lm cm) (strs C)):VF (cal (k+16)) 4 [.agg #[.slice ao lo co,.slice ar lr cr,.slice aw lw cw,.slice au lu cu],.agg #[.int .i64 o,.string ⟨⟨V⟩⟩,.slice ax lx cx,.slice ay ly cy,.slice az lz cz,.slice am lm cm],.bool true] h n fun v=>v=.bool true:=by
 have lo1:=zv io
 have lr1:=ir.len
 have lw1:=zv iw
 have lu1:=zv iu
 have lx1:=zv ix
 have ly1:=zv iy
 have lz1:=zv iz
 have lm1:=zv im
 refine zA (fn:=Tryz.f4) R4 ?_
 refine zG ?_
 refine sB [.slice ao lo co,.slice ar lr cr,.slice aw lw cw,.slice au lu cu] ?_
 intro h11 p11 x11
 refine sB [.int .i64 o,.string ⟨⟨V⟩⟩,.slice ax lx cx,.slice ay ly cy,.slice az lz cz,.slice am lm cm] ?_
 intro h12 p12 x12
 refine zG ?_
 refine sC ((mf _ (io.x zx) (ir.x zx) (iw.x zx) (iu.x zx)).cx) ?_
 rintro _ h13 n13 ⟨b13,rfl,m13⟩ y13 x13
 cases b13
 ·refine zG ?_
  refine sC ((vy _ (g.x zx)).cx) ?_
  rintro _ h14 n14 rfl y14 x14
  refine zf ?_
  exact rfl
 have m13:=m13 rfl
 have hn1:=m13.n1
 have hn2:=m13.n2
 have hn3:=m13.n3
 have hn4:=m13.n4
 refine zG ?_
 refine uE [.slice ax lx cx,.slice ay ly cy,.slice az lz cz,.slice am lm cm] (l:=4) (c:=4) R5 ?_
 intro h15 p15 x15
 refine sC ((jG _ (SLS.four p15 zo (ix.x zx) (iy.x zx) (iz.x zx) (im.x zx)) (by show 4<100000000;omega)).cx) ?_
 rintro _ h16 n16 ⟨b16,rfl,m16⟩ y16 x16
 cases b16
 ·refine zG ?_
  refine sC ((vy _ (g.x zx)).cx) ?_
  rintro _ h17 n17 rfl y17 x17
  refine zf ?_
  exact rfl
 have m16:=m16 rfl
 obtain ⟨hX1,hX2⟩:=m16 X (by simp)
 obtain ⟨hY1,hY2⟩:=m16 Y (by simp)
 obtain ⟨hR1,hR2⟩:=m16 R (by simp)
 obtain ⟨hC1,hC2⟩:=m16 C (by simp)
 refine zG ?_
 refine st_I (ik:=.i64) (a:=(V.length:Int)) R5 ?_
 by_cases q18:(V.length:Int)>20
 ·refine zG ?_
  refine sC ((vy _ (g.x zx)).cx) ?_
  rintro _ h19 n19 rfl y19 x19
  refine zf ?_
  exact rfl
 refine zG ?_
 refine zj [0,0,3,0,0,31,63,127,255,511,1023] rfl ?_
 refine zH ?_
 refine dC ((zdo _ (g.x zx) (io.x zx) (ir.x zx) (iw.x zx) (iu.x zx) (p:=p) (a:=27) m13.lpb zo (o:=o) (V:=V) (ix.x zx) (iy.x zx) (iz.x zx) (im.x zx) (b:=40) (fun s hs=>tu (hX2 s hs)) zo (fun s hs=>tu (hY2 s hs)) zo (fun s hs=>tu (hR2 s hs)) zo (fun s hs=>tu (hC2 s hs)) zo zo (show p.obj.length*(27+40+1)+27+40+2≤1900 by omega) (show p.rows.length*(27+40+1)+p.obj.length*(27+40+1)+27+40+2≤1900 by omega) zo).cx) ?_
 rintro _ h20 n20 rfl y20 x20
 refine zH ?_
 refine dC ((zdn _ (io.x zx) (ir.x zx) (iw.x zx) (iu.x zx) (p:=p) (a:=27) m13.lpb zo (o:=o) (V:=V) (ix.x zx) (iy.x zx) (iz.x zx) (im.x zx) (b:=40) (fun s hs=>tu (hX2 s hs)) zo (fun s hs=>tu (hY2 s hs)) zo (fun s hs=>tu (hR2 s hs)) zo (fun s hs=>tu (hC2 s hs)) zo zo (show p.obj.length*(27+40+1)+27+40+2≤1900 by omega) (show p.rows.length*(27+40+1)+p.obj.length*(27+40+1)+27+40+2≤1900 by omega) zo).cx) ?_
 rintro _ h21 n21 rfl y21 x21
 refine zH ?_
 refine dC ((vy _ (g.x zx)).cx) ?_
 rintro _ h22 n22 rfl y22 x22
 refine zf ?_
 exact rfl
theorem bV (k:Nat)(g:GG h n)(io:Sl h n 1 (.slice ao lo co) (strs p.obj))(ir:RWS h n (.slice ar lr cr) p.rows)(iw:Sl h n 1 (.slice aw lw cw) (strs p.lower))(iu:Sl h n 1 (.slice au lu cu) (strs p.upper)){o:Int}{V:List UInt8}{X Y C:List (List UInt8)}(ix:Sl h n 1 (.slice ax lx cx) (strs X))(iy:Sl h n 1 (.slice ay ly cy) (strs Y))(iz:Sl h n 1 (.slice az lz cz) (strs R))(im:Sl h n 1 (.slice am lm cm) (strs C)):VF (cal (k+16)) 4 [.agg #[.slice ao lo co,.slice ar lr cr,.slice aw lw cw,.slice au lu cu],.agg #[.int .i64 o,.string ⟨⟨V⟩⟩,.slice ax lx cx,.slice ay ly cy,.slice az lz cz,.slice am lm cm],.bool false] h n fun v=>v=.bool true:=by
 have lo1:=zv io
 have lr1:=ir.len
 have lw1:=zv iw
 have lu1:=zv iu
 have lx1:=zv ix
 have ly1:=zv iy
 have lz1:=zv iz
 have lm1:=zv im
 refine zA (fn:=Tryz.f4) R4 ?_
 refine zG ?_
 refine sB [.slice ao lo co,.slice ar lr cr,.slice aw lw cw,.slice au lu cu] ?_
 intro h11 p11 x11
 refine sB [.int .i64 o,.string ⟨⟨V⟩⟩,.slice ax lx cx,.slice ay ly cy,.slice az lz cz,.slice am lm cm] ?_
 intro h12 p12 x12
 refine zG ?_
 refine sC ((mf _ (io.x zx) (ir.x zx) (iw.x zx) (iu.x zx)).cx) ?_
 rintro _ h13 n13 ⟨b13,rfl,m13⟩ y13 x13
 cases b13
 ·refine zG ?_
  refine sC ((vy _ (g.x zx)).cx) ?_
  rintro _ h14 n14 rfl y14 x14
  refine zf ?_
  exact rfl
 have m13:=m13 rfl
 have hn1:=m13.n1
 have hn2:=m13.n2
 have hn3:=m13.n3
 have hn4:=m13.n4
 refine zG ?_
 refine uE [.slice ax lx cx,.slice ay ly cy,.slice az lz cz,.slice am lm cm] (l:=4) (c:=4) R5 ?_
 intro h15 p15 x15
 refine sC ((jG _ (SLS.four p15 zo (ix.x zx) (iy.x zx) (iz.x zx) (im.x zx)) (by show 4<100000000;omega)).cx) ?_
 rintro _ h16 n16 ⟨b16,rfl,m16⟩ y16 x16
 cases b16
 ·refine zG ?_
  refine sC ((vy _ (g.x zx)).cx) ?_
  rintro _ h17 n17 rfl y17 x17
  refine zf ?_
  exact rfl
 have m16:=m16 rfl
 obtain ⟨hX1,hX2⟩:=m16 X (by simp)
 obtain ⟨hY1,hY2⟩:=m16 Y (by simp)
 obtain ⟨hR1,hR2⟩:=m16 R (by simp)
 obtain ⟨hC1,hC2⟩:=m16 C (by simp)
 refine zG ?_
 refine st_I (ik:=.i64) (a:=(V.length:Int)) R5 ?_
 by_cases q18:(V.length:Int)>20
 ·refine zG ?_
  refine sC ((vy _ (g.x zx)).cx) ?_
  rintro _ h19 n19 rfl y19 x19
  refine zf ?_
  exact rfl
 refine zG ?_
 refine sC (zdw _ (io.x zx) (ir.x zx) (iw.x zx) (iu.x zx) m13) ?_
 rintro _ h20 n20 ⟨aO20,lO20,kO20,aR20,lR20,kR20,aL20,lL20,kL20,aU20,lU20,kU20,rfl,iO20,iR20,iL20,iU20⟩ y20 x20
 have qO20:=zv iO20.1
 have qR20:=iR20.rws.len
 rw [wP] at qR20
 refine sS [.slice aO20 lO20 kO20,.slice aR20 lR20 kR20,.slice aL20 lL20 kL20,.slice aU20 lU20 kU20] ?_
 intro h21 p21 o21
 have i22:=iO20.sto o21 zo
 have i23:=iR20.sto o21 zo
 have i24:=iL20.sto o21 zo
 have i25:=iU20.sto o21 zo
 refine zG ?_
 refine zj [0,0,3,0,0,31,63,127,255,511,1023] rfl ?_
 refine zH ?_
 refine dC ((zdo _ (g.x zx) i22.ss i23.rws i24.ss i25.ss (p:=(zdy p)) (a:=27) m13.tidy.lpb zo (o:=o) (V:=V) (ix.x zx) (iy.x zx) (iz.x zx) (im.x zx) (b:=40) (fun s hs=>tu (hX2 s hs)) zo (fun s hs=>tu (hY2 s hs)) zo (fun s hs=>tu (hR2 s hs)) zo (fun s hs=>tu (hC2 s hs)) zo zo (show p.obj.length*(27+40+1)+27+40+2≤1900 by omega) (show (wM p).length*(27+40+1)+p.obj.length*(27+40+1)+27+40+2≤1900 by rw [wP];omega) zo).cx) ?_
 rintro _ h26 n26 rfl y26 x26
 refine zH ?_
 refine dC ((zdn _ (i22.x zx).ss (i23.x zx).rws (i24.x zx).ss (i25.x zx).ss (p:=(zdy p)) (a:=27) m13.tidy.lpb zo (o:=o) (V:=V) (ix.x zx) (iy.x zx) (iz.x zx) (im.x zx) (b:=40) (fun s hs=>tu (hX2 s hs)) zo (fun s hs=>tu (hY2 s hs)) zo (fun s hs=>tu (hR2 s hs)) zo (fun s hs=>tu (hC2 s hs)) zo zo (show p.obj.length*(27+40+1)+27+40+2≤1900 by omega) (show (wM p).length*(27+40+1)+p.obj.length*(27+40+1)+27+40+2≤1900 by rw [wP];omega) zo).cx) ?_
 rintro _ h27 n27 rfl y27 x27
 refine zH ?_
 refine dC ((vy _ (g.x zx)).cx) ?_
 rintro _ h28 n28 rfl y28 x28
 refine zf ?_
 exact rfl
theorem simplexCheck_ok (k:Nat)(g:GG h n)(io:Sl h n 1 (.slice ao lo co) (strs p.obj))(ir:RWS h n (.slice ar lr cr) p.rows)(iw:Sl h n 1 (.slice aw lw cw) (strs p.lower))(iu:Sl h n 1 (.slice au lu cu) (strs p.upper)){o:Int}{V:List UInt8}{X Y C:List (List UInt8)}(ix:Sl h n 1 (.slice ax lx cx) (strs X))(iy:Sl h n 1 (.slice ay ly cy) (strs Y))(iz:Sl h n 1 (.slice az lz cz) (strs R))(im:Sl h n 1 (.slice am lm cm) (strs C))(b:Bool):VF (cal (k+16)) 4 [.agg #[.slice ao lo co,.slice ar lr cr,.slice aw lw cw,.slice au lu cu],.agg #[.int .i64 o,.string ⟨⟨V⟩⟩,.slice ax lx cx,.slice ay ly cy,.slice az lz cz,.slice am lm cm],.bool b] h n fun v=>v=.bool true:=by
 cases b
 ·exact bV k g io ir iw iu ix iy iz im
 exact zb6 k g io ir iw iu ix iy iz im
end
def upFn (nm:Nat→Nat):Fn→Fn
 | .yield l=>.yield (nm l)
 |f=>f
mutual
def up (nm:Nat→Nat):Value→Value
 | .pointer (some a)=>.pointer (some ⟨nm a.block,a.off,a.spot⟩)
 | .slice (some a) l c=>.slice (some ⟨nm a.block,a.off,a.spot⟩) l c
 | .func f a b=>.func (upFn nm f) (upA nm a) (upA nm b)
 | .agg cs=>.agg (upA nm cs)
 | .tuple cs=>.tuple (upA nm cs)
 |v=>v
def upA (nm:Nat→Nat):Array Value→Array Value
 |⟨l⟩=>⟨upL nm l⟩
def upL (nm:Nat→Nat):List Value→List Value
 |[]=>[]
 |v::r=>up nm v::upL nm r
end
mutual
theorem jf {nm:Nat→Nat}(hb:∀b,ρ.b (nm b)=b)(hx:∀b,ρ.x (nm b)=0):∀v:Value,conc ρ (up nm v)=v
 | .pointer none=>rfl
 | .pointer (some a)=>by simp [up,conc,Ren.addr,hb]
 | .slice none _ _=>rfl
 | .slice (some a) l c=>by simp [up,conc,Ren.addr,hb,hx]
 | .func f a b=>by
  have h1:ρ.fn (upFn nm f)=f:=by cases f<;>simp [upFn,Ren.fn,hb]
  simp only [up,conc,h1,qp hb hx a,qp hb hx b]
 | .agg cs=>by simp only [up,conc,qp hb hx cs]
 | .tuple cs=>by simp only [up,conc,qp hb hx cs]
 | .bool _=>by simp [up,conc]
 | .int _ _=>by simp [up,conc]
 | .float _ _=>by simp [up,conc]
 | .complex _ _ _=>by simp [up,conc]
 | .string _=>by simp [up,conc]
 | .map _=>by simp [up,conc]
 | .chan _=>by simp [up,conc]
 | .nilFunc=>by simp [up,conc]
 | .nilIface=>by simp [up,conc]
 | .iface _ _=>by simp [up,conc]
theorem qp {nm:Nat→Nat}(hb:∀b,ρ.b (nm b)=b)(hx:∀b,ρ.x (nm b)=0):∀a:Array Value,po ρ (upA nm a)=a
 |⟨l⟩=>by simp only [upA,po,iO hb hx l]
theorem iO {nm:Nat→Nat}(hb:∀b,ρ.b (nm b)=b)(hx:∀b,ρ.x (nm b)=0):∀l:List Value,pM ρ (upL nm l)=l
 |[]=>rfl
 |v::r=>by simp only [upL,pM,jf hb hx v,iO hb hx r]
end
def bdFn:Fn→Nat
 | .yield l=>l+1
 |_=>0
mutual
def bd:Value→Nat
 | .pointer (some a)=>a.block+1
 | .slice (some a) _ _=>a.block+1
 | .func f a b=>bdFn f+bdA a+bdA b
 | .agg cs=>bdA cs
 | .tuple cs=>bdA cs
 |_=>0
def bdA:Array Value→Nat
 |⟨l⟩=>bdL l
def bdL:List Value→Nat
 |[]=>0
 |v::r=>bd v+bdL r
end
theorem iW (ha:Agr m ρ ρ'){a:Addr}(h:a.block<m):ρ'.addr a=ρ.addr a:=by
 unfold Ren.addr
 rw [(ha _ h).1]
mutual
theorem zet:∀(v:Value) (m:Nat),bd v≤m→Nb m v
 | .pointer none,m,_=>fun ρ ρ' _=>by simp
 | .pointer (some a),m,h=>fun ρ ρ' ha=>by
  simp only [bd] at h
  simp only [conc,iW ha (show a.block<m by omega)]
 | .slice none _ _,m,_=>fun ρ ρ' _=>by simp
 | .slice (some a) l c,m,h=>fun ρ ρ' ha=>by
  simp only [bd] at h
  simp only [conc,iW ha (show a.block<m by omega),(ha _ (show a.block<m by omega)).2]
 | .func f a b,m,h=>fun ρ ρ' ha=>by
  simp only [bd] at h
  have h1:ρ'.fn f=ρ.fn f:=by
   cases f<;>simp [Ren.fn]
   rename_i l
   exact (ha l (by simp only [bdFn] at h;omega)).1
  simp only [conc,h1,jO a m zo ρ ρ' ha,jO b m zo ρ ρ' ha]
 | .agg cs,m,h=>fun ρ ρ' ha=>by
  simp only [bd] at h
  simp only [conc,jO cs m h ρ ρ' ha]
 | .tuple cs,m,h=>fun ρ ρ' ha=>by
  simp only [bd] at h
  simp only [conc,jO cs m h ρ ρ' ha]
 | .bool _,m,_=>fun ρ ρ' _=>by simp [conc]
 | .int _ _,m,_=>fun ρ ρ' _=>by simp [conc]
 | .float _ _,m,_=>fun ρ ρ' _=>by simp [conc]
 | .complex _ _ _,m,_=>fun ρ ρ' _=>by simp [conc]
 | .string _,m,_=>fun ρ ρ' _=>by simp [conc]
 | .map _,m,_=>fun ρ ρ' _=>by simp [conc]
 | .chan _,m,_=>fun ρ ρ' _=>by simp [conc]
 | .nilFunc,m,_=>fun ρ ρ' _=>by simp [conc]
 | .nilIface,m,_=>fun ρ ρ' _=>by simp [conc]
 | .iface _ _,m,_=>fun ρ ρ' _=>by simp [conc]
theorem jO:∀(a:Array Value) (m:Nat),bdA a≤m→∀ρ ρ':Ren,Agr m ρ ρ'→po ρ' a=po ρ a
 |⟨l⟩,m,h=>fun ρ ρ' ha=>by
  simp only [bdA] at h
  simp only [po,zcz l m h ρ ρ' ha]
theorem zcz:∀(l:List Value) (m:Nat),bdL l≤m→∀ρ ρ':Ren,Agr m ρ ρ'→pM ρ' l=pM ρ l
 |[],m,_=>fun ρ ρ' _=>rfl
 |v::r,m,h=>fun ρ ρ' ha=>by
  simp only [bdL] at h
  simp only [pM,zet v m zo ρ ρ' ha,zcz r m zo ρ ρ' ha]
end
theorem lg:∀{l:List Value} {v:Value},v∈l→bd v≤bdL l:=by
 intro l
 induction l with
 |nil=>intro v hv;cases hv
 |cons a l ih=>
  intro v hv
  simp only [bdL]
  rcases List.mem_cons.1 hv with rfl|hv
  ·omega
  have:=ih hv;omega
def u5 (W:World)(b:Nat):Option (List Value):=match W.heap[b]? with|some (.cells c _ _)=>some c.toList|_=>none
noncomputable def wh (nm:Nat→Nat)(W:World):Nat→Hp
 |0=>.lf
 |k+1=>match u5 W k with|some c=>Tr.put (wh nm W k) (nm k) (some (.ro (c.map (up nm))))|none=>wh nm W k
theorem fX {nm:Nat→Nat}(hi:∀a b,nm a=nm b→a=b)(W:World):∀k x y,(wh nm W k).at x=some y↔∃b,b<k∧x=nm b∧∃c,u5 W b=some c∧y=.ro (c.map (up nm)):=by
 intro k
 induction k with
 |zero=>
  intro x y
  constructor
  ·intro h;cases h
  rintro ⟨b,hb,_⟩;omega
 |succ k ih=>
  intro x y
  unfold wh
  cases hc:u5 W k with
  |none=>
   simp only
   rw [ih]
   constructor
   ·rintro ⟨b,hb,h⟩;exact ⟨b,zo,h⟩
   rintro ⟨b,hb,rfl,c,h1,h2⟩
   have:b≠k:=fun e=>by rw [e,hc] at h1;cases h1
   exact ⟨b,zo,rfl,c,h1,h2⟩
  |some c=>
   simp only
   show Tr.get none (Tr.put (wh nm W k) (nm k) _) x=some y↔_
   rw [Tr.get_put none rfl]
   by_cases hx:x=nm k
   ·rw [if_pos hx]
    constructor
    ·intro h;injection h with h;exact ⟨k,zo,hx,c,hc,h.symm⟩
    rintro ⟨b,hb,e,c',h1,h2⟩
    have hbk:b=k:=hi _ _ (e.symm.trans hx)
    rw [hbk,hc] at h1
    injection h1 with h1
    rw [h2,h1]
   rw [if_neg hx]
   show (wh nm W k).at x=some y↔_
   rw [ih]
   constructor
   ·rintro ⟨b,hb,h⟩;exact ⟨b,zo,h⟩
   rintro ⟨b,hb,e,h⟩
   have:b≠k:=fun ee=>hx (by rw [e,ee])
   exact ⟨b,zo,e,h⟩
def nm (b:Nat):Nat:=if b=1∨b=0∨b=4 then 3*b else 3*b+2
theorem mz (a b:Nat)(h:nm a=nm b):a=b:=by
 unfold nm at h
 split at h<;>split at h<;>omega
def ren0:Ren:=⟨fun x=>x/3,fun _=>0,fun _ _=>rfl,fun g=>by simp⟩
theorem qR (b:Nat):ren0.b (nm b)=b:=by
 unfold nm ren0
 split<;>simp<;>omega
theorem zid (h:b<n):nm b<3*n:=by
 unfold nm
 split<;>omega
noncomputable def wH (W:World):Hp:=wh nm W W.heap.size
theorem zgd (W:World):Sim rel ren0 (wH W) W:=by
 refine ⟨fun x y h=>?_,fun x x' h h' e=>?_⟩
 ·obtain ⟨b,hb,rfl,c,hc,rfl⟩:=(fX mz W _ _ _).1 h
  unfold u5 at hc
  split at hc
  ·rename_i c' e fz hW
   injection hc with hc
   subst hc
   refine ⟨_,by rw [qR];exact hW,e,fz,?_⟩
   rw [List.map_map]
   have:(c'.toList.map (conc ren0 ∘ up nm))=c'.toList:=by
    conv=>rhs;rw [←List.map_id c'.toList]
    exact List.map_congr_left fun v _=>jf qR (fun _=>rfl) v
   rw [this]
  cases hc
 obtain ⟨y,hy⟩:=Option.isSome_iff_exists.1 h
 obtain ⟨y',hy'⟩:=Option.isSome_iff_exists.1 h'
 obtain ⟨b,_,rfl,_⟩:=(fX mz W _ _ _).1 hy
 obtain ⟨b',_,rfl,_⟩:=(fX mz W _ _ _).1 hy'
 rw [qR,qR] at e
 rw [e]
structure Wn (W:World)(n:Nat):Prop where
 sz:W.heap.size≤n
 le:∀(b:Nat) (c:Array Value) (e:TypeId) (fz:Nat×Nat),W.heap[b]?=some (Obj.cells c e fz)→∀v∈c.toList,bd (up nm v)≤3*n
theorem zh0 (W:World)(args:List Value):∃n,20≤n∧Wn W n∧HNb (3*n) (wH W)∧∀v∈args,bd v≤3*n:=by
 have key:∀k,∃m,∀b,b<k→∀c,u5 W b=some c→bdL (c.map (up nm))≤m:=by
  intro k
  induction k with
  |zero=>exact ⟨0,fun b hb=>by omega⟩
  |succ k ih=>
   obtain ⟨m,hm⟩:=ih
   cases hc:u5 W k with
   |none=>exact ⟨m,fun b hb c h=>hm b (by (have:b≠k:=fun e=>by rw [e,hc] at h;cases h);omega) c h⟩
   |some c'=>
    refine ⟨m+bdL (c'.map (up nm)),fun b hb c h=>?_⟩
    by_cases hbk:b=k
    ·rw [hbk,hc] at h;injection h with h;subst h;omega
    have:=hm b zo c h;omega
 obtain ⟨m,hm⟩:=key W.heap.size
 refine ⟨20+W.heap.size+m+bdL args,zo,⟨zo,fun b c e fz hW v hvm=>?_⟩,fun x y h=>?_,fun v hv=>by have:=lg hv;omega⟩
 ·have hb:b<W.heap.size:=by
   rcases Nat.lt_or_ge b W.heap.size with h'|h'
   ·exact h'
   rw [Array.getElem?_eq_none h'] at hW;cases hW
  have h1:=hm b hb c.toList (by unfold u5;rw [hW])
  have h2:=lg (List.mem_map_of_mem (f:=up nm) hvm)
  omega
 obtain ⟨b,hb,rfl,c,hc,rfl⟩:=(fX mz W _ _ _).1 h
 exact ⟨zid zo,fun v hv=>zet v _ (by have:=lg hv;have:=hm b hb c hc;omega)⟩
theorem jw {W:World}{c:Array Value}{fz:Nat×Nat}(h:W.heap[b]?=some (.cells c e fz)):hv (wH W) (nm b)=some (.ro (c.toList.map (up nm))):=by
 have hb:b<W.heap.size:=by
  rcases Nat.lt_or_ge b W.heap.size with h'|h'
  ·exact h'
  rw [Array.getElem?_eq_none h'] at h;cases h
 exact ze6 ((fX mz W _ _ _).2 ⟨b,hb,rfl,_,by unfold u5;rw [h],rfl⟩)
theorem fF {W:World}(f:FuncId)(args:List Value)(k:Nat)(hrun:∀n,20≤n→Wn W n→(∀v∈args.map (up nm),bd v≤3*n)→VF (cal k) f (args.map (up nm)) (hv (wH W)) n fun v=>v=.bool true):
  Calls Tryz.prog f args.toArray W fun e w'=>e=.returned (.bool true)∧RowKit.Below W.heap.size W w':=by
 obtain ⟨n,hn,hs,hnb,hbd⟩:=zh0 W (args.map (up nm))
 have ha:∀v∈args.map (up nm),Nb (3*n) v:=fun v hv=>zet v _ (hbd v hv)
 obtain ⟨v,h',n',w,hc,e1,e2,e3,e4⟩:=hrun n hn hs hbd
 rw [e1,e2,e3,e4] at hc
 obtain ⟨⟨v2,h2,n2,w2⟩,hx,hy⟩:=(zfy k).call f (args.map (up nm)) (wH W) n _ hc
 obtain ⟨e1,e2,e3,e4⟩:v2=.bool true∧hv h2=hv (wH W)∧n2=n∧w2=[]:=by
  simpa [rv] using hy
 subst e1 e3 e4
 obtain ⟨_,hcall⟩:=(zhp k).call _ _ _ _ _ _ _ _ hx 0 ren0 W (zgd W) hnb ha
 have hargs:((args.map (up nm)).map (conc ren0))=args:=by
  rw [List.map_map]
  conv=>rhs;rw [←List.map_id args]
  exact List.map_congr_left fun v _=>jf qR (fun _=>rfl) v
 rw [hargs] at hcall
 refine (callsIn_wide.1 hcall).mono fun e w' ⟨ρ',he,hp⟩=>⟨by rw [he];simp,?_⟩
 exact ⟨hp.os,hp.tape,hp.out,hp.size,fun j hj=>hp.fr j hj fun b hb=>absurd hb List.not_mem_nil⟩
end Go.Proofs.YtlmbghgklnmlkaaGreatDoor
namespace Go.Proofs.YtlmbghgklnmlkaaGreatDoor
open Go Go.GL Go.ChangeShapes Go.WideShapes Go.RowKit
section
set_option maxRecDepth 100000
variable {H:Type}{base fuel g n:Nat}{e t:TypeId}{cs:List Value}
theorem pa {enc:TypeId×Value→H}{P:Program}{w:World}{sp:Nat→Bool}{held:Bool}{k:IntKind}{c:Value}{y:DataW H×List MemPlace}
  (ht:P.underlying t=some (.int k))(h:DataW.trod enc P w base sp held fuel t [c]=some y):∃n,c=.int k n∧y=(.lit (.int k n),[]):=by
 cases fuel with
 |zero=>simp [DataW.trod] at h
 |succ fuel=>
  cases c<;>simp [DataW.trod,ht] at h
  rename_i k' n
  obtain ⟨⟨rfl,_⟩,rfl⟩:=h
  exact ⟨n,rfl,rfl⟩
theorem nI {enc:TypeId×Value→H}{P:Program}{w:World}{sp:Nat→Bool}{held:Bool}{k:IntKind}{l:List Int}{p:List MemPlace}
  (ht:P.underlying t=some (.array n e))(he:P.underlying e=some (.int k))(hce:P.cellsOf e=1)(hct:P.cellsOf t=n)
  (h:DataW.trod enc P w base sp held fuel t cs=some (.agg (l.map fun z=>.lit (.int k z)),p)):cs=l.map fun z=>Value.int k z:=by
 cases fuel with
 |zero=>simp [DataW.trod] at h
 |succ fuel=>
  simp only [DataW.trod,ht] at h
  split at h
  ·rename_i hl
   rw [hct] at hl
   rw [Option.map_eq_some_iff] at h
   obtain ⟨xs,hx,hy⟩:=h
   simp only [Prod.mk.injEq,DataW.agg.injEq] at hy
   obtain ⟨hy,_⟩:=hy
   have hlen:=mapM_some_length hx
   rw [List.length_range] at hlen
   have hll:l.length=n:=by
    have:=congrArg List.length hy
    simp at this
    omega
   apply List.ext_getElem?
   intro i
   by_cases hi:i<n
   ·have hg:=mapM_some_get hx i i (by simp [hi])
    obtain ⟨y,hxi⟩:∃y,xs[i]?=some y:=⟨xs[i]'zo,List.getElem?_eq_getElem zo⟩
    rw [hxi,hce,Nat.mul_one] at hg
    have hd:(cs.drop i).take 1=[cs[i]'zo]:=by
     rw [List.drop_eq_getElem_cons zo]
     rfl
    rw [hd] at hg
    obtain ⟨z,hz,rfl⟩:=pa he hg
    have h2:=congrArg (fun q=>q[i]?) hy
    simp only [List.getElem?_map,hxi,Option.map_some] at h2
    obtain ⟨z',hz'⟩:∃z',l[i]?=some z':=⟨l[i]'zo,List.getElem?_eq_getElem zo⟩
    rw [hz'] at h2
    simp only [Option.map_some,Option.some.injEq,DataW.lit.injEq,Lit.int.injEq,true_and] at h2
    rw [List.getElem?_eq_getElem zo,hz,List.getElem?_map,hz',h2]
    rfl
   rw [List.getElem?_eq_none zo,List.getElem?_eq_none (by simp;omega)]
  cases h
theorem fZ {P:Program}{W:World}{nme:String}{cs:Array Value}(hg:P.globalNamed nme=some g)(hv:W.var? P nme=some cs):∃e fz,W.heap[g]?=some (.cells cs e fz):=by
 unfold World.var? at hv
 rw [hg] at hv
 simp only [Option.bind_some] at hv
 split at hv
 ·rename_i cs' e fz h
  injection hv with hv
  subst hv
  exact ⟨e,fz,h⟩
 cases hv
theorem up_u (nm:Nat→Nat)(k:IntKind)(l:List Int):(GK.u k l).map (up nm)=GK.u k l:=by
 unfold GK.u
 rw [List.map_map]
 exact List.map_congr_left fun z _=>rfl
def gS:List (String×DataW Unit):=Rows.simplexRawRow.laid
def nh (i:Nat):String:=match gS[i]? with|some x=>x.1|none=> ""
theorem g32:Tryz.prog.globalNamed (nh 0)=some 4:=by kernel_rfl
theorem g64:Tryz.prog.globalNamed (nh 1)=some 1:=by kernel_rfl
theorem g10:Tryz.prog.globalNamed (nh 2)=some 0:=by kernel_rfl
def zbh (t:TypeId)(n:Nat)(k:IntKind):Prop:=∃e,Tryz.prog.underlying t=some (.array n e)∧Tryz.prog.underlying e=some (.int k)∧Tryz.prog.cellsOf e=1∧Tryz.prog.cellsOf t=n
theorem qF {W:World}{nme:String}{t:Nat}{k:IntKind}{l:List Int}{cs:Array Value}{p:List MemPlace}(hg:Tryz.prog.globalNamed nme=some g)(hvar:W.var? Tryz.prog nme=some cs)(hT:zbh t n k)
  (hd:DataW.trod (fun _=>()) Tryz.prog W 0 (fun _=>true) false fuel t cs.toList=some (.agg (l.map fun z=>.lit (.int k z)),p)):hv (wH W) (nm g)=some (.ro (GK.u k l)):=by
 obtain ⟨e,h1,h2,h3,h4⟩:=hT
 have hc:=nI h1 h2 h3 h4 hd
 obtain ⟨e',fz,hb⟩:=fZ hg hvar
 have:=jw hb
 rw [this,hc]
 show some (BF.ro ((GK.u k l).map (up nm)))=_
 rw [up_u]
theorem ty32:(Tryz.prog.globals[4]?).map (·.type)=some 263:=by kernel_rfl
theorem ty64:(Tryz.prog.globals[1]?).map (·.type)=some 260:=by kernel_rfl
theorem ty10:(Tryz.prog.globals[0]?).map (·.type)=some 244:=by kernel_rfl
theorem zh3:zbh 263 32 .u8:=⟨5,by kernel_rfl,by kernel_rfl,by kernel_rfl,by kernel_rfl⟩
theorem zh2:zbh 260 64 .u8:=⟨5,by kernel_rfl,by kernel_rfl,by kernel_rfl,by kernel_rfl⟩
theorem zh4:zbh 244 20 .u64:=⟨170,by kernel_rfl,by kernel_rfl,by kernel_rfl,by kernel_rfl⟩
theorem aZ {W:World}(h:laidMet Tryz.prog gS W):GK.G (hv (wH W)):=by
 obtain ⟨ps,hL,_,_⟩:=h
 obtain ⟨g1,t1,cs1,fu1,p1,q1,e1,u1,v1,d1,hL,_⟩:=hL
 obtain ⟨g2,t2,cs2,fu2,p2,q2,e2,u2,v2,d2,hL,_⟩:=hL
 obtain ⟨g3,t3,cs3,fu3,p3,q3,e3,u3,v3,d3,_,_⟩:=hL
 obtain rfl:=Option.some.inj (g32.symm.trans e1)
 obtain rfl:=Option.some.inj (g64.symm.trans e2)
 obtain rfl:=Option.some.inj (g10.symm.trans e3)
 obtain rfl:=Option.some.inj (ty32.symm.trans u1)
 obtain rfl:=Option.some.inj (ty64.symm.trans u2)
 obtain rfl:=Option.some.inj (ty10.symm.trans u3)
 exact ⟨qF e2 v2 zh2 d2,qF e3 v3 zh4 d3,qF e1 v1 zh3 d1⟩
end
section
set_option maxRecDepth 100000
variable {fuel i l n sz:Nat}{e t:TypeId}{v:Value}{α:Type}{cs:List Value}
mutual
theorem zb9 {H:Type}:∀d:DataW H,1≤Rows.uptoBulk d
 | .lit (.string b)=>by simp [Rows.uptoBulk]
 | .lit (.bool b)=>by simp [Rows.uptoBulk]
 | .lit (.int k b)=>by simp [Rows.uptoBulk]
 | .lit (.float k b)=>by simp [Rows.uptoBulk]
 | .lit .nil=>by simp [Rows.uptoBulk]
 | .nil=>by simp [Rows.uptoBulk]
 | .ptr d=>by simp [Rows.uptoBulk]
 | .slice _ _=>by simp [Rows.uptoBulk]
 | .agg _=>by simp [Rows.uptoBulk]
 | .iface _ d=>by simp [Rows.uptoBulk]
 | .map _=>by simp [Rows.uptoBulk]
 | .held _=>by simp [Rows.uptoBulk]
end
theorem jh {H:Type}:∀l:List (DataW H),l.length≤Rows.uptoBulkAll l:=by
 intro l
 induction l with
 |nil=>simp
 |cons d l ih=>have:=zb9 d;simp only [List.length_cons,Rows.uptoBulkAll];omega
theorem pr {H:Type}{d:DataW H}:∀{l:List (DataW H)},d∈l→Rows.uptoBulk d≤Rows.uptoBulkAll l:=by
 intro l
 induction l with
 |nil=>intro h;cases h
 |cons e l ih=>
  intro h
  simp only [Rows.uptoBulkAll]
  rcases List.mem_cons.1 h with rfl|h
  ·omega
  have:=ih h;omega
theorem zca {a:Addr}{c:Nat}(h:bd (up nm (.slice (some a) l c))≤3*n):nm a.block<3*n:=by
 simp only [up,bd] at h
 omega
theorem ls (a:Addr)(i:Nat):(a.add i).block=a.block:=by unfold Addr.add;split<;>rfl
theorem aW (a:Addr)(i:Nat):(a.add i).off=a.off+i:=by unfold Addr.add;split<;>simp_all
theorem lk (a:Addr):a.add 0=a:=by unfold Addr.add;simp
section
variable {H:Type}{enc:TypeId×Value→H}{W:World}{held:Bool}
theorem p8 {d:DataW H}{p:List MemPlace}(hW:Wn W n)(ht:Tryz.prog.underlying t=some (.slice e))(hsz:Tryz.prog.cellsOf e=sz)(h0:0<sz)(h:DataW.trod enc Tryz.prog W 0 (fun _=>true) held fuel t [v]=some (d,p))(hb:bd (up nm v)≤3*n):
  ∃(a:Option Addr) (l c:Nat) (cells:List Value),v=.slice a l c∧Sl (hv (wH W)) n sz (up nm v) (cells.map (up nm))∧cells.length=l*sz∧l≤Rows.uptoBulk d∧(∀x∈cells,bd (up nm x)≤3*n)∧
   ∀i,i<l→∃fu D q,DataW.trod enc Tryz.prog W 0 (fun _=>true) held fu e ((cells.drop (i*sz)).take sz)=some (D,q)∧Rows.uptoBulk D≤Rows.uptoBulk d:=by
 rcases Go.Deep.open_slice ht h with ⟨hv,hd⟩|⟨a,len,cap,m,fu,D,Pl,hv,_,hle,_,hm,hx,hel⟩
 ·injection hv with hv
  injection hd with hd
  subst hv hd
  exact ⟨none,0,0,[],rfl,.nil (.inl rfl),by simp,Nat.zero_le _,(fun x hx=>by cases hx),fun i hi=>absurd hi (Nat.not_lt_zero i)⟩
 injection hv with hv
 injection hx with hx _
 subst hv hx
 have hm':m=cap:=by rw [hm];rfl
 subst hm'
 rw [hsz] at hel
 have hbl:nm a.block<3*n:=zca hb
 have hlb:len≤Rows.uptoBulk (DataW.slice ((List.range len).map D) ((List.range (m-len)).map fun j=>D (len+j))):=by
  have:=jh ((List.range len).map D)
  rw [List.length_map,List.length_range] at this
  simp only [Rows.uptoBulk]
  omega
 have hmem:∀i,i<len→Rows.uptoBulk (D i)≤Rows.uptoBulk (DataW.slice ((List.range len).map D) ((List.range (m-len)).map fun j=>D (len+j))):=fun i hi=>by
  have:=pr (d:=D i) (l:=(List.range len).map D) (List.mem_map_of_mem (List.mem_range.2 hi))
  simp only [Rows.uptoBulk]
  omega
 by_cases hc0:m=0
 ·have hl0:len=0:=zo
  subst hl0
  refine ⟨some a,0,m,[],rfl,.nil (.inr ⟨_,_,_,rfl,hbl⟩),by simp,Nat.zero_le _,(fun x hx=>by cases hx),fun i hi=>absurd hi (Nat.not_lt_zero i)⟩
 have hcell:∀i,i<m→∃cs,DataW.trod enc Tryz.prog W 0 (fun _=>true) held fu e cs=some (D i,Pl i)∧cs.length=sz∧∀j,j<sz→W.cell? ((a.add (i*sz)).add j)=cs[j]?:=fun i hi=>by
  obtain ⟨cs,h1,h2⟩:=hel i hi
  obtain ⟨_,h3,h4⟩:=World.cells?_some h1
  exact ⟨cs,h2,h3,h4⟩
 have hblk:a.spot=none∧∃c e' fz,W.heap[a.block]?=some (.cells c e' fz):=by
  obtain ⟨cs,_,h2,h1⟩:=hcell 0 zo
  have h1:=h1 0 h0
  rw [Nat.zero_mul,lk,lk,List.getElem?_eq_getElem zo] at h1
  unfold World.cell? at h1
  split at h1
  ·split at h1
   ·cases h1
   rename_i hs
   exact ⟨by simpa using hs,_,_,_,by assumption⟩
  cases h1
 obtain ⟨hspot,c,e',fz,hbk⟩:=hblk
 obtain ⟨b,off,sp⟩:=a
 simp only at hspot hbk hbl
 subst hspot
 have hget:∀i,i<m→∃cs,DataW.trod enc Tryz.prog W 0 (fun _=>true) held fu e cs=some (D i,Pl i)∧cs.length=sz∧∀j,j<sz→c[off+i*sz+j]?=cs[j]?:=fun i hi=>by
  obtain ⟨cs,h2,h4,h3⟩:=hcell i hi
  refine ⟨cs,h2,h4,fun j hj=>?_⟩
  rw [←h3 j hj]
  have e1:((Addr.add ⟨b,off,none⟩ (i*sz)).add j).block=b:=by rw [ls,ls]
  have e2:((Addr.add ⟨b,off,none⟩ (i*sz)).add j).off=off+i*sz+j:=by rw [aW,aW]
  have e3:((Addr.add ⟨b,off,none⟩ (i*sz)).add j).spot=none:=by
   unfold Addr.add
   split
   ·split<;>rfl
   rfl
  unfold World.cell?
  rw [e1,hbk]
  simp only [e2,e3]
  rfl
 have hsz':off+m*sz≤c.size:=by
  obtain ⟨cs,_,h3,h2⟩:=hget (m-1) zo
  have h2:=h2 (sz-1) zo
  rw [List.getElem?_eq_getElem zo] at h2
  rcases Nat.lt_or_ge (off+(m-1)*sz+(sz-1)) c.size with h'|h'
  ·have:(m-1)*sz+sz=m*sz:=by rw [←Nat.succ_mul];congr 1;omega
   omega
  rw [Array.getElem?_eq_none h'] at h2;cases h2
 have hlm:len*sz≤m*sz:=Nat.mul_le_mul_right _ hle
 have hcl:((c.toList.drop off).take (len*sz)).length=len*sz:=by
  rw [List.length_take,List.length_drop,Array.length_toList];omega
 refine ⟨some ⟨b,off,none⟩,len,m,(c.toList.drop off).take (len*sz),rfl,.at_ hbl (jw hbk) rfl hle (by show off+len*sz≤(c.toList.map (up nm)).length;simp;omega) (by rw [List.map_take,List.map_drop]),hcl,hlb,fun x hx=>hW.le b c e' fz hbk x (List.mem_of_mem_drop (List.mem_of_mem_take hx)),fun i hi=>?_⟩
 obtain ⟨cs,h1,h3,h4⟩:=hget i zo
 have hcs:(((c.toList.drop off).take (len*sz)).drop (i*sz)).take sz=cs:=by
  have hil:i*sz+sz≤len*sz:=by rw [←Nat.succ_mul];exact Nat.mul_le_mul_right _ hi
  apply List.ext_getElem?
  intro j
  by_cases hj:j<sz
  ·rw [List.getElem?_take_of_lt hj,List.getElem?_drop,List.getElem?_take_of_lt zo,List.getElem?_drop,Array.getElem?_toList,←h4 j hj,Nat.add_assoc]
  rw [List.getElem?_eq_none (by rw [List.length_take,List.length_drop,hcl];omega),List.getElem?_eq_none zo]
 exact ⟨fu,D i,Pl i,by rw [hcs];exact h1,hmem i hi⟩
theorem zdm {g:α→List Value}{Q:α→Prop}:∀{l:Nat} {cells:List Value},cells.length=l*sz→(∀i,i<l→∃x,(cells.drop (i*sz)).take sz=g x∧Q x)→∃xs:List α,xs.length=l∧cells=xs.flatMap g∧∀x∈xs,Q x:=by
 intro l
 induction l with
 |zero=>intro cells hl _;exact ⟨[],rfl,List.length_eq_zero_iff.1 (by rw [hl,Nat.zero_mul]),fun x hx=>by cases hx⟩
 |succ l ih=>
  intro cells hl h
  obtain ⟨x,hx,hq⟩:=h 0 zo
  rw [Nat.zero_mul,List.drop_zero] at hx
  obtain ⟨xs,h1,h2,h3⟩:=ih (cells:=cells.drop sz) (by rw [List.length_drop,hl,Nat.succ_mul];omega) (fun i hi=>by
   obtain ⟨y,hy,hq⟩:=h (i+1) zo
   exact ⟨y,by rw [List.drop_drop,←hy,Nat.succ_mul,Nat.add_comm],hq⟩)
  refine ⟨x::xs,by rw [List.length_cons,h1],?_,fun y hy=>?_⟩
  ·rw [List.flatMap_cons,←hx,←h2,List.take_append_drop]
  rcases List.mem_cons.1 hy with rfl|hy
  ·exact hq
  exact h3 y hy
theorem qf {c:Value}{y:DataW H×List MemPlace}(ht:Tryz.prog.underlying t=some .string)(h:DataW.trod enc Tryz.prog W 0 (fun _=>true) held fuel t [c]=some y):∃s:List UInt8,c=.string ⟨⟨s⟩⟩:=by
 cases fuel with
 |zero=>simp [DataW.trod] at h
 |succ fuel=>
  cases c<;>simp [DataW.trod,ht] at h
  rename_i s
  exact ⟨s.data.toList,rfl⟩
theorem za3 {cells:List Value}(hl:cells.length=l*1)(hi:i<l):∃v,(cells.drop (i*1)).take 1=[v]:=by
 rw [Nat.mul_one] at hl ⊢
 exact ⟨cells[i]'zo,by rw [List.drop_eq_getElem_cons zo];rfl⟩
theorem wE {d:DataW H}{p:List MemPlace}(hW:Wn W n)(ht:Tryz.prog.underlying t=some (.slice e))(he:Tryz.prog.underlying e=some .string)(hsz:Tryz.prog.cellsOf e=1)(h:DataW.trod enc Tryz.prog W 0 (fun _=>true) held fuel t [v]=some (d,p))(hb:bd (up nm v)≤3*n):
  ∃S:List (List UInt8),Sl (hv (wH W)) n 1 (up nm v) (strs S)∧S.length≤Rows.uptoBulk d:=by
 obtain ⟨a,l,c,cells,rfl,h1,h2,h3,_,h5⟩:=p8 hW ht hsz zd h hb
 obtain ⟨L,h6,h7,h9⟩:=zdm (g:=fun s:List UInt8=>[Value.string ⟨⟨s⟩⟩]) (Q:=fun _=>True) h2 (fun i hi=>by
  obtain ⟨v,hv⟩:=za3 h2 hi
  obtain ⟨fu,D,q,h8,_⟩:=h5 i hi
  rw [hv] at h8 ⊢
  obtain ⟨z,rfl⟩:=qf he h8
  exact ⟨z,rfl,trivial⟩)
 refine ⟨L,?_,zo⟩
 have:cells.map (up nm)=strs L:=by
  rw [h7]
  clear h9 h7 h6
  induction L with
  |nil=>rfl
  |cons z L ih=>rw [List.flatMap_cons,List.map_append,ih];rfl
 rw [←this];exact h1
noncomputable def parts (t:TypeId):Option (List (TypeId×Nat)):=match Tryz.prog.underlying t with|some (.struct fs)=>some (fs.toList.map fun f=>(f.type,f.offset))|_=>none
theorem tH {L:List (TypeId×Nat)}{d:DataW H}{p:List MemPlace}(hp:parts t=some L)(h:DataW.trod enc Tryz.prog W 0 (fun _=>true) held fuel t cs=some (d,p)):
  cs.length=Tryz.prog.cellsOf t∧∃fu xs,d=.agg xs∧∀(i:Nat) (f:TypeId×Nat),L[i]?=some f→∃D q,DataW.trod enc Tryz.prog W 0 (fun _=>true) held fu f.1 ((cs.drop f.2).take (Tryz.prog.cellsOf f.1))=some (D,q)∧D∈xs:=by
 cases fuel with
 |zero=>simp [DataW.trod] at h
 |succ fuel=>
  unfold parts at hp
  split at hp
  ·rename_i fs hfs
   injection hp with hp
   simp only [DataW.trod,hfs] at h
   split at h
   ·rename_i hl
    refine ⟨hl,?_⟩
    rw [Option.map_eq_some_iff] at h
    obtain ⟨xs,hx,hy⟩:=h
    injection hy with hy _
    refine ⟨fuel,xs.map (·.1),hy.symm,fun i f hf=>?_⟩
    subst hp
    rw [List.getElem?_map,Option.map_eq_some_iff] at hf
    obtain ⟨g,hg,rfl⟩:=hf
    have hlen:=mapM_some_length hx
    have hi:i<fs.toList.length:=by
     rcases Nat.lt_or_ge i fs.toList.length with h'|h'
     ·exact h'
     rw [List.getElem?_eq_none h'] at hg;cases hg
    have h2:=mapM_some_get hx i g hg
    obtain ⟨y,hxi⟩:∃y,xs[i]?=some y:=⟨xs[i]'zo,List.getElem?_eq_getElem zo⟩
    rw [hxi] at h2
    exact ⟨y.1,y.2,h2,List.mem_map_of_mem (List.mem_of_getElem? hxi)⟩
   cases h
  cases hp
theorem zf2 {xs:List (DataW H)}{D:DataW H}(h:D∈xs):Rows.uptoBulk D≤Rows.uptoBulk (.agg xs):=by
 have:=pr h
 simp only [Rows.uptoBulk]
 omega
end
end
section
set_option maxRecDepth 100000
variable {α:Type}{h:HF}{fuel n sz:Nat}{v:Value}{c cs:List Value}
theorem zih {l:List α}(h:l.length=4):∃a b c d,l=[a,b,c,d]:=by
 match l,h with
 |[a,b,c,d],_=>exact ⟨a,b,c,d,rfl⟩
theorem zii {l:List α}(h:l.length=3):∃a b c,l=[a,b,c]:=by
 match l,h with
 |[a,b,c],_=>exact ⟨a,b,c,rfl⟩
theorem qz:Tryz.prog.underlying 9=some .string:=by kernel_rfl
theorem rJ:Tryz.prog.underlying 22=some (.slice 9):=by kernel_rfl
theorem zgf:Tryz.prog.underlying 23=some (.slice 45):=by kernel_rfl
theorem pN:Tryz.prog.cellsOf 9=1:=by kernel_rfl
theorem bY:Tryz.prog.cellsOf 22=1:=by kernel_rfl
theorem zhq:Tryz.prog.cellsOf 23=1:=by kernel_rfl
theorem zhr:Tryz.prog.cellsOf 45=3:=by kernel_rfl
theorem c_lp:Tryz.prog.cellsOf 25=4:=by kernel_rfl
theorem zib:parts 45=some [(22,0),(9,1),(9,2)]:=by kernel_rfl
theorem p_lp:parts 25=some [(22,0),(23,1),(22,2),(22,3)]:=by kernel_rfl
theorem Sl.sh (s:Sl h n sz v c):∃a l k,v=.slice a l k:=by
 cases s with
 |nil ha=>exact ⟨_,_,_,rfl⟩
 |at_ hb hx hc hcap hl he=>exact ⟨_,_,_,rfl⟩
theorem Rec.flat {D:Type}{P:List Value→D→Prop}{g:D→List Value}:∀{l:List D},(∀x∈l,(g x).length=sz∧P (g x) x)→Rec sz P (l.flatMap g) l:=by
 intro l
 induction l with
 |nil=>intro _;exact .nil
 |cons x l ih=>
  intro h
  rw [List.flatMap_cons]
  exact .cons (h x List.mem_cons_self).1 (h x List.mem_cons_self).2 (ih fun y hy=>h y (List.mem_cons_of_mem _ hy))
theorem Rec.map {D E:Type}{P:List Value→D→Prop}{P':List Value→E→Prop}{f:D→E}{l:List D}(r:Rec sz P cs l)(h:∀c d,P c d→P' c (f d)):Rec sz P' cs (l.map f):=by
 induction r with
 |nil=>exact .nil
 |cons hl hp hr ih=>exact .cons hl (h _ _ hp) ih
section
variable {H:Type}{enc:TypeId×Value→H}{W:World}{held:Bool}
theorem df {d:DataW H}{p:List MemPlace}(hW:Wn W n)(h:DataW.trod enc Tryz.prog W 0 (fun _=>true) held fuel 23 [v]=some (d,p))(hb:bd (up nm v)≤3*n):
  ∃rs,RWS (hv (wH W)) n (up nm v) rs∧rs.length≤Rows.uptoBulk d∧∀r∈rs,r.A.length≤Rows.uptoBulk d:=by
 obtain ⟨a,l,c,cells,rfl,h1,h2,h3,h4,h5⟩:=p8 hW zgf zhr zd h hb
 obtain ⟨L,h6,h7,h9⟩:=zdm (α:=RowD×Value) (g:=fun x=>[x.2,.string ⟨⟨x.1.lo⟩⟩,.string ⟨⟨x.1.hi⟩⟩]) (Q:=fun x=>Sl (hv (wH W)) n 1 (up nm x.2) (strs x.1.A)∧x.1.A.length≤Rows.uptoBulk d) h2 (fun i hi=>by
  obtain ⟨fu,D,q,h8,h8b⟩:=h5 i hi
  have hmem:∀x∈(cells.drop (i*3)).take 3,bd (up nm x)≤3*n:=fun x hx=>h4 x (List.mem_of_mem_drop (List.mem_of_mem_take hx))
  generalize (cells.drop (i*3)).take 3=cs at h8 hmem ⊢
  obtain ⟨hl,fu',xs,rfl,hx⟩:=tH zib h8
  rw [zhr] at hl
  obtain ⟨c0,c1,c2,rfl⟩:=zii hl
  obtain ⟨D0,_,g0,m0⟩:=hx 0 _ rfl
  obtain ⟨_,_,g1,_⟩:=hx 1 _ rfl
  obtain ⟨_,_,g2,_⟩:=hx 2 _ rfl
  simp only [bY,pN] at g0 g1 g2
  have b0:=zf2 m0
  obtain ⟨S,s1,s2⟩:=wE hW rJ qz pN g0 (hmem c0 (by simp))
  obtain ⟨s,rfl⟩:=qf qz g1
  obtain ⟨t,rfl⟩:=qf qz g2
  exact ⟨(⟨S,s,t⟩,c0),rfl,s1,by show S.length≤_;omega⟩)
 refine ⟨L.map (·.1),⟨cells.map (up nm),h1,?_⟩,by rw [List.length_map];omega,fun r hr=>?_⟩
 ·have e:cells.map (up nm)=L.flatMap fun x=>[up nm x.2,.string ⟨⟨x.1.lo⟩⟩,.string ⟨⟨x.1.hi⟩⟩]:=by
   rw [h7]
   clear h9 h7 h6
   induction L with
   |nil=>rfl
   |cons z L ih=>rw [List.flatMap_cons,List.map_append,ih];rfl
  rw [e]
  refine (Rec.flat (sz:=3) (P:=fun c (x:RowD×Value)=>rowP c x.1 (hv (wH W)) n) fun x hx=>⟨rfl,?_⟩).map fun c d hd=>hd
  obtain ⟨q1,_⟩:=h9 x hx
  obtain ⟨a2,l2,k2,e2⟩:=q1.sh
  rw [e2] at q1 ⊢
  exact ⟨_,_,_,rfl,q1⟩
 obtain ⟨x,hx,rfl⟩:=List.mem_map.1 hr
 exact (h9 x hx).2
theorem zez {d:DataW H}{p:List MemPlace}(hW:Wn W n)(ha:∃cs,v=.agg cs)(h:DataW.Trod enc Tryz.prog W 0 (fun _=>true) held 25 v d p)(hb:bd (up nm v)≤3*n):
  ∃(ao:Option Addr) (lo co:Nat) (ar:Option Addr) (lr cr:Nat) (aw:Option Addr) (lw cw:Nat) (au:Option Addr) (lu cu:Nat) (q:LPD),up nm v=.agg #[.slice ao lo co,.slice ar lr cr,.slice aw lw cw,.slice au lu cu]∧Sl (hv (wH W)) n 1 (.slice ao lo co) (strs q.obj)∧RWS (hv (wH W)) n (.slice ar lr cr) q.rows∧Sl (hv (wH W)) n 1 (.slice aw lw cw) (strs q.lower)∧Sl (hv (wH W)) n 1 (.slice au lu cu) (strs q.upper):=by
 obtain ⟨cs,rfl⟩:=ha
 obtain ⟨fuel,h⟩:=h
 obtain ⟨hl,fu,xs,rfl,hx⟩:=tH p_lp h
 rw [c_lp] at hl
 obtain ⟨c0,c1,c2,c3,hcs⟩:=zih hl
 have hcs':cs=#[c0,c1,c2,c3]:=by
  cases cs
  simp [Value.cells] at hcs
  simp [hcs]
 subst hcs'
 have hbd:∀x∈[c0,c1,c2,c3],bd (up nm x)≤3*n:=fun x hx=>by
  have:=lg (List.mem_map_of_mem (f:=up nm) hx)
  have e:bd (up nm (.agg #[c0,c1,c2,c3]))=bdL ([c0,c1,c2,c3].map (up nm)):=rfl
  omega
 rw [hcs] at hx
 obtain ⟨D0,_,g0,m0⟩:=hx 0 _ rfl
 obtain ⟨D1,_,g1,m1⟩:=hx 1 _ rfl
 obtain ⟨D2,_,g2,m2⟩:=hx 2 _ rfl
 obtain ⟨D3,_,g3,m3⟩:=hx 3 _ rfl
 simp only [bY,zhq] at g0 g1 g2 g3
 obtain ⟨O,e0,_⟩:=wE hW rJ qz pN g0 (hbd c0 (by simp))
 obtain ⟨rs,e1,_⟩:=df hW g1 (hbd c1 (by simp))
 obtain ⟨A,e2,_⟩:=wE hW rJ qz pN g2 (hbd c2 (by simp))
 obtain ⟨B,e3,_⟩:=wE hW rJ qz pN g3 (hbd c3 (by simp))
 obtain ⟨_,_,_,f0⟩:=e0.sh
 obtain ⟨cells,e1s,e1r⟩:=e1
 obtain ⟨_,_,_,f1⟩:=e1s.sh
 obtain ⟨_,_,_,f2⟩:=e2.sh
 obtain ⟨_,_,_,f3⟩:=e3.sh
 rw [f0] at e0
 rw [f1] at e1s
 rw [f2] at e2
 rw [f3] at e3
 refine ⟨_,_,_,_,_,_,_,_,_,_,_,_,⟨O,rs,A,B⟩,?_,e0,⟨cells,e1s,e1r⟩,e2,e3⟩
 show Value.agg #[up nm c0,up nm c1,up nm c2,up nm c3]=_
 rw [f0,f1,f2,f3]
end
end
section
set_option maxRecDepth 100000
theorem zig {α:Type}{l:List α}(h:l.length=6):∃a b c d e f,l=[a,b,c,d,e,f]:=by
 match l,h with
 |[a,b,c,d,e,f],_=>exact ⟨a,b,c,d,e,f,rfl⟩
theorem zh1:Tryz.prog.underlying 3=some (.int .i64):=by kernel_rfl
theorem ziq:Tryz.prog.cellsOf 3=1:=by kernel_rfl
theorem zio:Tryz.prog.cellsOf 40=6:=by kernel_rfl
theorem zgx:parts 40=some [(3,0),(9,1),(22,2),(22,3),(22,4),(22,5)]:=by kernel_rfl
section
variable {H:Type}{enc:TypeId×Value→H}{W:World}{held:Bool}
theorem zaz {n:Nat}{v:Value}{d:DataW H}{p:List MemPlace}(hW:Wn W n)(ha:∃cs,v=.agg cs)(h:DataW.Trod enc Tryz.prog W 0 (fun _=>true) held 40 v d p)(hb:bd (up nm v)≤3*n):
  ∃(o:Int) (V:List UInt8) (ax:Option Addr) (lx cx:Nat) (ay:Option Addr) (ly cy:Nat) (az:Option Addr) (lz cz:Nat) (am:Option Addr) (lm cm:Nat) (X Y R C:List (List UInt8)),up nm v=.agg #[.int .i64 o,.string ⟨⟨V⟩⟩,.slice ax lx cx,.slice ay ly cy,.slice az lz cz,.slice am lm cm]∧Sl (hv (wH W)) n 1 (.slice ax lx cx) (strs X)∧Sl (hv (wH W)) n 1 (.slice ay ly cy) (strs Y)∧Sl (hv (wH W)) n 1 (.slice az lz cz) (strs R)∧Sl (hv (wH W)) n 1 (.slice am lm cm) (strs C):=by
 obtain ⟨cs,rfl⟩:=ha
 obtain ⟨fuel,h⟩:=h
 obtain ⟨hl,fu,xs,rfl,hx⟩:=tH zgx h
 rw [zio] at hl
 obtain ⟨c0,c1,c2,c3,c4,c5,hcs⟩:=zig hl
 have hcs':cs=#[c0,c1,c2,c3,c4,c5]:=by
  cases cs
  simp [Value.cells] at hcs
  simp [hcs]
 subst hcs'
 have hbd:∀x∈[c0,c1,c2,c3,c4,c5],bd (up nm x)≤3*n:=fun x hx=>by
  have:=lg (List.mem_map_of_mem (f:=up nm) hx)
  have e:bd (up nm (.agg #[c0,c1,c2,c3,c4,c5]))=bdL ([c0,c1,c2,c3,c4,c5].map (up nm)):=rfl
  omega
 rw [hcs] at hx
 obtain ⟨D0,_,g0,m0⟩:=hx 0 _ rfl
 obtain ⟨D1,_,g1,m1⟩:=hx 1 _ rfl
 obtain ⟨D2,_,g2,m2⟩:=hx 2 _ rfl
 obtain ⟨D3,_,g3,m3⟩:=hx 3 _ rfl
 obtain ⟨D4,_,g4,m4⟩:=hx 4 _ rfl
 obtain ⟨D5,_,g5,m5⟩:=hx 5 _ rfl
 simp only [bY,ziq,pN] at g0 g1 g2 g3 g4 g5
 obtain ⟨o,rfl,_⟩:=pa zh1 g0
 obtain ⟨V,rfl⟩:=qf qz g1
 obtain ⟨X,e2,_⟩:=wE hW rJ qz pN g2 (hbd c2 (by simp))
 obtain ⟨Y,e3,_⟩:=wE hW rJ qz pN g3 (hbd c3 (by simp))
 obtain ⟨R,e4,_⟩:=wE hW rJ qz pN g4 (hbd c4 (by simp))
 obtain ⟨C,e5,_⟩:=wE hW rJ qz pN g5 (hbd c5 (by simp))
 obtain ⟨_,_,_,f2⟩:=e2.sh
 obtain ⟨_,_,_,f3⟩:=e3.sh
 obtain ⟨_,_,_,f4⟩:=e4.sh
 obtain ⟨_,_,_,f5⟩:=e5.sh
 rw [f2] at e2
 rw [f3] at e3
 rw [f4] at e4
 rw [f5] at e5
 refine ⟨o,V,_,_,_,_,_,_,_,_,_,_,_,_,X,Y,R,C,?_,e2,e3,e4,e5⟩
 show Value.agg #[.int .i64 o,.string ⟨⟨V⟩⟩,up nm c2,up nm c3,up nm c4,up nm c5]=_
 rw [f2,f3,f4,f5]
end
end
section
set_option maxRecDepth 100000
theorem own:ownKnob Tryz.prog.godebug=none:=by kernel_rfl
theorem kD:laidOutB Tryz.prog=true:=by kernel_rfl
def nf (c:Array Value):Obj→Obj
 | .cells _ t frozen=>.cells c t frozen
 |o=>o
noncomputable def mH (os:Os):World:=
 {World.holding Tryz.prog os ⟨#[],#[],[]⟩ with heap:=(((World.holding Tryz.prog os ⟨#[],#[],[]⟩).heap.modify 1 (nf GK.d64.toArray)).modify 0 (nf GK.p10.toArray)).modify 4 (nf GK.d32.toArray)}
theorem ng (os:Os)(args:Array Value):laidMet Tryz.prog gS ((mH os).forCall (fun _ _=>0) ⟨#[],args,[]⟩).memory:=
 laidMet_of_run' 8 (by kernel_rfl) (by kernel_rfl)
end
end Go.Proofs.YtlmbghgklnmlkaaGreatDoor
