import Derived.Below
import Derived.Test.YtlecmppbeonckaaGreatDoorRows
import Derived.ChangeSame
import Derived.ChangeVars
import Derived.ChangeSlices
import Derived.JoinedOf
import Derived.RowKit
import Derived.RowKitTokens
import Derived.LaidLaws
import Derived.Carry
import Derived.Handed
import Derived.Deep.Slices
import Derived.Test.YtlecmppbeonckaaGreatDoorTie
import Derived.Test.YtlecmppbeonckaaGreatDoorCards
import Derived.Test.YtlecmppbeonckaaGreatDoorFcoB
set_option maxHeartbeats 8000000
set_option linter.unusedVariables false
set_option linter.unusedSimpArgs false
namespace Go.Proofs.YtlecmppbeonckaaGreatDoor
open Go Go.GL
variable {h h':HF}{n n' cap d m sz b bt bytes j size N i k:Nat}{cs c ce:List Value}{T:TapeI}{vB vE vF vO u v z:Value}{e sT ty xT:TypeId}{x:Operand}{W:List Nat}{L B:List Int}{s:SV}{α:Type}{ik:IntKind}{ρ ρ':Ren}
section
structure Eqn where
 es:List Ent
 fr:List (List UInt8)
 rhs:List UInt8
structure Sdp where
 blocks:List Int
 free:Nat
 obj:List Ent
 objFree:List (List UInt8)
 eqs:List Eqn
inductive EqR (h:HF) (n:Nat):List Value→List Eqn→Prop
 |nil:EqR h n [] []
 |cons {ve vf:Value} {q:Eqn} {cs:List Value} {qs:List Eqn} (h1:Sl h n 4 ve (ents q.es)) (h2:Sl h n 1 vf (strs q.fr)) (h3:EqR h n cs qs):EqR h n (ve::vf:: .string ⟨⟨q.rhs⟩⟩::cs) (q::qs)
theorem EqR.mapS {qs:List Eqn}(e:EqR h n cs qs)(hS:∀v∈cs,∀sz c,Sl h n sz v c→Sl h' n' sz v c):EqR h' n' cs qs:=by
 induction e with
 |nil=>exact .nil
 |cons h1 h2 h3 ih=>exact .cons (hS _ (by simp) _ _ h1) (hS _ (by simp) _ _ h2) (ih fun v hv=>hS v (by simp [hv]))
theorem EqR.ext {qs:List Eqn}(e:EqR h n cs qs)(hx:Ext n h h')(hn:n≤n'):EqR h' n' cs qs:=e.mapS fun _ _ _ _ s=>s.ext hx hn
theorem EqR.belows {qs:List Eqn}(e:EqR h n cs qs):∀v∈cs,Pt (fun b=>b<3*n) v:=by
 induction e with
 |nil=>intro v hv;cases hv
 |cons h1 h2 h3 ih=>
  intro v hv
  simp only [List.mem_cons] at hv
  rcases hv with rfl|rfl|rfl|hv
  ·exact Pt.of_below h1.below
  ·exact Pt.of_below h2.below
  ·exact fun a l c e=>by cases e
  exact ih v hv
theorem EqR.len {qs:List Eqn}(e:EqR h n cs qs):cs.length=qs.length*3:=by
 induction e with
 |nil=>rfl
 |cons h1 h2 h3 ih=>simp [ih];omega
theorem EqR.snoc {qs:List Eqn}{ve vf:Value}{q:Eqn}(e:EqR h n cs qs)(h1:Sl h n 4 ve (ents q.es))(h2:Sl h n 1 vf (strs q.fr)):EqR h n (cs++[ve,vf,.string ⟨⟨q.rhs⟩⟩]) (qs++[q]):=by
 induction e with
 |nil=>exact .cons h1 h2 .nil
 |cons g1 g2 g3 ih=>exact .cons g1 g2 ih
structure SdpR (h:HF)(n:Nat)(vB vO vF vE:Value)(p:Sdp):Prop where
 blocks:Sl h n 1 vB (i64s p.blocks)
 obj:Sl h n 4 vO (ents p.obj)
 objFree:Sl h n 1 vF (strs p.objFree)
 eqs:∃ce,Sl h n 3 vE ce∧EqR h n ce p.eqs
structure SdpOk (F least:Nat)(p:Sdp):Prop where
 bl:1≤p.blocks.length∧p.blocks.length≤2
 b3:∀d∈p.blocks,1≤d∧d≤3
 free:p.free≤F
 obj:EOk p.blocks p.obj p.blocks.length 0 0
 objl:p.obj.length≤256
 ofl:p.objFree.length=p.free
 ofs:∀s∈p.objFree,xY 2 s
 eql:least≤p.eqs.length∧p.eqs.length≤4
 eqo:∀q∈p.eqs,EOk p.blocks q.es p.blocks.length 0 0∧q.es.length≤256∧q.fr.length=p.free∧(∀s∈q.fr,xY 2 s)∧xY 4 q.rhs
theorem rP (k:Nat){F least:Nat}(hF:F≤100∧least≤4)(ht:Tp h T)(hn:T.m≤n):CF (cal (k+6)) 5 [.pointer (some ⟨T.bt,0,none⟩),.int .i64 (F:Int),.int .i64 (least:Int)] h n fun v h' n' w=>TLeft T h n h' n' w∧∃p vB vO vF vE,v=.agg #[vB,.int .i64 (p.free:Int),vO,vF,vE]∧SdpR h' n' vB vO vF vE p∧SdpOk F least p∧zY n vB∧zY n vO∧zY n vF∧zY n vE:=by
 have hbt:=ht.bt
 refine zO (fn:=Tryz.f5) R4 ?_
 refine zN ?_
 refine zF R5 ?_
 refine zN ?_
 repeat refine zR ?_
 refine zA _ R5 (wc (k+4) zo (ht.upd zo) zo) ?_
 rintro _ h1 _ w1 ⟨hw1,rfl,ht1,hx1,fr,rfl,hf0,hf1⟩
 obtain ⟨f,rfl⟩:∃f:Nat,fr=(f:Int):=⟨fr.toNat,zo⟩
 refine zm (v:=.agg #[.slice none 0 0,.int .i64 (f:Int),.slice none 0 0,.slice none 0 0,.slice none 0 0]) R5 ?_
 refine zF R5 ?_
 refine zp [.slice none 0 0,.int .i64 (f:Int),.slice none 0 0,.slice none 0 0,.slice none 0 0] R7 rfl (ze _ _ _) rfl (by show 3*n≤_;omega) ?_
 rw [ys]
 refine zN ?_
 repeat refine zR ?_
 generalize hh:upd h1 (3*(n+1)+2) _=h2
 have hp2:∃e,h2 (3*(n+1)+2)=some (.row [.slice none 0 0,.int .i64 (f:Int),.slice none 0 0,.slice none 0 0,.slice none 0 0] e):=⟨_,by rw [←hh,ze]⟩
 have hr2:∃e,h2 (3*n+2)=some (.row [.slice none 0 0,.int .i64 0,.slice none 0 0,.slice none 0 0,.slice none 0 0] e):=⟨_,by rw [←hh,zh zo,hx1 _ zo,ze];rfl⟩
 have hx2:ExtT n T.bt h h2:=fun b hb hne=>by rw [←hh,zh zo,hx1 b hne,zh zo]
 have ht2:Tp h2 T:=by rw [←hh];exact ht1.upd zo
 refine zA _ R5 (wc (k+4) (m:=2) zo ht2 zo) ?_
 rintro _ h3 _ w3 ⟨hw3,rfl,ht3,hx3,i0,rfl,hi0,hi1⟩
 obtain ⟨i0,rfl⟩:∃f:Nat,i0=(f:Int):=⟨i0.toNat,zo⟩
 repeat refine zR ?_
 refine zN ?_
 have hW3:=zK (n0:=(ctx (k+5) n (Tryz.f5).ntmps).n0) hw3 (zK (n0:=(ctx (k+5) n (Tryz.f5).ntmps).n0) (w:=[]) hw1 (fun b hb=>absurd hb List.not_mem_nil))
 have hp3:∃e,h3 (3*(n+1)+2)=some (.row [.slice none 0 0,.int .i64 (f:Int),.slice none 0 0,.slice none 0 0,.slice none 0 0] e):=by rw [hx3 _ zo];exact hp2
 have hr3:∃e,h3 (3*n+2)=some (.row [.slice none 0 0,.int .i64 0,.slice none 0 0,.slice none 0 0,.slice none 0 0] e):=by rw [hx3 _ zo];exact hr2
 have hx3':ExtT n T.bt h h3:=fun b hb hne=>(hx3 b hne).trans (hx2 b hb hne)
 refine zy (α:=Nat×Value×List Int) (fun z=>[(0,.pointer (some ⟨T.bt,0,none⟩)),(2,.int .i64 (least:Int)),(6,.pointer (some ⟨3*n+2,0,none⟩)),(7,.pointer (some ⟨3*(n+1)+2,0,none⟩)),(8,.int .i64 (z.1:Int))])
  (fun z h' n' w=>(∀b∈w,b=T.bt)∧n+2≤n'∧Tp h' T∧ExtT n T.bt h h'∧(∃e,h' (3*n+2)=some (.row [.slice none 0 0,.int .i64 0,.slice none 0 0,.slice none 0 0,.slice none 0 0] e))∧(∃e,h' (3*(n+1)+2)=some (.row [z.2.1,.int .i64 (f:Int),.slice none 0 0,.slice none 0 0,.slice none 0 0] e))∧z.1+z.2.2.length=i0+1∧(∀d∈z.2.2,1≤d∧d≤3)∧Gro h' (n+2) n' 3 1 z.2.1 z.2.2.length (i64s z.2.2)) (fun z=>z.1)
  (i0+1,.slice none 0 0,[]) ⟨rfl,rfl,rfl,rfl,by show Value.int .i64 _=Value.int .i64 _;congr 1;omega,trivial⟩ ⟨hW3,Nat.le_refl _,ht3,hx3',hr3,hp3,rfl,fun d hd=>absurd hd List.not_mem_nil,.nil⟩ (by show i0+1<LL;unfold LL;omega) ?_
 rintro ⟨i,vB,B⟩ t h4 n4 w4 ⟨hw4,hn4,ht4,hx4,hr4,⟨e4,hp4⟩,hiB,hB3,hgB⟩
 simp only at hp4 hiB hB3 hgB
 obtain ⟨aB,rfl,_⟩:=hgB.shape
 refine zN ?_
 cases i with
 |succ i=>
  repeat refine zR ?_
  refine zN ?_
  rw [zc rfl]
  refine zN ?_
  refine yK [0,1,0,4,12,28,63,127,255] rfl ?_
  repeat refine zE ?_
  refine zC R6 (zG rfl hp4 R2) R2 ?_
  repeat refine zE ?_
  refine vq (bt:=T.bt) _ R7 (wc (k+4) (m:=3) zo ht4 zo) (fun v h' n' W hp=>⟨hp.1,by rw [hp.2.1];exact Nat.le_refl _⟩) (by simp;omega) ?_
  rintro _ h5 n4 w5 ⟨hw5,rfl,ht5,hx5,rr,rfl,hr0,hr1⟩
  repeat refine zE ?_
  refine s6 (cs:=i64s [1+rr]) R5 ?_
  refine tx (mm:=1) R8 zd R3 ((hgB.extT (fun b hb hne=>hx5 b hne) zo (Nat.le_refl _)).ext (Ext.upd zo) zs) (yc (ze _ _ _) R2) (Nat.le_refl _) zo rfl rfl (by show n≤n+2∧_;omega) ?_
  intro v6 h6 W6 hg6 hx6 hk6 hf6
  obtain ⟨a6,rfl,_⟩:=hg6.shape
  repeat refine zE ?_
  have hp6:h6 (3*(n+1)+2)=some (.row [.slice aB B.length B.length,.int .i64 (f:Int),.slice none 0 0,.slice none 0 0,.slice none 0 0] e4):=by rw [hx6 _ zo,zh zo,hx5 _ zo];exact hp4
  refine yN (cs:=[.slice a6 (B.length+1) (B.length+1)]) R8 hp6 zb (by show 3*n≤_;omega) R3 ?_
  refine zN ?_
  repeat refine zR ?_
  refine zN ?_
  refine goOn (i,.slice a6 (B.length+1) (B.length+1),B++[1+rr]) (by show i<i+1;omega) ⟨rfl,rfl,rfl,rfl,by show Value.int .i64 _=Value.int .i64 _;congr 1;omega,trivial⟩ ⟨zK hw5 hw4,by show n+2≤n4+1+1;omega,?_,?_,?_,⟨e4,ze _ _ _⟩,by show i+(B++[_]).length=_;simp;omega,?_,?_⟩
  ·exact ((ht5.upd zo).ext hx6 zo).upd zo
  ·exact fun b hb hne=>(zh zo).trans ((hx6 b zo).trans ((zh zo).trans ((hx5 b hne).trans (hx4 b hb hne))))
  ·obtain ⟨e,he⟩:=hr4
   exact ⟨e,(zh zo).trans ((hx6 _ zo).trans ((zh zo).trans ((hx5 _ zo).trans he)))⟩
  ·intro d hd
   rcases List.mem_append.1 hd with hd|hd
   ·exact hB3 d hd
   simp at hd;subst hd;omega
  show Gro (upd h6 _ _) _ _ _ _ _ (B++[_]).length (i64s (B++[_]))
  have:i64s (B++[1+rr])=i64s B++i64s [1+rr]:=by simp [i64s]
  rw [this,List.length_append]
  exact hg6.extT (bt:=3*(n+1)+2) (fun b hb hne=>zh hne) zo (Nat.le_refl _)
 |zero=>
  have hbl:B.length=i0+1:=zo
  repeat refine zR ?_
  refine zN ?_
  rw [za rfl]
  refine zN ?_
  repeat refine zR ?_
  refine zg R6 hp4 (v:=.slice aB B.length B.length) R2 ?_
  have hfB:zY (n+2) (.slice aB B.length B.length):=hgB.fresh
  refine zA _ R5 (uk k ⟨zo,fun d hd=>by have:=hB3 d hd;omega⟩ ht4 zo hgB.sl (fun x hx=>by subst hx;have:3*(n+2)≤x.block:=hfB;omega)) ?_
  rintro vO h5 n5 w5 ⟨⟨hw5,hn5,ht5,hx5⟩,E,hE,hEl,hgO⟩
  obtain ⟨aO,rfl,_⟩:=hgO.shape
  have hp5:h5 (3*(n+1)+2)=some (.row [.slice aB B.length B.length,.int .i64 (f:Int),.slice none 0 0,.slice none 0 0,.slice none 0 0] e4):=by rw [hx5 _ zo zo];exact hp4
  repeat refine zR ?_
  refine yu (cs:=[.slice aO E.length E.length]) R8 hp5 zb (by show 3*n≤3*(n+1)+2;omega) ?_
  refine zN ?_
  repeat refine zR ?_
  refine zg R6 (ze _ _ _) (v:=.int .i64 (f:Int)) R2 ?_
  refine zA _ R5 (uV k (N:=f) zo (ht5.upd zo) zo) ?_
  rintro vF h6 n6 w6 ⟨⟨hw6,hn6,ht6,hx6⟩,S,hSl,hSs,hgF⟩
  obtain ⟨aF,rfl,_⟩:=hgF.shape
  have hp6:h6 (3*(n+1)+2)=some (.row [.slice aB B.length B.length,.int .i64 (f:Int),.slice aO E.length E.length,.slice none 0 0,.slice none 0 0] e4):=by rw [hx6 _ zo zo,ze];rfl
  repeat refine zR ?_
  refine yu (cs:=[.slice aF f f]) R8 hp6 zb (by show 3*n≤3*(n+1)+2;omega) ?_
  refine zN ?_
  repeat refine zR ?_
  refine zA _ R5 (wc (k+4) zo (ht6.upd zo) zo) ?_
  rintro _ h7 n7 w7 ⟨hw7,rfl,ht7,hx7,i1,rfl,hi10,hi11⟩
  obtain ⟨i1,rfl⟩:∃f:Nat,i1=(f:Int):=⟨i1.toNat,zo⟩
  repeat refine zR ?_
  refine zN ?_
  have hp7:∃e,h7 (3*(n+1)+2)=some (.row [.slice aB B.length B.length,.int .i64 (f:Int),.slice aO E.length E.length,.slice aF f f,.slice none 0 0] e):=⟨e4,by rw [hx7 _ zo,ze];rfl⟩
  have hr7:∃e,h7 (3*n+2)=some (.row [.slice none 0 0,.int .i64 0,.slice none 0 0,.slice none 0 0,.slice none 0 0] e):=by
   obtain ⟨e,he⟩:=hr4
   exact ⟨e,by rw [hx7 _ zo,zh zo,hx6 _ zo zo,zh zo,hx5 _ zo zo];exact he⟩
  have hxx7:ExtT n T.bt h h7:=fun b hb hne=>by rw [hx7 b hne,zh zo,hx6 b zo hne,zh zo,hx5 b zo hne];exact hx4 b hb hne
  have hgB7:Gro h7 (n+2) n7 3 1 (.slice aB B.length B.length) B.length (i64s B):=
   ((((hgB.extT hx5 zo hn5).extT (bt:=3*(n+1)+2) (fun b hb hne=>zh hne) zo (Nat.le_refl _)).extT hx6 zo hn6).extT (bt:=3*(n+1)+2) (fun b hb hne=>zh hne) zo (Nat.le_refl _)).extT (bt:=T.bt) (fun b hb hne=>hx7 b hne) zo (Nat.le_refl _)
  have hgO7:Gro h7 n4 n7 60 4 (.slice aO E.length E.length) E.length (ents E):=
   (((hgO.extT (bt:=3*(n+1)+2) (fun b hb hne=>zh hne) zo (Nat.le_refl _)).extT hx6 zo hn6).extT (bt:=3*(n+1)+2) (fun b hb hne=>zh hne) zo (Nat.le_refl _)).extT (bt:=T.bt) (fun b hb hne=>hx7 b hne) zo (Nat.le_refl _)
  have hgF7:Gro h7 n5 n7 9 1 (.slice aF f f) f (strs S):=
   (hgF.extT (bt:=3*(n+1)+2) (fun b hb hne=>zh hne) zo (Nat.le_refl _)).extT (bt:=T.bt) (fun b hb hne=>hx7 b hne) zo (Nat.le_refl _)
  have hw7':∀b∈addW (ctx (k+5) n (Tryz.f5).ntmps).n0 w7 (addW (ctx (k+5) n (Tryz.f5).ntmps).n0 w6 (addW (ctx (k+5) n (Tryz.f5).ntmps).n0 w5 w4)),b=T.bt:=zK hw7 (zK hw6 (zK hw5 hw4))
  have hfO:zY n4 (.slice aO E.length E.length):=hgO.fresh
  have hfF:zY n5 (.slice aF f f):=hgF.fresh
  refine zy (α:=Nat×Value×List Value×List Eqn) (fun z=>[(0,.pointer (some ⟨T.bt,0,none⟩)),(6,.pointer (some ⟨3*n+2,0,none⟩)),(7,.pointer (some ⟨3*(n+1)+2,0,none⟩)),(9,.int .i64 (z.1:Int))])
   (fun z h' n' w=>(∀b∈w,b=T.bt)∧n7≤n'∧Tp h' T∧ExtT n T.bt h h'∧(∃e,h' (3*n+2)=some (.row [.slice none 0 0,.int .i64 0,.slice none 0 0,.slice none 0 0,.slice none 0 0] e))∧(∃e,h' (3*(n+1)+2)=some (.row [.slice aB B.length B.length,.int .i64 (f:Int),.slice aO E.length E.length,.slice aF f f,z.2.1] e))∧z.1+z.2.2.2.length=least+i1∧
    Sl h' n' 1 (.slice aB B.length B.length) (i64s B)∧Sl h' n' 4 (.slice aO E.length E.length) (ents E)∧Sl h' n' 1 (.slice aF f f) (strs S)∧Gro h' n7 n' 58 3 z.2.1 z.2.2.2.length z.2.2.1∧EqR h' n' z.2.2.1 z.2.2.2∧(∀v∈z.2.2.1,Pt (fun b=>3*n7≤b) v)∧(∀v∈z.2.2.1,∀b o l c,z.2.1=.slice (some ⟨b,o,none⟩) l c→Pt (fun b'=>b'≠b) v)∧
    (∀q∈z.2.2.2,EOk B q.es B.length 0 0∧q.es.length≤256∧q.fr.length=f∧(∀s∈q.fr,xY 2 s)∧xY 4 q.rhs)) (fun z=>z.1)
   (least+i1,.slice none 0 0,[],[]) ⟨rfl,rfl,rfl,by show Value.int .i64 _=Value.int .i64 _;congr 1,trivial⟩ ⟨hw7',Nat.le_refl _,ht7,hxx7,hr7,hp7,rfl,hgB7.sl,hgO7.sl,hgF7.sl,.nil,.nil,fun v hv=>absurd hv List.not_mem_nil,fun v hv=>absurd hv List.not_mem_nil,fun q hq=>absurd hq List.not_mem_nil⟩ (by show least+i1<LL;unfold LL;omega) ?_
  rintro ⟨i,vE,ce,qs⟩ t h8 n8 w8 ⟨hw8,hn8,ht8,hx8,hr8,⟨e8,hp8⟩,hi8,hB8,hO8,hF8,hgE,hEq,hPt,hPt2,hq8⟩
  simp only at hp8 hi8 hgE hEq hPt hPt2 hq8
  obtain ⟨aE,rfl,hceL⟩:=hgE.shape
  have hfE:zY n7 (.slice aE qs.length qs.length):=hgE.fresh
  refine zN ?_
  cases i with
  |zero=>
   repeat refine zR ?_
   refine zN ?_
   rw [za rfl]
   refine zN ?_
   refine zI (v:=.agg #[.slice aB B.length B.length,.int .i64 (f:Int),.slice aO E.length E.length,.slice aF f f,.slice aE qs.length qs.length]) R5 (zn R2 hp8 rfl zb rfl) ?_
   obtain ⟨er,hr8⟩:=hr8
   refine zp [.slice aB B.length B.length,.int .i64 (f:Int),.slice aO E.length E.length,.slice aF f f,.slice aE qs.length qs.length] R7 rfl hr8 rfl (by show 3*n≤3*n+2;omega) ?_
   refine zN ?_
   refine yx R5 (ze _ _ _) rfl ⟨⟨hw8,by show n≤n8;omega,ht8.upd zo,fun b hb hne=>(zh zo).trans (hx8 b hb hne)⟩,⟨B,f,E,S,qs⟩,_,_,_,_,rfl,⟨hB8.old (m:=n+2) hfB zo,hO8.old (m:=n4) hfO zo,hF8.old (m:=n5) hfF zo,ce,hgE.sl.old (m:=n7) hfE zo,hEq.mapS fun v hv sz c hs=>hs.keep (fun a l c' e=>zh (by have:=hPt v hv a l c' e;omega)) (Nat.le_refl _)⟩,?_,hfB.mono zo,hfO.mono zo,hfF.mono zo,hfE.mono zo⟩
   exact ⟨by show 1≤B.length∧B.length≤2;omega,hB3,by show f≤F;omega,hE,hEl,hSl,hSs,by show least≤qs.length∧qs.length≤4;omega,hq8⟩
  |succ i=>
   repeat refine zR ?_
   refine zN ?_
   rw [zc rfl]
   refine zN ?_
   refine yK [0,1,0,0,8,28,0,0,128,508,0,2044,4092,8188,16380,32767,65535,131071] rfl ?_
   repeat refine zE ?_
   refine zC R6 (zG rfl hp8 R2) R2 ?_
   repeat refine zE ?_
   refine zC R6 (zG rfl hp8 R2) R2 ?_
   refine vq (bt:=T.bt) _ R7 (uk k ⟨zo,fun d hd=>by have:=hB3 d hd;omega⟩ ht8 zo hB8 (fun x hx=>by subst hx;have:3*(n+2)≤x.block:=hfB;omega)) (fun v h' n' W hp=>⟨hp.1.w,hp.1.le⟩) (by simp;omega) ?_
   rintro v9 h9 n9 w9 ⟨⟨hw9,hn9,ht9,hx9⟩,E9,hE9,hEl9,hg9⟩
   obtain ⟨a9,rfl,_⟩:=hg9.shape
   repeat refine zE ?_
   refine zC R6 (zG rfl hp8 R2) ⟨(rU (b:=3*(n+1)+2) (bt:=T.bt) zo (by simp;exact hw9)),rfl⟩ ?_
   refine vq (bt:=T.bt) _ R7 (uV k (N:=f) zo ht9 zo) (fun v h' n' W hp=>⟨hp.1.w,hp.1.le⟩) (by simp;omega) ?_
   rintro v10 h10 n10 w10 ⟨⟨hw10,hn10,ht10,hx10⟩,S10,hSl10,hSs10,hg10⟩
   obtain ⟨a10,rfl,_⟩:=hg10.shape
   repeat refine zE ?_
   refine vq (bt:=T.bt) _ R7 (uo (k+1) (K:=4) zo ht10 zo) (fun v h' n' W hp=>⟨hp.1,hp.2.1⟩) (by simp;omega) ?_
   rintro _ h11 n11 w11 ⟨hw11,hn11,ht11,hx11,m1,m2,ln,y,rfl,hq11,hy0,hy1,hf11,hln⟩
   refine vq (bt:=T.bt) _ R7 (us (k+1) hq11 (by simp;omega)) (fun v h' n' W hp=>⟨by rw [hp.2.2.1];exact fun b hb=>absurd hb List.not_mem_nil,by rw [hp.2.1];exact Nat.le_refl _⟩) (by simp;omega) ?_
   rintro _ h12 n12 w12 ⟨e12,e12',rfl,rfl⟩
   subst e12 e12'
   refine zP (v:=.agg #[.slice a9 E9.length E9.length,.slice a10 f f,.string ⟨⟨ratT ((y:Int):Rat)⟩⟩]) rfl rfl rfl rfl rfl ?_
   refine s6 (cs:=[.slice a9 E9.length E9.length,.slice a10 f f,.string ⟨⟨ratT ((y:Int):Rat)⟩⟩]) R5 ?_
   have hkk:∀b,b<3*n8→b≠T.bt→upd h12 (3*n12+2) (some (.row [.slice a9 E9.length E9.length,.slice a10 f f,.string ⟨⟨ratT ((y:Int):Rat)⟩⟩] 58)) b=h8 b:=fun b hb hne=>by rw [zh zo,hx11 b zo hne,hx10 b zo hne,hx9 b hb hne]
   have hgE2:=(((hgE.extT hx9 zo hn9).extT hx10 zo hn10).extT hx11 zo hn11).ext (Ext.upd (b:=3*n12+2) (x:=some (.row [.slice a9 E9.length E9.length,.slice a10 f f,.string ⟨⟨ratT ((y:Int):Rat)⟩⟩] 58)) zo) (Nat.le_succ n12)
   refine tx (mm:=1) R8 zd R3 hgE2 (yc (ze _ _ _) R2) (Nat.le_refl _) zo rfl rfl (by show n≤n7∧_;omega) ?_
   intro v15 h15 W15 hg15 hx15 hk15 hf15
   obtain ⟨a15,rfl,_⟩:=hg15.shape
   repeat refine zE ?_
   have hp15:h15 (3*(n+1)+2)=some (.row [.slice aB B.length B.length,.int .i64 (f:Int),.slice aO E.length E.length,.slice aF f f,.slice aE qs.length qs.length] e8):=by rw [hx15 _ zo,hkk _ zo zo];exact hp8
   refine yN (cs:=[.slice a15 (qs.length+1) (qs.length+1)]) R8 hp15 zb (by show 3*n≤3*(n+1)+2;omega) R3 ?_
   refine zN ?_
   repeat refine zR ?_
   refine zN ?_
   have hbE:Below n8 (.slice aE qs.length qs.length):=hgE.below
   have hbB:Below n7 (.slice aB B.length B.length):=hgB7.below
   have hbO:Below n7 (.slice aO E.length E.length):=hgO7.below
   have hbF:Below n7 (.slice aF f f):=hgF7.below
   have hb9:Below n9 (.slice a9 E9.length E9.length):=hg9.below
   have hb10:Below n10 (.slice a10 f f):=hg10.below
   have hf9:zY n8 (.slice a9 E9.length E9.length):=hg9.fresh
   have hf10:zY n9 (.slice a10 f f):=hg10.fresh
   have neE:∀b,(b<3*n7∨3*n8≤b)→∀o l c,Value.slice aE qs.length qs.length≠.slice (some ⟨b,o,none⟩) l c:=fun b hb o l c e=>by
    injection e with e1
    subst e1
    have h1:b<3*n8:=hbE
    have h2:3*n7≤b:=hfE
    omega
   have hlow:∀{x:Option BF} b,b<3*n7→b≠T.bt→b≠3*(n+1)+2→upd h15 (3*(n+1)+2) x b=h8 b:=fun b hb h1 h2=>(zh h2).trans ((hx15 b hb).trans (hkk b zo h1))
   have hold:∀{x:Option BF} {sz:Nat} {v:Value} {c:List Value},Sl h8 n8 sz v c→Below n7 v→zY (n+2) v→Sl (upd h15 (3*(n+1)+2) x) (n12+1+1) sz v c:=fun hs hb hf=>hs.keep (fun a l c e=>by
    subst e
    have h1:a.block<3*n7:=hb
    have h2:3*(n+2)≤a.block:=hf
    exact hlow _ h1 zo zo) zo
   have hnew:∀{x:Option BF} {sz:Nat} {v:Value} {c:List Value} {hh:HF} {m m':Nat},Sl hh m' sz v c→zY m v→n8≤m→m'≤n12→(∀b,3*m≤b→b<3*m'→h12 b=hh b)→Sl (upd h15 (3*(n+1)+2) x) (n12+1+1) sz v c:=fun hs hf hm hm' hk=>hs.keep (fun a l c e=>by
    subst e
    have h2:3*_≤a.block:=hf
    have h1:a.block<3*_:=hs.below
    refine (zh zo).trans ((hk15 _ zo (neE _ (.inr zo))).trans ((zh zo).trans (hk _ h2 h1)))) zo
   have hs9:∀{x:Option BF},Sl (upd h15 (3*(n+1)+2) x) (n12+1+1) 4 (.slice a9 E9.length E9.length) (ents E9):=hnew hg9.sl hf9 (Nat.le_refl _) zo fun b h1 h2=>by rw [hx11 b zo zo,hx10 b zo zo]
   have hs10:∀{x:Option BF},Sl (upd h15 (3*(n+1)+2) x) (n12+1+1) 1 (.slice a10 f f) (strs S10):=hnew hg10.sl hf10 hn9 zo fun b h1 h2=>by rw [hx11 b zo zo]
   have hceb:=hEq.belows
   refine goOn (i,.slice a15 (qs.length+1) (qs.length+1),ce++[.slice a9 E9.length E9.length,.slice a10 f f,.string ⟨⟨ratT ((y:Int):Rat)⟩⟩],qs++[⟨E9,S10,ratT ((y:Int):Rat)⟩]) (by show i<i+1;omega) ⟨rfl,rfl,rfl,by show Value.int .i64 _=Value.int .i64 _;congr 1;omega,trivial⟩ ⟨?_,by show n7≤n12+1+1;omega,?_,?_,?_,⟨e8,ze _ _ _⟩,by show i+(qs++[_]).length=_;simp;omega,hold hB8 hbB hfB,hold hO8 hbO (hfO.mono zo),hold hF8 hbF (hfF.mono zo),?_,?_,?_,?_,?_⟩
   ·have hw0:∀b∈([]:List Nat),b=T.bt:=fun b hb=>absurd hb List.not_mem_nil
    first|exact zK hw0 (zK hw11 (zK hw10 (zK hw9 hw8)))|exact zK hw0 (zK hw0 (zK hw11 (zK hw10 (zK hw9 hw8))))
   ·exact ((ht11.upd zo).ext hx15 zo).upd zo
   ·exact fun b hb hne=>(hlow b zo hne zo).trans (hx8 b hb hne)
   ·obtain ⟨er,hr8⟩:=hr8
    exact ⟨er,(hlow _ zo zo zo).trans hr8⟩
   ·show Gro _ _ _ _ _ _ (qs++[_]).length _
    rw [List.length_append]
    exact hg15.extT (bt:=3*(n+1)+2) (fun b hb hne=>zh hne) zo (Nat.le_refl _)
   ·refine EqR.snoc (q:=⟨E9,S10,ratT ((y:Int):Rat)⟩) (hEq.mapS fun v hv sz c hs=>hs.keep (fun a l c' e=>?_) (by show n8≤n12+1+1;omega)) hs9 hs10
    have h1:=hceb v hv a l c' e
    have h2:=hPt v hv a l c' e
    refine (zh zo).trans ((hk15 _ zo fun o l2 c2 ee=>?_).trans (hkk _ h1 zo))
    exact hPt2 v hv _ _ _ _ ee a l c' e rfl
   ·intro v hv
    rcases List.mem_append.1 hv with hv|hv
    ·exact hPt v hv
    simp only [List.mem_cons,List.not_mem_nil,or_false] at hv
    rcases hv with rfl|rfl|rfl
    ·exact fun a l c e=>by have:=Pt.of_fresh hf9 a l c e;omega
    ·exact fun a l c e=>by have:=Pt.of_fresh hf10 a l c e;omega
    exact fun a l c e=>by cases e
   ·intro v hv b o l c ee a l' c' e
    simp only at ee
    have hbb:3*(n12+1)≤b:=by
     have:3*(n12+1)≤_:=Pt.of_fresh hf15 _ _ _ ee
     exact this
    rcases List.mem_append.1 hv with hv|hv
    ·have:=hceb v hv a l' c' e;omega
    simp only [List.mem_cons,List.not_mem_nil,or_false] at hv
    rcases hv with rfl|rfl|rfl
    ·have:=Pt.of_below hb9 a l' c' e;omega
    ·have:=Pt.of_below hb10 a l' c' e;omega
    cases e
   intro q hq
   rcases List.mem_append.1 hq with hq|hq
   ·exact hq8 q hq
   simp at hq;subst hq
   exact ⟨hE9,hEl9,hSl10,hSs10,y,hy0,hy1,rfl⟩
end
section
variable {len:Nat}
theorem wD (x:Int):ratT (x:Rat)=(if x<0 then [45] else [])++decT x.natAbs:=by
 unfold ratT
 rw [Rat.num_intCast,Rat.den_intCast,if_pos rfl,List.append_nil]
theorem zu (h:0<d∧d<10):decT d=[UInt8.ofNat (48+d)]:=by
 unfold decT decB
 rw [if_neg zo,xU zo,Nat.div_eq_of_lt h.2,yC,Nat.mod_eq_of_lt h.2]
 rfl
theorem uv {s:List UInt8}{K:Int}(hK:K≤4)(h:xY K s):GK.isSmall s=true:=by
 obtain ⟨x,h1,h2,rfl⟩:=h
 rw [wD]
 have hx:x= -4∨x= -3∨x= -2∨x= -1∨x=0∨x=1∨x=2∨x=3∨x=4:=zo
 rcases hx with rfl|rfl|rfl|rfl|rfl|rfl|rfl|rfl|rfl<;>first
  |(rw [show decT (Int.natAbs 0)=[48] from rfl];rfl)
  |(rw [show Int.natAbs (-4)=4 from rfl,zu zo];decide)
  |(rw [show Int.natAbs (-3)=3 from rfl,zu zo];decide)
  |(rw [show Int.natAbs (-2)=2 from rfl,zu zo];decide)
  |(rw [show Int.natAbs (-1)=1 from rfl,zu zo];decide)
  |(rw [show Int.natAbs 1=1 from rfl,zu zo];decide)
  |(rw [show Int.natAbs 2=2 from rfl,zu zo];decide)
  |(rw [show Int.natAbs 3=3 from rfl,zu zo];decide)
  |(rw [show Int.natAbs 4=4 from rfl,zu zo];decide)
theorem qo {x:Int}(h1: -4≤x∧x≤4)(h0:x≠0):ratT (x:Rat)≠[48]:=by
 rw [wD]
 have hx:x= -4∨x= -3∨x= -2∨x= -1∨x=1∨x=2∨x=3∨x=4:=zo
 rcases hx with rfl|rfl|rfl|rfl|rfl|rfl|rfl|rfl<;>first
  |(rw [show Int.natAbs (-4)=4 from rfl,zu zo];decide)
  |(rw [show Int.natAbs (-3)=3 from rfl,zu zo];decide)
  |(rw [show Int.natAbs (-2)=2 from rfl,zu zo];decide)
  |(rw [show Int.natAbs (-1)=1 from rfl,zu zo];decide)
  |(rw [show Int.natAbs 1=1 from rfl,zu zo];decide)
  |(rw [show Int.natAbs 2=2 from rfl,zu zo];decide)
  |(rw [show Int.natAbs 3=3 from rfl,zu zo];decide)
  |(rw [show Int.natAbs 4=4 from rfl,zu zo];decide)
theorem yE (k:Nat)(hG:GK.G h)(n:Nat){s:List UInt8}(hs:GK.isSmall s=true):VF (cal (k+1)) 34 [.string ⟨⟨s⟩⟩] h n fun v=>v=.bool true:=
 ⟨_,_,_,_,pP k hG n hs,rfl,rfl,rfl,rfl⟩
theorem tE (k:Nat)(h:HF)(n:Nat)(e f:Ent):VF (cal (k+1)) 57 [.agg (entC e).toArray,.agg (entC f).toArray] h n fun v=>∃b:Bool,v=.bool b∧(b=true↔ltE e f):=by
 refine z1 (fn:=Tryz.f57) R4 ?_
 refine zN ?_
 refine yv (cs:=entC e) R5 ?_
 refine yv (cs:=entC f) R5 ?_
 generalize hh:upd (upd h (3*n+2) _) (3*(n+1)+2) _=h1
 have he:∃ty,h1 (3*n+2)=some (.row (entC e) ty):=⟨_,by rw [←hh,zh zo,ze]⟩
 have hf:∃ty,h1 (3*(n+1)+2)=some (.row (entC f) ty):=⟨_,by rw [←hh,ze]⟩
 obtain ⟨t1,he⟩:=he
 obtain ⟨t2,hf⟩:=hf
 repeat refine zR ?_
 refine zN ?_
 repeat refine zR ?_
 refine zg R6 he (v:=.int .i64 e.b) R2 ?_
 repeat refine zR ?_
 refine zg R6 hf (v:=.int .i64 f.b) R2 ?_
 by_cases hb:e.b=f.b
 ·repeat refine zR ?_
  refine zN ?_
  rw [za rfl]
  refine zN ?_
  repeat refine zR ?_
  refine zg R6 he (v:=.int .i64 e.r) R2 ?_
  repeat refine zR ?_
  refine zg R6 hf (v:=.int .i64 f.r) R2 ?_
  by_cases hr:e.r=f.r
  ·repeat refine zR ?_
   refine zN ?_
   rw [za rfl]
   refine zN ?_
   repeat refine zR ?_
   refine zg R6 he (v:=.int .i64 e.c) R2 ?_
   repeat refine zR ?_
   refine zg R6 hf (v:=.int .i64 f.c) R2 ?_
   refine tR R6 ?_
   repeat refine zR ?_
   refine zN ?_
   exact retF _ rfl (zl rfl) R2 ⟨_,rfl,by rw [decide_eq_true_eq];unfold ltE ltP;omega⟩
  repeat refine zR ?_
  refine zN ?_
  rw [zc rfl]
  refine zN ?_
  repeat refine zR ?_
  refine zg R6 he (v:=.int .i64 e.r) R2 ?_
  repeat refine zR ?_
  refine zg R6 hf (v:=.int .i64 f.r) R2 ?_
  refine tR R6 ?_
  repeat refine zR ?_
  refine zN ?_
  exact retF _ rfl (zl rfl) R2 ⟨_,rfl,by rw [decide_eq_true_eq];unfold ltE ltP;omega⟩
 repeat refine zR ?_
 refine zN ?_
 rw [zc rfl]
 refine zN ?_
 repeat refine zR ?_
 refine zg R6 he (v:=.int .i64 e.b) R2 ?_
 repeat refine zR ?_
 refine zg R6 hf (v:=.int .i64 f.b) R2 ?_
 refine tR R6 ?_
 repeat refine zR ?_
 refine zN ?_
 exact retF _ rfl (zl rfl) R2 ⟨_,rfl,by rw [decide_eq_true_eq];unfold ltE ltP;omega⟩
theorem ue (k:Nat)(hG:GK.G h){a:Option Addr}{S:List (List UInt8)}(hn:20≤n)(hs:Sl h n 1 (.slice a len cap) (strs S))(hS:∀s∈S,GK.isSmall s=true)(hb:S.length<1000000):VF (cal (k+2)) 33 [.slice a len cap] h n fun v=>v=.bool true:=by
 refine z1 (fn:=Tryz.f33) R4 ?_
 have hl:len=S.length:=by
  obtain ⟨a',len',cap',e,hl⟩:=hs.len
  injection e with e1 e2 e3
  rw [yT] at hl
  omega
 subst hl
 refine zN ?_
 repeat refine zR ?_
 refine zN ?_
 repeat refine zR ?_
 refine zN ?_
 refine zy (α:=Nat) (fun j=>[(5,.slice a S.length cap),(6,.int .i64 (S.length:Int)),(7,.int .i64 (j:Int))]) (fun j h' n' w=>h=h'∧n=n'∧w=[]∧j≤S.length) (fun j=>S.length-j) 0 ⟨rfl,rfl,rfl,trivial⟩ ⟨rfl,rfl,rfl,Nat.zero_le _⟩ (by show S.length-0<LL;unfold LL;omega) ?_
 rintro j t _ _ _ ⟨rfl,rfl,rfl,hj⟩
 refine zN ?_
 by_cases hjS:j=S.length
 ·repeat refine zR ?_
  refine zN ?_
  rw [za rfl]
  refine zN ?_
  repeat refine zR ?_
  refine zN ?_
  exact retF _ rfl (zl rfl) R2 rfl
 obtain ⟨s,hs'⟩:∃s,S[j]?=some s:=⟨S[j]'zo,List.getElem?_eq_getElem zo⟩
 obtain ⟨b,off,x,cs,rfl,hb3,hx,hc,hcap,hle,he⟩:=hs.inv zo
 have hcell:cs[off+j]?=some (.string ⟨⟨s⟩⟩):=yk he (by rw [strs,List.getElem?_map,hs'];rfl)
 repeat refine zR ?_
 refine zN ?_
 rw [zc rfl]
 refine zN ?_
 refine yh R8 zo ?_
 refine zg R6 hx (v:=.string ⟨⟨s⟩⟩) ⟨hc,(by rw [←hcell];congr 1;omega)⟩ ?_
 repeat refine zR ?_
 refine zN ?_
 repeat refine zR ?_
 refine z8 _ R5 (yE k hG _ (hS s (List.mem_of_getElem? hs'))) ?_
 rintro _ rfl
 repeat refine zR ?_
 refine zN ?_
 rw [za rfl]
 refine zN ?_
 repeat refine zR ?_
 refine zN ?_
 exact goOn (j+1) (by show S.length-(j+1)<S.length-j;omega) ⟨rfl,rfl,by show Value.int .i64 _=Value.int .i64 _;congr 1,trivial⟩ ⟨rfl,rfl,rfl,by show j+1≤S.length;omega⟩
end
section
theorem px:∀{E:List Ent} {j:Nat} {e:Ent},E[j]?=some e→((ents E).drop (j*4)).take 4=entC e:=by
 intro E
 induction E with
 |nil=>intro j e h;simp at h
 |cons x E ih=>
  intro j e h
  cases j with
  |zero=>
   simp at h;subst h
   rfl
  |succ j=>
   have:=ih (j:=j) (e:=e) (by simpa using h)
   rw [show (j+1)*4=(entC x).length+j*4 from by simp [entC];omega]
   show ((entC x++ents E).drop _).take 4=_
   rw [←List.drop_drop,List.drop_left' rfl]
   exact this
theorem tN {cs cells:List Value}{off m j k:Nat}(he:(cs.drop off).take m=cells)(hj:j+k≤m):(cs.drop (off+j)).take k=(cells.drop j).take k:=by
 rw [←he,List.drop_take,List.take_take,List.drop_drop,Nat.min_eq_left zo]
theorem wp (k:Nat){h:HF}(hG:GK.G h){n:Nat}{aE aB:Option Addr}{lE cE lB cB:Nat}{E:List Ent}{B:List Int}(hn:20≤n)(hE:Sl h n 4 (.slice aE lE cE) (ents E))(hB:Sl h n 1 (.slice aB lB cB) (i64s B))(hok:∀e∈E,EntOk B e)(hasc:E.Pairwise ltE)(hb:E.length<1000000∧B.length<1000000):VF (cal (k+2)) 32 [.slice aE lE cE,.slice aB lB cB] h n fun v=>v=.bool true:=by
 refine z1 (fn:=Tryz.f32) R4 ?_
 have hlE:lE=E.length:=by
  obtain ⟨a',len',cap',e,hl⟩:=hE.len
  injection e with e1 e2 e3
  rw [uJ] at hl
  omega
 have hlB:lB=B.length:=by
  obtain ⟨a',len',cap',e,hl⟩:=hB.len
  injection e with e1 e2 e3
  simp [i64s] at hl
  omega
 subst hlE hlB
 refine zN ?_
 repeat refine zR ?_
 refine zN ?_
 repeat refine zR ?_
 refine zN ?_
 refine zy (α:=Nat) (fun j=>[(0,.slice aE E.length cE),(1,.slice aB B.length cB),(7,.slice aE E.length cE),(8,.int .i64 (E.length:Int)),(9,.int .i64 (j:Int))]) (fun j h' n' w=>Ext n h h'∧n≤n'∧w=[]∧j≤E.length) (fun j=>E.length-j) 0 ⟨rfl,rfl,rfl,rfl,rfl,trivial⟩ ⟨Ext.refl _ _,Nat.le_refl _,rfl,Nat.zero_le _⟩ (by show E.length-0<LL;unfold LL;omega) ?_
 rintro j t h1 n1 _ ⟨hx1,hn1,rfl,hj⟩
 refine zN ?_
 by_cases hjE:j=E.length
 ·repeat refine zR ?_
  refine zN ?_
  rw [za rfl]
  refine zN ?_
  repeat refine zR ?_
  refine zN ?_
  exact retF _ rfl (zl rfl) R2 rfl
 obtain ⟨e,he'⟩:∃e,E[j]?=some e:=⟨E[j]'zo,List.getElem?_eq_getElem zo⟩
 obtain ⟨hb1,hrc,hcc,y,hy0,hy1,hyn,hyv⟩:=hok e (List.mem_of_getElem? he')
 obtain ⟨bE,oE,xE,csE,rfl,hbE,hxE,hcE,hcapE,hleE,heE⟩:=hE.inv zo
 obtain ⟨bB,oB,xB,csB,rfl,hbB,hxB,hcB,hcapB,hleB,heB⟩:=hB.inv zo
 have hcell:(csE.drop (oE+j*4)).take 4=entC e:=by rw [tN heE zo,px he']
 have hxE1:h1 bE=some xE:=by rw [hx1 bE hbE];exact hxE
 have hxB1:h1 bB=some xB:=by rw [hx1 bB hbB];exact hxB
 repeat refine zR ?_
 refine zN ?_
 rw [zc rfl]
 refine zN ?_
 repeat refine zR ?_
 refine yh R8 zo ?_
 refine zI (v:=.agg (entC e).toArray) R5 (zn R2 hxE1 hcE zo (by rw [←hcell];congr 2<;>omega)) ?_
 refine zF R5 ?_
 repeat refine zR ?_
 refine zp (entC e) R7 rfl (ze _ _ _) rfl (by show 3*n≤3*n1+2;omega) ?_
 rw [ys]
 generalize hh:upd h1 (3*n1+2) _=h2
 have hp2:∃ty,h2 (3*n1+2)=some (.row (entC e) ty):=⟨_,by rw [←hh,ze]⟩
 obtain ⟨ty2,hp2⟩:=hp2
 have hx2:Ext n1 h1 h2:=by rw [←hh];exact Ext.upd zo
 have hxE2:h2 bE=some xE:=by rw [hx2 bE zo];exact hxE1
 have hxB2:h2 bB=some xB:=by rw [hx2 bB zo];exact hxB1
 have hG2:GK.G h2:=qn hG (hx1.trans hx2 hn1) hn
 obtain ⟨dd,hdd⟩:∃d,B[e.b.toNat]?=some d:=⟨B[e.b.toNat]'zo,List.getElem?_eq_getElem zo⟩
 have hcd:=hcc dd hdd
 have hcellB:csB[oB+e.b.toNat]?=some (.int .i64 dd):=yk heB (by rw [i64s,List.getElem?_map,hdd];rfl)
 refine zN ?_
 rw [wK rfl]
 repeat refine zR ?_
 refine zg R6 hp2 (v:=.int .i64 e.b) R2 ?_
 repeat refine zR ?_
 refine zg R6 hp2 (v:=.int .i64 e.b) R2 ?_
 repeat refine zR ?_
 refine zg R6 hp2 (v:=.int .i64 e.r) R2 ?_
 repeat refine zR ?_
 refine zg R6 hp2 (v:=.int .i64 e.r) R2 ?_
 repeat refine zR ?_
 refine zg R6 hp2 (v:=.int .i64 e.c) R2 ?_
 repeat refine zR ?_
 refine zg R6 hp2 (v:=.int .i64 e.c) R2 ?_
 repeat refine zR ?_
 refine zg R6 hp2 (v:=.int .i64 e.b) R2 ?_
 refine yh R8 zo ?_
 refine zg R6 hxB2 (v:=.int .i64 dd) ⟨hcB,(by rw [←hcellB];congr 1;omega)⟩ ?_
 repeat refine zR ?_
 refine zN ?_
 rw [za rfl]
 refine zN ?_
 refine yK [0,1,3,7,7,23,63,127,7,511,1023,2047,4095,8191,16383,32767,65535,131071,262143,524287,1048575,2097151,4194303] rfl ?_
 have hsm:GK.isSmall e.v=true:=uv (K:=2) zo ⟨y,hy0,hy1,hyv⟩
 have hnz:(e.v==[48])=false:=by
  rw [hyv]
  simpa using qo zo hyn
 have tail:∀(Q:SV→Prop) (t:TF),True:=fun _ _=>trivial
 by_cases hj0:j=0
 ·repeat refine zD ?_
  refine zC R6 (zG rfl hp2 (v:=.string ⟨⟨e.v⟩⟩) R2) R2 ?_
  refine mT _ R7 (yE k hG2 _ hsm) ?_
  rintro _ rfl
  repeat refine zD ?_
  refine zC R6 (zG rfl hp2 (v:=.string ⟨⟨e.v⟩⟩) R2) ⟨(yz (by simp)),rfl⟩ ?_
  refine zP (v:=.bool false) rfl rfl rfl rfl (by show some (Value.bool (e.v==[48]))=_;rw [hnz]) ?_
  repeat refine zD ?_
  refine zN ?_
  rw [za rfl]
  refine zN ?_
  repeat refine zR ?_
  refine zN ?_
  exact goOn (j+1) (by show E.length-(j+1)<E.length-j;omega) ⟨rfl,rfl,rfl,rfl,by show Value.int .i64 _=Value.int .i64 _;congr 1,trivial⟩ ⟨hx1.trans hx2 hn1,by show n≤n1+1;omega,rfl,by show j+1≤E.length;omega⟩
 obtain ⟨f,hf'⟩:∃f,E[j-1]?=some f:=⟨E[j-1]'zo,List.getElem?_eq_getElem zo⟩
 have hlt:ltE f e:=by
  obtain ⟨p1,q1⟩:=List.getElem?_eq_some_iff.1 hf'
  obtain ⟨p2,q2⟩:=List.getElem?_eq_some_iff.1 he'
  have:=List.pairwise_iff_getElem.1 hasc (j-1) j p1 p2 zo
  rw [q1,q2] at this
  exact this
 have hcellf:(csE.drop (oE+(j-1)*4)).take 4=entC f:=by rw [tN heE zo,px hf']
 repeat refine zD ?_
 refine vr R8 zo ?_
 refine zC (v:=.agg (entC f).toArray) R6 (zn R2 hxE2 hcE zo (by rw [←hcellf];congr 2<;>omega)) R2 ?_
 refine zC (v:=.agg (entC e).toArray) R6 (zn R2 hp2 rfl zb rfl) R2 ?_
 refine mT _ R7 (tE k h2 (n1+1) f e) ?_
 rintro _ ⟨b,rfl,hbb⟩
 have:b=true:=hbb.2 hlt
 subst this
 repeat refine zD ?_
 refine zC R6 (zG rfl hp2 (v:=.string ⟨⟨e.v⟩⟩) R2) ⟨(yz (by simp)),rfl⟩ ?_
 refine mT _ R7 (yE k hG2 _ hsm) ?_
 rintro _ rfl
 repeat refine zD ?_
 refine zC R6 (zG rfl hp2 (v:=.string ⟨⟨e.v⟩⟩) R2) ⟨(yz (by simp)),rfl⟩ ?_
 refine zP (v:=.bool false) rfl rfl rfl rfl (by show some (Value.bool (e.v==[48]))=_;rw [hnz]) ?_
 repeat refine zD ?_
 refine zN ?_
 rw [za rfl]
 refine zN ?_
 repeat refine zR ?_
 refine zN ?_
 exact goOn (j+1) (by show E.length-(j+1)<E.length-j;omega) ⟨rfl,rfl,rfl,rfl,by show Value.int .i64 _=Value.int .i64 _;congr 1,trivial⟩ ⟨hx1.trans hx2 hn1,by show n≤n1+1;omega,rfl,by show j+1≤E.length;omega⟩
end
section
variable {len:Nat}{qs:List Eqn}
theorem EqR.get (e:EqR h n ce qs):∀{j:Nat} {q:Eqn},qs[j]?=some q→∃ve vf,(ce.drop (j*3)).take 3=[ve,vf,.string ⟨⟨q.rhs⟩⟩]∧Sl h n 4 ve (ents q.es)∧Sl h n 1 vf (strs q.fr):=by
 induction e with
 |nil=>intro j q hq;simp at hq
 |cons h1 h2 h3 ih=>
  intro j q hq
  cases j with
  |zero=>simp at hq;subst hq;exact ⟨_,_,rfl,h1,h2⟩
  |succ j=>
   obtain ⟨ve,vf,g1,g2,g3⟩:=ih (j:=j) (q:=q) (by simpa using hq)
   refine ⟨ve,vf,?_,g2,g3⟩
   rw [←g1,show (j+1)*3=3+j*3 from zo,←List.drop_drop]
   rfl
theorem Sl.lenEq {a:Option Addr}(s:Sl h n sz (.slice a len cap) c)(hsz:0<sz)(hc:c.length=m*sz):len=m:=by
 obtain ⟨a',len',cap',e,hl⟩:=s.len
 injection e with e1 e2 e3
 subst e2
 exact Nat.eq_of_mul_eq_mul_right hsz (hl.symm.trans hc)
theorem oo (k:Nat)(hG:GK.G h){p:Sdp}{F least:Nat}(hF:F≤100)(hn:20≤n)(hp:SdpR h n vB vO vF vE p)(hok:SdpOk F least p):VF (cal (k+3)) 18 [.agg #[vB,.int .i64 (p.free:Int),vO,vF,vE]] h n fun v=>v=.bool true:=by
 refine z1 (fn:=Tryz.f18) R4 ?_
 obtain ⟨hB,hO,hFr,ce,hE,hEq⟩:=hp
 obtain ⟨aB,lB,cB,rfl,_⟩:=hB.len
 obtain ⟨aO,lO,cO,rfl,_⟩:=hO.len
 obtain ⟨aF,lF,cF,rfl,_⟩:=hFr.len
 obtain ⟨aE,lE,cE,rfl,_⟩:=hE.len
 have hlB:=hB.lenEq (m:=p.blocks.length) zo (by simp [i64s])
 have hlO:=hO.lenEq (m:=p.obj.length) zo (uJ _)
 have hlF:=hFr.lenEq (m:=p.objFree.length) zo (by simp [strs])
 have hlE:=hE.lenEq (m:=p.eqs.length) zo hEq.len
 subst hlB hlO hlF hlE
 have hbl:=hok.bl
 have hfr:=hok.free
 have hofl:=hok.ofl
 have heql:=hok.eql
 refine zN ?_
 refine yv (cs:=[.slice aB p.blocks.length cB,.int .i64 (p.free:Int),.slice aO p.obj.length cO,.slice aF p.objFree.length cF,.slice aE p.eqs.length cE]) R5 ?_
 generalize hh:upd h (3*n+2) _=h1
 have hx1:Ext n h h1:=by rw [←hh];exact Ext.upd zo
 have hr1:∃ty,h1 (3*n+2)=some (.row [.slice aB p.blocks.length cB,.int .i64 (p.free:Int),.slice aO p.obj.length cO,.slice aF p.objFree.length cF,.slice aE p.eqs.length cE] ty):=⟨_,by rw [←hh,ze]⟩
 obtain ⟨ty1,hr1⟩:=hr1
 have hG1:GK.G h1:=qn hG hx1 hn
 repeat refine zR ?_
 refine zN ?_
 repeat refine zR ?_
 refine zg R6 hr1 (v:=.slice aB p.blocks.length cB) R2 ?_
 repeat refine zR ?_
 refine zg R6 hr1 (v:=.slice aB p.blocks.length cB) R2 ?_
 repeat refine zR ?_
 refine zg R6 hr1 (v:=.int .i64 (p.free:Int)) R2 ?_
 repeat refine zR ?_
 refine zg R6 hr1 (v:=.int .i64 (p.free:Int)) R2 ?_
 repeat refine zR ?_
 refine zg R6 hr1 (v:=.slice aE p.eqs.length cE) R2 ?_
 repeat refine zR ?_
 refine zN ?_
 rw [za rfl]
 refine zN ?_
 repeat refine zR ?_
 refine zg R6 hr1 (v:=.slice aB p.blocks.length cB) R2 ?_
 repeat refine zR ?_
 refine zN ?_
 refine zy (α:=Nat) (fun j=>[(1,.pointer (some ⟨3*n+2,0,none⟩)),(34,.slice aB p.blocks.length cB),(35,.int .i64 (p.blocks.length:Int)),(36,.int .i64 (j:Int))]) (fun j h' n' w=>h1=h'∧n'=n+1∧w=[]∧j≤p.blocks.length) (fun j=>p.blocks.length-j) 0 ⟨rfl,rfl,rfl,rfl,trivial⟩ ⟨rfl,rfl,rfl,Nat.zero_le _⟩ (by show p.blocks.length-0<LL;unfold LL;omega) ?_
 rintro j t _ _ _ ⟨rfl,rfl,rfl,hj⟩
 refine zN ?_
 by_cases hjB:j≠p.blocks.length
 ·obtain ⟨d,hd⟩:∃d,p.blocks[j]?=some d:=⟨p.blocks[j]'zo,List.getElem?_eq_getElem zo⟩
  have hd3:=hok.b3 d (List.mem_of_getElem? hd)
  obtain ⟨bB,oB,xB,csB,rfl,hbB,hxB,hcB,hcapB,hleB,heB⟩:=hB.inv zo
  have hcell:csB[oB+j]?=some (.int .i64 d):=yk heB (by rw [i64s,List.getElem?_map,hd];rfl)
  have hxB1:h1 bB=some xB:=by rw [hx1 bB hbB];exact hxB
  repeat refine zR ?_
  refine zN ?_
  rw [zc rfl]
  refine zN ?_
  refine yh R8 zo ?_
  refine zg R6 hxB1 (v:=.int .i64 d) ⟨hcB,(by rw [←hcell];congr 1;omega)⟩ ?_
  repeat refine zR ?_
  refine zN ?_
  repeat refine zR ?_
  refine zN ?_
  rw [za rfl]
  refine zN ?_
  repeat refine zR ?_
  refine zN ?_
  exact goOn (j+1) (by show p.blocks.length-(j+1)<p.blocks.length-j;omega) ⟨rfl,rfl,rfl,by show Value.int .i64 _=Value.int .i64 _;congr 1,trivial⟩ ⟨rfl,rfl,rfl,by show j+1≤p.blocks.length;omega⟩
 have hjB:j=p.blocks.length:=Classical.not_not.1 hjB
 have hsmall:∀{s:List UInt8},xY 2 s→GK.isSmall s=true:=fun hs=>uv zo hs
 have hB1:=hB.ext hx1 (Nat.le_succ n)
 have hO1:=hO.ext hx1 (Nat.le_succ n)
 have hF1:=hFr.ext hx1 (Nat.le_succ n)
 have hE1:=hE.ext hx1 (Nat.le_succ n)
 have hEq1:=hEq.ext hx1 (Nat.le_succ n)
 repeat refine zR ?_
 refine zN ?_
 rw [za rfl]
 refine zN ?_
 repeat refine zR ?_
 refine zg R6 hr1 (v:=.slice aF p.objFree.length cF) R2 ?_
 repeat refine zR ?_
 refine zg R6 hr1 (v:=.int .i64 (p.free:Int)) R2 ?_
 repeat refine zR ?_
 refine zg R6 hr1 (v:=.slice aO p.obj.length cO) R2 ?_
 repeat refine zR ?_
 refine zg R6 hr1 (v:=.slice aB p.blocks.length cB) R2 ?_
 refine z8 _ R5 (wp k hG1 zo hO1 hB1 hok.obj.ok hok.obj.asc (by have:=hok.objl;omega)) ?_
 rintro _ rfl
 repeat refine zR ?_
 refine zg R6 hr1 (v:=.slice aF p.objFree.length cF) R2 ?_
 refine z8 _ R5 (ue k hG1 zo hF1 (fun s hs=>hsmall (hok.ofs s hs)) zo) ?_
 rintro _ rfl
 repeat refine zR ?_
 refine zN ?_
 rw [za rfl]
 refine zN ?_
 repeat refine zR ?_
 refine zg R6 hr1 (v:=.slice aE p.eqs.length cE) R2 ?_
 repeat refine zR ?_
 refine zN ?_
 refine zy (α:=Nat) (fun j=>[(1,.pointer (some ⟨3*n+2,0,none⟩)),(68,.slice aE p.eqs.length cE),(69,.int .i64 (p.eqs.length:Int)),(70,.int .i64 (j:Int))]) (fun j h' n' w=>Ext (n+1) h1 h'∧n+1≤n'∧w=[]∧j≤p.eqs.length) (fun j=>p.eqs.length-j) 0 ⟨rfl,rfl,rfl,rfl,trivial⟩ ⟨Ext.refl _ _,Nat.le_refl _,rfl,Nat.zero_le _⟩ (by show p.eqs.length-0<LL;unfold LL;omega) ?_
 rintro i t h2 n2 _ ⟨hx2,hn2,rfl,hi⟩
 refine zN ?_
 by_cases hiE:i=p.eqs.length
 ·repeat refine zR ?_
  refine zN ?_
  rw [za rfl]
  refine zN ?_
  repeat refine zR ?_
  refine zN ?_
  exact retF _ rfl (zl rfl) R2 rfl
 obtain ⟨q,hq⟩:∃q,p.eqs[i]?=some q:=⟨p.eqs[i]'zo,List.getElem?_eq_getElem zo⟩
 obtain ⟨q1,q2,q3,q4,q5⟩:=hok.eqo q (List.mem_of_getElem? hq)
 obtain ⟨ve,vf,hce,hve,hvf⟩:=hEq1.get hq
 obtain ⟨ae,le,cce,rfl,_⟩:=hve.len
 obtain ⟨af,lf,ccf,rfl,_⟩:=hvf.len
 have hle:=hve.lenEq (m:=q.es.length) zo (uJ _)
 have hlf:=hvf.lenEq (m:=q.fr.length) zo (by simp [strs])
 subst hle hlf
 obtain ⟨bE,oE,xE,csE,rfl,hbE,hxE,hcE,hcapE,hleE,heE⟩:=hE1.inv zo
 have hcell:(csE.drop (oE+i*3)).take 3=[.slice ae q.es.length cce,.slice af q.fr.length ccf,.string ⟨⟨q.rhs⟩⟩]:=by rw [tN heE zo,hce]
 have hxE2:h2 bE=some xE:=by rw [hx2 bE hbE];exact hxE
 repeat refine zR ?_
 refine zN ?_
 rw [zc rfl]
 refine zN ?_
 refine yh R8 zo ?_
 refine zI (v:=.agg #[.slice ae q.es.length cce,.slice af q.fr.length ccf,.string ⟨⟨q.rhs⟩⟩]) R5 (zn R2 hxE2 hcE zo (by rw [←hcell];congr 2<;>omega)) ?_
 refine zF R5 ?_
 refine zp [.slice ae q.es.length cce,.slice af q.fr.length ccf,.string ⟨⟨q.rhs⟩⟩] R7 rfl (ze _ _ _) rfl (by show 3*n≤3*n2+2;omega) ?_
 rw [ys]
 generalize hh:upd h2 (3*n2+2) _=h3
 have hp3:∃ty,h3 (3*n2+2)=some (.row [.slice ae q.es.length cce,.slice af q.fr.length ccf,.string ⟨⟨q.rhs⟩⟩] ty):=⟨_,by rw [←hh,ze]⟩
 obtain ⟨ty3,hp3⟩:=hp3
 have hx3:Ext n2 h2 h3:=by rw [←hh];exact Ext.upd zo
 have hx13:Ext (n+1) h1 h3:=hx2.trans hx3 hn2
 have hr3:h3 (3*n+2)=some (.row [.slice aB p.blocks.length cB,.int .i64 (p.free:Int),.slice aO p.obj.length cO,.slice aF p.objFree.length cF,.slice (some ⟨bE,oE,none⟩) p.eqs.length cE] ty1):=by rw [hx13 _ zo];exact hr1
 have hG3:GK.G h3:=qn hG1 hx13 zo
 refine zN ?_
 repeat refine zR ?_
 refine zg R6 hp3 (v:=.slice af q.fr.length ccf) R2 ?_
 repeat refine zR ?_
 refine zg R6 hr3 (v:=.int .i64 (p.free:Int)) R2 ?_
 repeat refine zR ?_
 refine zg R6 hp3 (v:=.slice ae q.es.length cce) R2 ?_
 repeat refine zR ?_
 refine zg R6 hr3 (v:=.slice aB p.blocks.length cB) R2 ?_
 refine z8 _ R5 (wp k hG3 zo (hve.ext hx13 zo) (hB1.ext hx13 zo) q1.ok q1.asc zo) ?_
 rintro _ rfl
 repeat refine zR ?_
 refine zg R6 hp3 (v:=.slice af q.fr.length ccf) R2 ?_
 refine z8 _ R5 (ue k hG3 zo (hvf.ext hx13 zo) (fun s hs=>hsmall (q4 s hs)) zo) ?_
 rintro _ rfl
 repeat refine zR ?_
 refine zg R6 hp3 (v:=.string ⟨⟨q.rhs⟩⟩) R2 ?_
 refine z8 _ R5 (yE (k+1) hG3 _ (uv zo q5)) ?_
 rintro _ rfl
 repeat refine zR ?_
 refine zN ?_
 rw [za rfl]
 refine zN ?_
 repeat refine zR ?_
 refine zN ?_
 exact goOn (i+1) (by show p.eqs.length-(i+1)<p.eqs.length-i;omega) ⟨rfl,rfl,rfl,by show Value.int .i64 _=Value.int .i64 _;congr 1,trivial⟩ ⟨hx13,by show n+1≤n2+1;omega,rfl,by show i+1≤p.eqs.length;omega⟩
end
section
end
section
theorem vD (k:Nat){h:HF}{n:Nat}{a1 a2:Option Addr}{l1 c1 l2 c2:Nat}{L:List (List UInt8)}(s1:Sl h n 1 (.slice a1 l1 c1) (strs L))(s2:Sl h n 1 (.slice a2 l2 c2) (strs L))(hb:L.length<1000000):VF (cal (k+1)) 64 [.slice a1 l1 c1,.slice a2 l2 c2] h n fun v=>v=.bool true:=by
 refine z1 (fn:=Tryz.f64) R4 ?_
 have e1:=s1.lenEq (m:=L.length) zo (by simp [strs])
 have e2:=s2.lenEq (m:=L.length) zo (by simp [strs])
 subst e1 e2
 refine zN ?_
 repeat refine zR ?_
 refine zN ?_
 repeat refine zR ?_
 refine zN ?_
 rw [za rfl]
 refine zN ?_
 repeat refine zR ?_
 refine zN ?_
 refine zy (α:=Nat) (fun j=>[(0,.slice a1 L.length c1),(1,.slice a2 L.length c2),(12,.int .i64 (L.length:Int)),(13,.int .i64 (j:Int))]) (fun j h' n' w=>h=h'∧n=n'∧w=[]∧j≤L.length) (fun j=>L.length-j) 0 ⟨rfl,rfl,rfl,rfl,trivial⟩ ⟨rfl,rfl,rfl,Nat.zero_le _⟩ (by show L.length-0<LL;unfold LL;omega) ?_
 rintro j t _ _ _ ⟨rfl,rfl,rfl,hj⟩
 refine zN ?_
 by_cases hjL:j=L.length
 ·repeat refine zR ?_
  refine zN ?_
  rw [za rfl]
  refine zN ?_
  repeat refine zR ?_
  refine zN ?_
  exact retF _ rfl (zl rfl) R2 rfl
 obtain ⟨x,hx⟩:∃x,L[j]?=some x:=⟨L[j]'zo,List.getElem?_eq_getElem zo⟩
 obtain ⟨b1,o1,x1,cs1,rfl,hb1,hx1,hc1,_,_,he1⟩:=s1.inv zo
 obtain ⟨b2,o2,x2,cs2,rfl,hb2,hx2,hc2,_,_,he2⟩:=s2.inv zo
 have g1:cs1[o1+j]?=some (.string ⟨⟨x⟩⟩):=yk he1 (by rw [strs,List.getElem?_map,hx];rfl)
 have g2:cs2[o2+j]?=some (.string ⟨⟨x⟩⟩):=yk he2 (by rw [strs,List.getElem?_map,hx];rfl)
 repeat refine zR ?_
 refine zN ?_
 rw [zc rfl]
 refine zN ?_
 repeat refine zR ?_
 refine zN ?_
 rw [wK rfl]
 repeat refine zR ?_
 refine yh R8 zo ?_
 refine zg R6 hx1 (v:=.string ⟨⟨x⟩⟩) ⟨hc1,(by rw [←g1];congr 1;omega)⟩ ?_
 repeat refine zR ?_
 refine yh R8 zo ?_
 refine zg R6 hx2 (v:=.string ⟨⟨x⟩⟩) ⟨hc2,(by rw [←g2];congr 1;omega)⟩ ?_
 refine zm (v:=.bool false) ⟨rfl,rfl,rfl,rfl,(by show some (Value.bool (!(x==x)))=_;simp)⟩ ?_
 refine zN ?_
 rw [za rfl]
 refine zN ?_
 repeat refine zR ?_
 refine zN ?_
 exact goOn (j+1) (by show L.length-(j+1)<L.length-j;omega) ⟨rfl,rfl,rfl,by show Value.int .i64 _=Value.int .i64 _;congr 1,trivial⟩ ⟨rfl,rfl,rfl,by show j+1≤L.length;omega⟩
end
section
variable {len:Nat}
section
variable {E:Env}{h:HF}{n:Nat}{sT e:TypeId}{size bytes:Nat}{z x:Value}
inductive Gr0 (h:HF) (lo n:Nat) (e:TypeId) (sz:Nat):Value→Nat→List Value→Prop
 |gro {v:Value} {len:Nat} {c:List Value} (g:Gro h lo n e sz v len c):Gr0 h lo n e sz v len c
 |emp {m:Nat} (hlo:lo≤m) (hm:m<n):Gr0 h lo n e sz (.slice (some ⟨3*m+2,0,none⟩) 0 0) 0 []
theorem Gr0.ext {h:HF}{lo n:Nat}{e:TypeId}(g:Gr0 h lo n e sz v len c)(he:Ext n h h')(hn:n≤n'):Gr0 h' lo n' e sz v len c:=by
 cases g with
 |gro g=>exact .gro (g.ext he hn)
 |emp hlo hm=>exact .emp hlo zo
theorem Gr0.sl {h:HF}{lo n:Nat}{e:TypeId}(g:Gr0 h lo n e sz v len c):Sl h n sz v c:=by
 cases g with
 |gro g=>exact g.sl
 |emp hlo hm=>exact .nil (.inr ⟨_,_,_,rfl,zo⟩)
theorem Gr0.shape {h:HF}{lo n:Nat}{e:TypeId}(g:Gr0 h lo n e sz v len c):∃a,v=.slice a len len∧c.length=len*sz:=by
 cases g with
 |gro g=>exact g.shape
 |emp hlo hm=>exact ⟨_,rfl,by simp⟩
theorem Gr0.below {h:HF}{lo n:Nat}{e:TypeId}(g:Gr0 h lo n e sz v len c):Below n v:=g.sl.below
theorem Gr0.fresh {h:HF}{lo n:Nat}{e:TypeId}(g:Gr0 h lo n e sz v len c):zY lo v:=by
 cases g with
 |gro g=>exact g.fresh
 |emp hlo hm=>show 3*lo≤3*_+2;omega
theorem Gr0.lo {h:HF}{lo lo' n:Nat}{e:TypeId}(g:Gr0 h lo n e sz v len c)(hl:lo'≤lo):Gr0 h lo' n e sz v len c:=by
 cases g with
 |gro g=>
  cases g with
  |nil=>exact .gro .nil
  |at_ hg hlo hb hr hl ho=>exact .gro (.at_ hg zo hb hr hl ho)
 |emp hlo hm=>exact .emp zo hm
def Apt (u v:Value):Prop:=∀a l c a' l' c',u=.slice (some a) l c→v=.slice (some a') l' c'→a.block≠a'.block
theorem Apt.of {m:Nat}(hu:Below m u)(hv:zY m v):Apt u v:=fun a l c a' l' c' e e'=>by
 subst e e'
 have h1:a.block<3*m:=hu
 have h2:3*m≤a'.block:=hv
 omega
theorem Apt.symm (h:Apt u v):Apt v u:=fun a l c a' l' c' e e' q=>h a' l' c' a l c e' e q.symm
theorem Gr0.keep {h:HF}{lo n:Nat}{e:TypeId}(g:Gr0 h lo n e sz u len c)(hk:Keep v n h h')(ha:Apt u v)(hn:n≤n'):Gr0 h' lo n' e sz u len c:=by
 cases g with
 |emp hlo hm=>exact .emp hlo zo
 |gro g=>
  cases g with
  |nil=>exact .gro .nil
  |at_ hg hlo hb hr hl ho=>exact .gro (.at_ hg hlo zo (by rw [hk _ hb fun o l c e=>ha _ _ _ _ _ _ rfl e rfl];exact hr) hl ho)
end
section
variable {X:CtxF}{ops r:List Oper}{t:TF}{h:HF}{n:Nat}{w:List Nat}{Q:SV→Prop}{o:Oper}{d:Tmp}
end
section
variable {X:CtxF}{ops r:List Oper}{ms:List Nat}{i m:Nat}{t:TF}{h:HF}{n:Nat}{w:List Nat}{al ld:List (Nat×Nat)}{ef:List (Nat×HF×List Nat)}{Q:SV→Prop}{o:Oper}{d:Tmp}
end
end
section
section
variable {X:CtxF}{ops r:List Oper}{t:TF}{h:HF}{n:Nat}{w:List Nat}{Q:SV→Prop}{o:Oper}{d:Tmp}
theorem ls {e3:TypeId}{s:Operand}{dLen m:Nat}(hw:zf ops t o=true)(hd:o.dst=some d)(hn:zj X.nt (some d)=true)(ho:o.op=.call {callee:=.builtin .copy,args:=#[s,x],argTypes:=#[sT,xT]})(hu:X.E.und sT=some (.slice e))(hi:X.E.inf e=some (size,bytes,z))
  (hs:evF t s=.slice (some ⟨b,0,none⟩) dLen cap)(hx:argS h size (evF t x) m cs)(hm:m≤dLen)(hb:h b=some (.row c e3))(hl:cs.length≤c.length)(hcs:cs≠[])(h1:ones cs=true)(hnew:3*X.n0≤b)
  (k:EO X ops r ⟨upd t d (.int .i64 (m:Int)),upd h b (some (.row (cs++c.drop cs.length) e3)),n,w⟩ Q):EO X ops (o::r) ⟨t,h,n,w⟩ Q:=by
 have hmin:Nat.min m dLen=m:=Nat.min_eq_left hm
 have hc:sw X.E h n sT (evF t s) (evF t x)=some (.val (.int .i64 (m:Int)) (upd h b (some (.row (cs++c.drop cs.length) e3))) n [b]):=by
  obtain ⟨h2,h3⟩:=hx
  cases cs with
  |nil=>exact absurd rfl hcs
  |cons v cs=>
   have hst:yU h ⟨b,0,none⟩ (v::cs)=some (upd h b (some (.row ((v::cs)++c.drop (v::cs).length) e3))):=by
    rw [x0 hb zo h1]
    unfold zk
    rw [List.take_zero,List.nil_append,Nat.zero_add]
   simp only [sw,hu,hi,hs,h2,hmin,h3,hst]
   rfl
 have he:effF X.E o.op (evF t) h n=some (.val (.int .i64 (m:Int)) (upd h b (some (.row (cs++c.drop cs.length) e3))) n [b]):=by
  rw [ho]
  exact hc
 rw [rk hw (by rw [hd];exact hn) (by rw [ho];rfl) he,hd,xt fun y hy=>by rw [List.mem_singleton.1 hy];exact hnew]
 exact k
end
section
variable {X:CtxF}{ops r:List Oper}{ms:List Nat}{m i:Nat}{t:TF}{h:HF}{n:Nat}{w:List Nat}{al ld:List (Nat×Nat)}{ef:List (Nat×HF×List Nat)}{Q:SV→Prop}{o:Oper}{d:Tmp}
theorem kq (hw:zf ops t o=true)(hd:o.dst=some d)(hn:zj X.nt (some d)=true)(hc:cls o.op=3)(he:effF X.E o.op (evF t) h n=some (.val v h' n W))(h1:yP m ef=true)(h2:y3 m al=true)(h3:zT m W ld=true)(hW:∀b∈W,3*X.n0≤b)
  (k:ED X ops r ms (i+1) ⟨⟨upd t d v,h',n,w⟩,al,ld,(i,h,W)::ef⟩ Q):ED X ops (o::r) (m::ms) i ⟨⟨t,h,n,w⟩,al,ld,ef⟩ Q:=by
 refine pG hw (by rw [hd];exact hn) hc he h1 h2 h3 (Nat.le_refl _) ?_
 rw [hd,xt hW]
 exact k
end
theorem mF (k:Nat)(h:HF)(n:Nat){m:Nat}(hm:m<18446744073709551616):VF (cal (k+2)) 99 [.int .u64 ((1:Nat):Int),.int .u64 (m:Int)] h n fun v=>v=.tuple #[.int .u64 0,.int .u64 (m:Int)]:=by
 refine z1 (fn:=Tryz.f99) R4 ?_
 refine zN ?_
 repeat refine zR ?_
 refine zN ?_
 rw [za rfl]
 refine zN ?_
 repeat refine zR ?_
 refine z8 _ R5 (oX k h n (x:=1) (y:=m) zd hm) ?_
 rintro _ rfl
 rw [show 1*m/18446744073709551616=0 by omega,show 1*m%18446744073709551616=m by omega]
 repeat refine zR ?_
 refine zN ?_
 repeat refine zR ?_
 refine zN ?_
 exact retF [.int .u64 0,.int .u64 (m:Int)] rfl rfl R2 rfl
def repR (x z:Value)(m j:Nat):List Value:=List.replicate j x++List.replicate (m-j) z
theorem sJ {x:Value}{m:Nat}(h:j≤m):(repR x z m j).length=m:=by simp [repR];omega
theorem qR {x:Value}{m r:Nat}(h:j+r≤m):zk (repR x z m j) j (List.replicate r x)=repR x z m (j+r):=by
 unfold zk repR
 rw [List.length_replicate,List.take_left' (by simp),List.drop_append,List.drop_replicate,List.length_replicate,List.drop_replicate,show j-(j+r)=0 by omega,show m-j-(j+r-j)=m-(j+r) by omega]
 simp [←List.append_assoc,List.replicate_append_replicate]
theorem oV {s:ByteArray}(r:Nat):ones (List.replicate r (.string s))=true:=by
 induction r with
 |zero=>rfl
 |succ r ih=>simpa [List.replicate_succ,ones] using ih
theorem slLo (hu:env.und ty=some (.slice e))(hi:env.inf e=some (1,bt,z)){m:Nat}(hj:j<m):y9 env ty (.slice (some ⟨b,0,none⟩) m m) (some (.int .i64 (j:Int))) none=some (.slice (some ⟨b,j,none⟩) (m-j) (m-j)):=by
 have h1:(0:Int)≤(j:Int)∧(j:Int)≤m:=zo
 have hb:Nat.ble m j=false:=by
  cases hb:Nat.ble m j with
  |false=>rfl
  |true=>have:=Nat.le_of_ble_eq_true hb;omega
 have h2:(gro b&&(Nat.ble 1 j&&Nat.ble m j))=false:=by rw [hb];simp
 have h3:offA m j 1 ⟨b,0,none⟩=⟨b,j,none⟩:=by
  unfold offA
  have:Nat.beq m j=false:=by
   cases hb:Nat.beq m j with
   |false=>rfl
   |true=>have:=Nat.eq_of_beq_eq_true hb;omega
  rw [this,vy]
  simp
 simp only [y9,hu,hi,bnd,if_pos h1,Int.toNat_natCast,h2,h3]
theorem slHi (hu:env.und ty=some (.slice e))(hi:env.inf e=some (sz,bt,z)){m:Nat}(hj:j≤m):y9 env ty (.slice (some ⟨b,0,none⟩) m m) none (some (.int .i64 (j:Int)))=some (.slice (some ⟨b,0,none⟩) j m):=by
 have h1:(0:Int)≤(j:Int)∧(j:Int)≤m:=zo
 have h2:(gro b&&(Nat.ble 1 0&&Nat.ble m 0))=false:=by simp
 have h3:offA m 0 sz ⟨b,0,none⟩=⟨b,0,none⟩:=by
  unfold offA
  split
  ·rfl
  rw [vy];simp
 simp only [y9,hu,hi,bnd,if_pos h1,Int.toNat_natCast,h2,h3,Nat.sub_zero]
theorem ni {e3:TypeId}(hu:env.und ty=some (.slice e))(hi:env.inf e=some (1,bt,z)){h:HF}{n m:Nat}{s:ByteArray}{y:Value}(hj:1≤j∧j<m)(hb:h b=some (.row (repR (.string s) y m j) e3)):
  sw env h n ty (.slice (some ⟨b,j,none⟩) (m-j) (m-j)) (.slice (some ⟨b,0,none⟩) j m)=some (.val (.int .i64 ((min j (m-j):Nat):Int)) (upd h b (some (.row (repR (.string s) y m (j+min j (m-j))) e3))) n [b]):=by
 obtain ⟨r,hr⟩:∃r,r=min j (m-j):=⟨_,rfl⟩
 have hr1:1≤r∧r≤j∧r≤m-j:=zo
 have hl:yM h ⟨b,0,none⟩ r=some (List.replicate r (.string s)):=by
  have hle:Nat.ble (0+r) (repR (.string s) y m j).length=true:=Nat.ble_eq_true_of_le (by rw [sJ zo];omega)
  have ht:((repR (.string s) y m j).drop 0).take r=List.replicate r (.string s):=by unfold repR;rw [List.drop_zero,List.take_append_of_le_length (by simp;omega),List.take_replicate,Nat.min_eq_left hr1.2.1]
  simp only [yM,hb,BF.cells,hle,Option.isNone_none,Bool.and_self,ht]
 have hst:yU h ⟨b,j,none⟩ (List.replicate r (.string s))=some (upd h b (some (.row (repR (.string s) y m (j+r)) e3))):=by
  rw [x0 hb (by rw [sJ zo,List.length_replicate];omega) (oV r),qR zo]
 rw [←hr]
 have hm:Nat.min j (m-j)=r:=hr.symm
 have ha:zx h 1 r (.slice (some ⟨b,0,none⟩) j m)=some (List.replicate r (.string s)):=by
  show (if r*1=0 then some [] else yM h ⟨b,0,none⟩ (r*1))=_
  rw [if_neg zo,Nat.mul_one,hl]
 have hrc:List.replicate r (Value.string s)=.string s::List.replicate (r-1) (.string s):=by
  obtain ⟨q,rfl⟩:∃q,r=q+1:=⟨r-1,zo⟩
  rfl
 simp only [sw,hu,hi,lenOf?,hm,ha]
 rw [hrc] at hst ⊢
 simp only [hst]
 rfl
theorem qQ (k:Nat){h:HF}{n:Nat}{s:List UInt8}{e0:TypeId}(hb:b<3*n)(hrow:h b=some (.row [.string ⟨⟨s⟩⟩] e0))(hcap:1≤cap){m:Nat}(hm:1≤m∧m<1000):
  CF (cal (k+3)) 63 [.slice (some ⟨b,0,none⟩) 1 cap,.int .i64 (m:Int)] h n fun v h' n' w=>w=[]∧n'=n+1∧Ext n h h'∧v=.slice (some ⟨3*n+2,0,none⟩) m m∧∃e,h' (3*n+2)=some (.row (List.replicate m (.string ⟨⟨s⟩⟩)) e):=by
 refine zO (fn:=Tryz.f63) R4 ?_
 refine zN ?_
 repeat refine zR ?_
 refine zN ?_
 repeat refine zR ?_
 refine zN ?_
 rw [za rfl]
 refine zN ?_
 repeat refine zR ?_
 refine tS (c:=1) R7 zd ?_
 refine zM ?_
 refine tS (c:=m) R7 zo ?_
 refine z8 _ R5 (mF k h n (m:=m) zo) ?_
 rintro _ rfl
 repeat refine zR ?_
 refine zN ?_
 repeat refine zR ?_
 refine zN ?_
 rw [za rfl]
 refine zN ?_
 refine zM ?_
 refine tT rfl rfl rfl rfl rfl rfl rfl zo ?_
 refine wQ (len:=m) (cap:=m) R9 zo ?_
 rw [show zi (Value.string ⟨⟨[]⟩⟩)=[Value.string ⟨⟨[]⟩⟩] from rfl,ux]
 repeat refine zR ?_
 refine zN ?_
 repeat refine zR ?_
 refine ls (m:=1) (cs:=[.string ⟨⟨s⟩⟩]) rfl rfl rfl rfl rfl rfl rfl (yc (show upd h _ _ b=_ from (zh zo).trans hrow) R2) zo (ze _ _ _) (by simp;omega) (by simp) rfl (by show 3*n≤3*n+2;omega) ?_
 rw [ys,show [Value.string ⟨⟨s⟩⟩]++(List.replicate m (Value.string ⟨⟨[]⟩⟩)).drop [Value.string ⟨⟨s⟩⟩].length=repR (.string ⟨⟨s⟩⟩) (.string ⟨⟨[]⟩⟩) m 1 from by simp [repR]]
 repeat refine zR ?_
 refine zN ?_
 refine zy (α:=Nat) (fun j=>[(7,.slice (some ⟨3*n+2,0,none⟩) m m),(8,.int .i64 (j:Int))])
  (fun j h' n' w=>n'=n+1∧w=[]∧Ext n h h'∧1≤j∧j≤m∧∃e,h' (3*n+2)=some (.row (repR (.string ⟨⟨s⟩⟩) (.string ⟨⟨[]⟩⟩) m j) e)) (fun j=>m-j) 1 ⟨rfl,rfl,trivial⟩ ⟨rfl,rfl,Ext.upd zo,Nat.le_refl _,hm.1,_,ze _ _ _⟩ (by show m-1<LL;unfold LL;omega) ?_
 rintro j t h1 _ _ ⟨rfl,rfl,hx,hj1,hjm,e,hr⟩
 refine zN ?_
 by_cases hj:j=m
 ·subst hj
  repeat refine zR ?_
  refine zN ?_
  rw [za rfl]
  refine zN ?_
  repeat refine zR ?_
  refine zN ?_
  refine retH [.slice (some ⟨3*n+2,0,none⟩) j j] rfl (zl rfl) rfl ⟨rfl,rfl,hx,rfl,e,?_⟩
  show h1 (3*n+2)=_
  rw [hr]
  simp [repR]
 repeat refine zR ?_
 refine zN ?_
 rw [zc rfl]
 refine zN ?_
 refine yK [0,0,0,6,0,0,48,126,255,511] rfl ?_
 repeat refine zE ?_
 refine dr_S R4 (slLo (ty:=25) (m:=m) (j:=j) rfl rfl zo) ?_
 repeat refine zE ?_
 refine dr_S R4 (slHi (ty:=25) (m:=m) (j:=j) rfl rfl zo) ?_
 refine kq rfl rfl rfl rfl (ni (ty:=25) (m:=m) (j:=j) rfl rfl zo hr) rfl rfl rfl (fun y hy=>by rw [List.mem_singleton.1 hy];show 3*n≤3*n+2;omega) ?_
 repeat refine zE ?_
 refine zN ?_
 refine ⟨j+min j (m-j),by show m-(j+min j (m-j))<m-j;omega,⟨rfl,rfl,trivial⟩,rfl,rfl,fun b' hb'=>?_,zo,zo,e,ze _ _ _⟩
 exact (zh zo).trans (hx b' hb')
theorem oh (k:Nat)(h:HF)(n:Nat){m:Nat}(hm:1≤m∧m<1000):
  CF (cal (k+4)) 35 [.int .i64 (m:Int)] h n fun v h' n' w=>w=[]∧n'=n+2∧Ext n h h'∧v=.slice (some ⟨3*(n+1)+2,0,none⟩) m m∧∃e,h' (3*(n+1)+2)=some (.row (List.replicate m (.string ⟨⟨[48]⟩⟩)) e):=by
 refine zO (fn:=Tryz.f35) R4 ?_
 refine zN ?_
 repeat refine zR ?_
 refine zN ?_
 refine xJ (cs:=[.string ⟨⟨[48]⟩⟩]) R5 ?_
 repeat refine zR ?_
 refine zA _ R5 (qQ k (b:=3*n+2) (s:=[48]) zo (ze _ _ _) zd hm) ?_
 rintro _ h2 _ _ ⟨rfl,rfl,hx,rfl,e,hr⟩
 repeat refine zR ?_
 refine zN ?_
 exact retH [.slice (some ⟨3*(n+1)+2,0,none⟩) m m] rfl (zl rfl) rfl ⟨rfl,rfl,fun b hb=>(hx b zo).trans (zh zo),rfl,e,hr⟩
end
section
def bitT (b:Bool):List UInt8:=if b then [49] else [48]
def hasC (L:List Int)(k i j:Nat):Bool:=decide (j<k∧L[j]?=some (i:Int))
def coT (N:Nat)(L:List Int)(k:Nat):List (List UInt8):=(List.range N).flatMap fun i=>(List.range L.length).map fun j=>bitT (hasC L k i j)
def coS (N:Nat)(L:List Int)(k:Nat):List (List UInt8):=(List.range (N*L.length)).map fun p=>bitT (hasC L k (p/L.length) (p%L.length))
theorem mg (N:Nat)(L:List Int)(k:Nat):coS N L k=coT N L k:=by
 by_cases hm:L.length=0
 ·simp [coS,coT,hm]
 unfold coS coT
 induction N with
 |zero=>simp
 |succ N ih=>
  rw [Nat.succ_mul,List.range_add,List.map_append,ih,List.range_succ,List.flatMap_append,List.map_map]
  congr 1
  simp only [List.flatMap_cons,List.flatMap_nil,List.append_nil]
  refine List.map_congr_left fun j hj=>?_
  have hj:=List.mem_range.1 hj
  show bitT (hasC L k ((N*L.length+j)/L.length) ((N*L.length+j)%L.length))=_
  rw [Nat.mul_comm,Nat.mul_add_div zo,Nat.div_eq_of_lt hj,Nat.mul_add_mod,Nat.mod_eq_of_lt hj,Nat.add_zero]
theorem vx (N:Nat)(L:List Int)(k:Nat):(coS N L k).length=N*L.length:=by simp [coS]
theorem np (N:Nat)(L:List Int):coS N L 0=List.replicate (N*L.length) [48]:=by
 apply List.ext_getElem?
 intro p
 by_cases hp:p<N*L.length
 ·simp [coS,hasC,bitT,hp,List.getElem?_replicate]
 simp [coS,hp,List.getElem?_replicate]
theorem nq (hk:L[k]?=some (i:Int))(hi:i<N):(coS N L k).set (i*L.length+k) [49]=coS N L (k+1):=by
 have hkl:k<L.length:=(List.getElem?_eq_some_iff.1 hk).1
 have hq:i*L.length+k<N*L.length:=by
  have:(i+1)*L.length≤N*L.length:=Nat.mul_le_mul_right _ hi
  rw [Nat.succ_mul] at this
  omega
 apply List.ext_getElem?
 intro p
 rw [List.getElem?_set]
 by_cases hp:i*L.length+k=p
 ·subst hp
  have h1:(i*L.length+k)/L.length=i:=by rw [Nat.mul_comm,Nat.mul_add_div zo,Nat.div_eq_of_lt hkl,Nat.add_zero]
  have h2:(i*L.length+k)%L.length=k:=by rw [Nat.mul_comm,Nat.mul_add_mod,Nat.mod_eq_of_lt hkl]
  have hb:hasC L (k+1) ((i*L.length+k)/L.length) ((i*L.length+k)%L.length)=true:=by rw [h1,h2];simp [hasC,hk]
  rw [if_pos rfl,if_pos (by rw [vx];exact hq)]
  simp only [coS,List.getElem?_map,List.getElem?_range hq,Option.map_some,hb]
  rfl
 rw [if_neg hp]
 by_cases hp2:p<N*L.length
 ·simp only [coS,List.getElem?_map,List.getElem?_range hp2,Option.map_some]
  congr 2
  unfold hasC
  congr 1
  rw [eq_iff_iff]
  constructor
  ·rintro ⟨a,b⟩;exact ⟨zo,b⟩
  rintro ⟨a,b⟩
  refine ⟨?_,b⟩
  rcases Nat.lt_or_ge (p%L.length) k with h|h
  ·exact h
  have e:p%L.length=k:=zo
  rw [e,hk] at b
  injection b with b
  have e2:p/L.length=i:=zo
  have:=Nat.div_add_mod p L.length
  rw [e,e2,Nat.mul_comm] at this
  exact absurd this hp
 simp [coS,hp2]
def coM (N:Nat)(L:List Int):Int×Int×List (List UInt8):=if L=[] then (0,0,[]) else (N,L.length,coT N L L.length)
theorem sE (l:List (List UInt8))(j:Nat)(s:List UInt8):(strs l).set j (.string ⟨⟨s⟩⟩)=strs (l.set j s):=by simp [strs,List.map_set]
theorem vK (k:Nat){aL:Option Addr}{cL:Nat}(hL:Sl h n 1 (.slice aL L.length cL) (i64s L))(hN:1≤N∧N≤8)(hl:L.length≤8)(hr:∀i∈L,0≤i∧i<N):
  CF (cal (k+5)) 19 [.int .i64 (N:Int),.slice aL L.length cL] h n fun v h' n' w=>w=[]∧n≤n'∧Ext n h h'∧∃vE,v=.agg #[.int .i64 (coM N L).1,.int .i64 (coM N L).2.1,vE]∧Sl h' n' 1 vE (strs (coM N L).2.2)∧Pt (fun b=>3*n≤b) vE:=by
 refine zO (fn:=Tryz.f19) R4 ?_
 refine zN ?_
 refine zF R5 ?_
 refine zN ?_
 by_cases h0:L.length=0
 ·have hL0:L=[]:=List.length_eq_zero_iff.1 h0
  subst hL0
  repeat refine zR ?_
  refine zN ?_
  rw [zc rfl]
  refine zN ?_
  refine zm (v:=.agg #[.int .i64 0,.int .i64 0,.slice none 0 0]) R5 ?_
  refine yu (cs:=[.int .i64 0,.int .i64 0,.slice none 0 0]) R8 (ze _ _ _) zb (by show 3*n≤3*n+2;omega) ?_
  refine zN ?_
  exact yx R5 (ze _ _ _) rfl ⟨rfl,by show n≤n+1;omega,fun b hb=>by show upd (upd h _ _) _ _ b=_;rw [zh zo,zh zo],_,rfl,.nil (.inl rfl),fun a l c e=>by cases e⟩
 have hm1:N*L.length≤64:=Nat.le_trans (Nat.mul_le_mul hN.2 hl) zd
 have hm0:1≤N*L.length:=Nat.mul_le_mul hN.1 (show 1≤L.length by omega)
 repeat refine zR ?_
 refine zN ?_
 rw [za rfl]
 refine zN ?_
 repeat refine zR ?_
 have hcast:(N:Int)*(L.length:Int)=((N*L.length:Nat):Int):=(Int.natCast_mul _ _).symm
 rw [ym (by rw [hcast];omega),hcast]
 generalize hme:N*L.length=M at hm0 hm1
 refine zA _ R5 (oh k _ (n+1) (m:=M) zo) ?_
 rintro _ h2 _ _ ⟨rfl,rfl,hx2,rfl,e2,hz2⟩
 refine zm (v:=.agg #[.int .i64 (N:Int),.int .i64 (L.length:Int),.slice (some ⟨3*(n+1+1)+2,0,none⟩) M M]) R5 ?_
 refine zF R5 ?_
 refine zp [.int .i64 (N:Int),.int .i64 (L.length:Int),.slice (some ⟨3*(n+1+1)+2,0,none⟩) M M] R7 rfl (ze _ _ _) rfl (by show 3*n≤3*(n+1+2)+2;omega) ?_
 rw [ys]
 refine zN ?_
 repeat refine zR ?_
 refine zN ?_
 refine zy (α:=Nat) (fun j=>[(4,.pointer (some ⟨3*n+2,0,none⟩)),(5,.pointer (some ⟨3*(n+1+2)+2,0,none⟩)),(21,.slice aL L.length cL),(22,.int .i64 (L.length:Int)),(23,.int .i64 (j:Int))])
  (fun j h' n' w=>n'=n+1+2+1∧w=[]∧Ext n h h'∧(∃e,h' (3*n+2)=some (.row [.int .i64 0,.int .i64 0,.slice none 0 0] e))∧(∃e,h' (3*(n+1+2)+2)=some (.row [.int .i64 (N:Int),.int .i64 (L.length:Int),.slice (some ⟨3*(n+1+1)+2,0,none⟩) M M] e))∧(∃e,h' (3*(n+1+1)+2)=some (.row (strs (coS N L j)) e))∧j≤L.length)
  (fun j=>L.length-j) 0 ⟨rfl,rfl,rfl,rfl,rfl,trivial⟩ ⟨rfl,rfl,fun b hb=>by show upd h2 _ _ b=_;rw [zh zo,hx2 b zo,zh zo],⟨_,by show upd h2 _ _ _=_;rw [zh zo,hx2 _ zo,ze];rfl⟩,⟨_,ze _ _ _⟩,⟨e2,by show upd h2 _ _ _=_;rw [zh zo,hz2,np,hme];simp [strs]⟩,Nat.zero_le _⟩ (by show L.length-0<LL;unfold LL;omega) ?_
 rintro j t h3 _ _ ⟨rfl,rfl,hx3,⟨ec,hc3⟩,⟨em,hm3⟩,⟨ez,hz3⟩,hj⟩
 refine zN ?_
 by_cases hjl:j=L.length
 ·subst hjl
  repeat refine zR ?_
  refine zN ?_
  rw [za rfl]
  refine zN ?_
  refine zI (v:=.agg #[.int .i64 (N:Int),.int .i64 (L.length:Int),.slice (some ⟨3*(n+1+1)+2,0,none⟩) M M]) R5 (zn R2 hm3 rfl zb rfl) ?_
  refine zp [.int .i64 (N:Int),.int .i64 (L.length:Int),.slice (some ⟨3*(n+1+1)+2,0,none⟩) M M] R7 rfl hc3 rfl (by show 3*n≤3*n+2;omega) ?_
  refine zN ?_
  refine yx R5 (ze _ _ _) rfl ⟨rfl,by show n≤n+1+2+1;omega,fun b hb=>by show upd h3 _ _ b=_;rw [zh zo];exact hx3 b hb,.slice (some ⟨3*(n+1+1)+2,0,none⟩) M M,?_,?_,fun a l c e=>by injection e with e;injection e with e;subst e;show 3*n≤3*(n+1+1)+2;omega⟩
  ·have:coM N L=((N:Int),(L.length:Int),coT N L L.length):=by unfold coM;rw [if_neg (fun e:L=[]=>h0 (by rw [e];rfl))]
   rw [this]
  have:coM N L=((N:Int),(L.length:Int),coT N L L.length):=by unfold coM;rw [if_neg (fun e:L=[]=>h0 (by rw [e];rfl))]
  rw [this,←mg]
  refine .at_ zo ((zh zo).trans hz3) rfl (Nat.le_refl _) (by rw [yT,vx,hme];omega) (by rw [List.drop_zero,List.take_of_length_le (by rw [yT,vx,hme];omega)])
 obtain ⟨ii,hii⟩:∃x,L[j]?=some x:=⟨L[j]'zo,List.getElem?_eq_getElem zo⟩
 have hir:=hr ii (List.mem_of_getElem? hii)
 obtain ⟨i,rfl⟩:∃i:Nat,ii=(i:Int):=⟨ii.toNat,zo⟩
 repeat refine zR ?_
 refine zN ?_
 rw [zc rfl]
 refine zN ?_
 repeat refine zR ?_
 refine y6 R7 (hL.ext hx3 (show n≤n+1+2+1 by omega)) R2 hii (fun _=>rfl) R4 fun _=>?_
 repeat refine zR ?_
 refine zN ?_
 repeat refine zR ?_
 refine zg R6 hm3 (v:=.slice (some ⟨3*(n+1+1)+2,0,none⟩) M M) R2 ?_
 repeat refine zR ?_
 refine zg R6 hm3 (v:=.int .i64 (L.length:Int)) R2 ?_
 repeat refine zR ?_
 have hq:i*L.length+j<M:=by
  have:(i+1)*L.length≤N*L.length:=Nat.mul_le_mul_right _ zo
  rw [Nat.succ_mul] at this
  omega
 have hc2:(i:Int)*(L.length:Int)=((i*L.length:Nat):Int):=(Int.natCast_mul _ _).symm
 rw [ym (by rw [hc2];omega),hc2,ym zo]
 refine qz (j:=i*L.length+j) R9 ⟨hq,by rw [yT,vx,hme];exact hq⟩ hz3 (by show 3*n≤3*(n+1+1)+2;omega) (fun _=>rfl) rfl rfl rfl (fun _=>rfl) rfl fun _=>?_
 rw [sE,nq hii zo]
 refine zN ?_
 repeat refine zR ?_
 refine zN ?_
 exact ⟨j+1,by show L.length-(j+1)<L.length-j;omega,⟨rfl,rfl,rfl,rfl,rfl,trivial⟩,rfl,rfl,fun b hb=>(zh zo).trans (hx3 b hb),⟨ec,(zh zo).trans hc3⟩,⟨em,(zh zo).trans hm3⟩,⟨ez,ze _ _ _⟩,zo⟩
end
section
variable {lo:Nat}
structure KR (h:HF)(n:Nat)(v:Value)(K:List (List Int)):Prop where
 at_:∃cs:List Value,Sl h n 1 v cs∧cs.length=K.length∧∀(j:Nat) (L:List Int),K[j]?=some L→∃(a:Option Addr) (c:Nat),cs[j]?=some (Value.slice a L.length c)∧Sl h n 1 (.slice a L.length c) (i64s L)
theorem KR.ext {K:List (List Int)}(r:KR h n v K)(e:Ext n h h')(hn:n≤n'):KR h' n' v K:=by
 obtain ⟨cs,h1,h2,h3⟩:=r
 exact ⟨cs,h1.ext e hn,h2,fun j L hj=>by obtain ⟨a,c,h4,h5⟩:=h3 j L hj;exact ⟨a,c,h4,h5.ext e hn⟩⟩
def vz (d:Int)(L:List Int)(j:Nat):Prop:=∀i x,i<j→L[i]?=some x→0≤x∧x<d∧∀y,0<i→L[i-1]?=some y→y<x
def wo (B:List Int)(K:List (List Int))(c:Nat):Prop:=∀b L d,b<c→K[b]?=some L→B[b]?=some d→vz d L L.length
theorem vz.zero (d:Int)(L:List Int):vz d L 0:=fun i x hi=>absurd hi (Nat.not_lt_zero _)
theorem wo.zero (B:List Int)(K:List (List Int)):wo B K 0:=fun b L d hb=>absurd hb (Nat.not_lt_zero _)
theorem vz.succ {d:Int}{x:Int}(g:vz d L j)(hx:L[j]?=some x)(h:0≤x∧x<d∧∀y,0<j→L[j-1]?=some y→y<x):vz d L (j+1):=fun i z hi hz=>by
 by_cases hij:i=j
 ·subst hij
  rw [hx] at hz
  injection hz with hz
  subst hz
  exact h
 exact g i z zo hz
theorem wo.succ {K:List (List Int)}{c:Nat}{d:Int}(g:wo B K c)(hL:K[c]?=some L)(hd:B[c]?=some d)(h:vz d L L.length):wo B K (c+1):=fun b M e hb hM he=>by
 by_cases hbc:b=c
 ·subst hbc
  rw [hL] at hM
  rw [hd] at he
  injection hM with hM
  injection he with he
  subst hM he
  exact h
 exact g b M e zo hM he
inductive MatR (h:HF) (n:Nat):List Value→List (Int×Int×List (List UInt8))→Prop
 |nil:MatR h n [] []
 |cons {r c:Int} {v:Value} {E:List (List UInt8)} {cs:List Value} {ms:List (Int×Int×List (List UInt8))} (h1:Sl h n 1 v (strs E)) (h2:MatR h n cs ms):MatR h n (.int .i64 r:: .int .i64 c::v::cs) ((r,c,E)::ms)
theorem MatR.mapS {ms:List (Int×Int×List (List UInt8))}(e:MatR h n cs ms)(hS:∀v∈cs,∀sz c,Sl h n sz v c→Sl h' n' sz v c):MatR h' n' cs ms:=by
 induction e with
 |nil=>exact .nil
 |cons h1 h2 ih=>exact .cons (hS _ (by simp) _ _ h1) (ih fun v hv=>hS v (by simp [hv]))
theorem MatR.ext {ms:List (Int×Int×List (List UInt8))}(e:MatR h n cs ms)(hx:Ext n h h')(hn:n≤n'):MatR h' n' cs ms:=e.mapS fun _ _ _ _ s=>s.ext hx hn
theorem MatR.belows {ms:List (Int×Int×List (List UInt8))}(e:MatR h n cs ms):∀v∈cs,Pt (fun b=>b<3*n) v:=by
 induction e with
 |nil=>intro v hv;cases hv
 |cons h1 h2 ih=>
  intro v hv
  simp only [List.mem_cons] at hv
  rcases hv with rfl|rfl|rfl|hv
  ·exact fun a l c e=>by cases e
  ·exact fun a l c e=>by cases e
  ·exact Pt.of_below h1.below
  exact ih v hv
theorem MatR.len {ms:List (Int×Int×List (List UInt8))}(e:MatR h n cs ms):cs.length=ms.length*3:=by
 induction e with
 |nil=>rfl
 |cons h1 h2 ih=>simp [ih];omega
theorem MatR.snoc {ms:List (Int×Int×List (List UInt8))}{r c:Int}{E:List (List UInt8)}(e:MatR h n cs ms)(h1:Sl h n 1 v (strs E)):MatR h n (cs++[.int .i64 r,.int .i64 c,v]) (ms++[(r,c,E)]):=by
 induction e with
 |nil=>exact .cons h1 .nil
 |cons g1 g2 ih=>exact .cons g1 ih
structure MI (h:HF)(n lo bF:Nat)(ty:TypeId)(vM:Value)(ce:List Value)(ms:List (Int×Int×List (List UInt8))):Prop where
 gro:Gro h lo n ty 3 vM ms.length ce
 mat:MatR h n ce ms
 los:∀v∈ce,Pt (fun b=>3*lo≤b) v
 ne:∀v∈ce,∀b o l c,vM=.slice (some ⟨b,o,none⟩) l c→Pt (fun b'=>b'≠b) v
 cell:∃e,h bF=some (.row [vM] e)
theorem MI.start {bF:Nat}(hc:∃e,h bF=some (.row [.slice none 0 0] e)):MI h n lo bF ty (.slice none 0 0) [] []:=⟨.nil,.nil,fun v hv=>absurd hv List.not_mem_nil,fun v hv=>absurd hv List.not_mem_nil,hc⟩
theorem MI.step {h1 h15:HF}{n1 bF:Nat}{e':TypeId}{x:Option BF}{vM v15:Value}{ms:List (Int×Int×List (List UInt8))}{r c:Int}{E:List (List UInt8)}(m:MI h n lo bF ty vM ce ms)(hlo:bF<3*lo∧lo≤n)
  (hx:Ext n h h1)(hn:n≤n1)(hE:Sl h1 n1 1 vE (strs E))(hf:Pt (fun b=>3*n≤b) vE)(g15:Gro h15 lo (n1+1+1) ty 3 v15 (ms.length+1) (ce++[.int .i64 r,.int .i64 c,vE]))(k15:Keep vM (n1+1) (upd h1 (3*n1+2) x) h15)(f15:zY (n1+1) v15):
  MI (upd h15 bF (some (.row [v15] e'))) (n1+1+1) lo bF ty v15 (ce++[.int .i64 r,.int .i64 c,vE]) (ms++[(r,c,E)]):=by
 have hbM:Below n vM:=m.gro.below
 have hb:=m.mat.belows
 have hbE:Below n1 vE:=hE.below
 have same:∀b,b<3*n1→bF≠b→(∀o l c,vM≠.slice (some ⟨b,o,none⟩) l c)→upd h15 bF (some (.row [v15] e')) b=h1 b:=fun b hb' h2 h3=>by
  rw [zh (fun e=>h2 e.symm),k15 b zo h3,zh zo]
 have hlo15:∀b' l c o,v15=.slice (some ⟨b',o,none⟩) l c→3*(n1+1)≤b':=fun b' l c o e=>by subst e;exact f15
 refine ⟨?_,?_,?_,?_,⟨_,ze _ _ _⟩⟩
 ·rw [List.length_append]
  exact g15.extT (bt:=bF) (fun b hb hne=>zh hne) hlo.1 (Nat.le_refl _)
 ·refine MatR.snoc (m.mat.mapS fun v hv sz c hs=>hs.keep (fun a l c' e=>?_) zo) (hE.keep (fun a l c' e=>?_) zo)
  ·have h1':=hb v hv a l c' e
   have h2':=m.los v hv a l c' e
   simp only at h1' h2'
   rw [same a.block zo zo fun o l' c'' e'=>m.ne v hv a.block o l' c'' e' a l c' e rfl]
   exact hx _ h1'
  have h1':=hf a l c' e
  simp only at h1'
  have h2':a.block<3*n1:=by subst e;exact hbE
  refine same a.block zo zo fun o l' c'' e'=>?_
  subst e'
  have:a.block<3*n:=hbM
  omega
 ·intro v hv
  rcases List.mem_append.1 hv with hv|hv
  ·exact m.los v hv
  simp only [List.mem_cons,List.not_mem_nil,or_false] at hv
  rcases hv with rfl|rfl|rfl
  ·exact fun a l c e=>by cases e
  ·exact fun a l c e=>by cases e
  intro a l c e
  have:=hf a l c e
  simp only at this
  omega
 intro v hv b o l c e
 have h3:=hlo15 b l c o e
 rcases List.mem_append.1 hv with hv|hv
 ·intro a l' c' e'
  have:=hb v hv a l' c' e'
  simp only at this
  show a.block≠b
  omega
 simp only [List.mem_cons,List.not_mem_nil,or_false] at hv
 rcases hv with rfl|rfl|rfl
 ·exact fun a l c e=>by cases e
 ·exact fun a l c e=>by cases e
 intro a l' c' e'
 subst e'
 have:a.block<3*n1:=hbE
 show a.block≠b
 omega
theorem MI.ext {bF:Nat}{vM:Value}{ms:List (Int×Int×List (List UInt8))}(m:MI h n lo bF ty vM ce ms)(hx:Ext n h h')(hn:n≤n')(hb:bF<3*n):MI h' n' lo bF ty vM ce ms:=by
 obtain ⟨e,he⟩:=m.cell
 exact ⟨m.gro.ext hx hn,m.mat.ext hx hn,m.los,m.ne,e,(hx _ hb).trans he⟩
def mats (B:List Int)(K:List (List Int))(c:Nat):List (Int×Int×List (List UInt8)):=(List.range c).map fun b=>coM ((B[b]?).getD 0).toNat ((K[b]?).getD [])
theorem vh {K:List (List Int)}{c:Nat}(hd:B[c]?=some (d:Int))(hL:K[c]?=some L):mats B K (c+1)=mats B K c++[coM d L]:=by
 simp [mats,List.range_succ,hd,hL]
theorem xm (B:List Int)(K:List (List Int))(c:Nat):(mats B K c).length=c:=by simp [mats]
end
section
theorem qO {a c:Tmp}(ha:s.t a=.pointer (some ⟨b,0,none⟩))(hc:s.t c=u)(hl:yH env ty s.h ⟨b,0,none⟩=some v):resF env s [.cell a ty,.tmp c]=some [v,u]:=by
 simp only [resF,ha,hc,hl]
section
variable {X:CtxF}{ops r:List Oper}{ms:List Nat}{i m1 m2:Nat}{t:TF}{h:HF}{n:Nat}{w:List Nat}{ld:List (Nat×Nat)}{Q:SV→Prop}{o o2:Oper}{a d:Tmp}
theorem kr {f:α→Value}{l:List α}{dv:α}{e2:TypeId}{ii:Operand}{ji:Int}(hw:zf ops t o=true)(hd:o.dst=some a)(hn:zj X.nt (some a)=true)(ho:o.op=.indexAddr ty x ii)(hu:X.E.und ty=some (.slice e))(hi:X.E.inf e=some (1,bt,z))
  (hx:evF t x=v)(hs:Sl h m 1 v (l.map f))(hj:evF t ii=.int ik ji)(hji:ji=(j:Int))(hg:l[j]?=some dv)
  (hw2:∀p,zf ops (upd t a p) o2=true)(hd2:o2.dst=some d)(hn2:zj X.nt (some d)=true)(ho2:o2.op=.load e2 (.tmp a))(ha:GL.isAgg X.E e2=some false)
  (k:∀p b,b<3*m→ED X ops r ms (i+1+1) ⟨⟨upd (upd t a p) d (f dv),h,n,w⟩,[],(i+1,b)::ld,[]⟩ Q):ED X ops (o::o2::r) (m1::m2::ms) i ⟨⟨t,h,n,w⟩,[],ld,[]⟩ Q:=by
 subst hji
 have hlt:=(List.getElem?_eq_some_iff.1 hg).1
 obtain ⟨ad,len,cap,rfl,hl⟩:=hs.len
 simp only [List.length_map,Nat.mul_one] at hl
 obtain ⟨b,off,xb,cs,rfl,hb3,hxb,hc,_,hle,he⟩:=hs.inv zo
 have hcell:cs[off+j]?=some (f dv):=yk he (by rw [List.getElem?_map,hg];rfl)
 refine vr ⟨hw,hd,hn,ho,hu,hi,hx,hj⟩ zo ?_
 refine zC ⟨(hw2 _),hd2,hn2,ho2,(ze _ _ _),rfl⟩ (zG ha hxb ⟨hc,(by rw [←hcell];congr 1;omega)⟩) R2 ?_
 exact k _ _ hb3
end
structure FcP (B:List Int)(K:List (List Int))(h':HF)(n':Nat)(vM:Value)(e:Int):Prop where
 sh:K.length≠B.length→e=4∧vM=.slice none 0 0
 rg:K.length=B.length→¬wo B K K.length→e=3∧vM=.slice none 0 0
 ok:K.length=B.length→wo B K K.length→e=0∧∃ce,Sl h' n' 3 vM ce∧MatR h' n' ce (mats B K K.length)
theorem pv (k:Nat){h:HF}(hG:GK.G h){n:Nat}{p:Sdp}{F least:Nat}(hF:F≤100)(hn:20≤n)(hp:SdpR h n vB vO vF vE p)(hok:SdpOk F least p){aK:Option Addr}{cK:Nat}{K:List (List Int)}(hK:KR h n (.slice aK K.length cK) K)(hK3:K.length≤3)(hK5:∀L∈K,L.length≤5):
  CF (cal (k+6)) 7 [.agg #[vB,.int .i64 (p.free:Int),vO,vF,vE],.slice aK K.length cK] h n fun v h' n' w=>w=[]∧n≤n'∧Ext n h h'∧∃vM e,v=.tuple #[.agg #[vM],.int .i64 e]∧FcP p.blocks K h' n' vM e:=by
 refine zO (fn:=Tryz.f7) R4 ?_
 have hp0:=hp
 obtain ⟨hB,hO,hFr,ceq,hE,hEq⟩:=hp
 obtain ⟨aB,lB,cB,rfl,_⟩:=hB.len
 obtain ⟨aO,lO,cO,rfl,_⟩:=hO.len
 obtain ⟨aF,lF,cF,rfl,_⟩:=hFr.len
 obtain ⟨aE,lE,cE,rfl,_⟩:=hE.len
 have hlB:=hB.lenEq (m:=p.blocks.length) zo (by simp [i64s])
 subst hlB
 have hbl:=hok.bl
 refine zN ?_
 refine yv (cs:=[.slice aB p.blocks.length cB,.int .i64 (p.free:Int),.slice aO lO cO,.slice aF lF cF,.slice aE lE cE]) R5 ?_
 refine zF R5 ?_
 generalize hh:upd (upd h (3*n+2) _) (3*(n+1)+2) _=h1
 have hx1:Ext n h h1:=fun b hb=>by rw [←hh,zh zo,zh zo]
 have hr1:∃ty,h1 (3*n+2)=some (.row [.slice aB p.blocks.length cB,.int .i64 (p.free:Int),.slice aO lO cO,.slice aF lF cF,.slice aE lE cE] ty):=⟨_,by rw [←hh,zh zo,ze]⟩
 have hz1:∃ty,h1 (3*(n+1)+2)=some (.row [.slice none 0 0] ty):=⟨_,by rw [←hh,ze];rfl⟩
 obtain ⟨ty1,hr1⟩:=hr1
 obtain ⟨tyz,hz1⟩:=hz1
 have hG1:GK.G h1:=qn hG hx1 hn
 have bad:∀(e:Int),FcP p.blocks K (upd h1 (3*(n+1)+2) (some (.row [.slice none 0 0] tyz))) (n+1+1) (.slice none 0 0) e→∀t:TF,t 4=.pointer (some ⟨3*(n+1)+2,0,none⟩)→t 5=.int .i64 e→RetH Tryz.f7 (fun v h' n' w=>w=[]∧n≤n'∧Ext n h h'∧∃vM e,v=.tuple #[.agg #[vM],.int .i64 e]∧FcP p.blocks K h' n' vM e) .ret ⟨t,upd h1 (3*(n+1)+2) (some (.row [.slice none 0 0] tyz)),n+1+1,[]⟩:=fun e hbad t h4 h5=>by
  refine retH [.agg #[.slice none 0 0],.int .i64 e] rfl ?_ rfl ⟨rfl,by show n≤n+1+1;omega,fun b hb=>(zh zo).trans (hx1 b hb),_,e,rfl,hbad⟩
  exact qO h4 h5 (zn R2 (ze _ _ _) rfl zb rfl)
 repeat refine zR ?_
 refine zN ?_
 refine zI (v:=.agg #[.slice aB p.blocks.length cB,.int .i64 (p.free:Int),.slice aO lO cO,.slice aF lF cF,.slice aE lE cE]) R5 (zn R2 hr1 rfl zb rfl) ?_
 refine z8 _ R5 (oo (k+2) hG1 hF zo (vB:=.slice aB p.blocks.length cB) ⟨hB.ext hx1 (show n≤n+1+1 by omega),hO.ext hx1 zo,hFr.ext hx1 zo,ceq,hE.ext hx1 zo,hEq.ext hx1 zo⟩ hok) ?_
 rintro _ rfl
 repeat refine zR ?_
 refine zN ?_
 rw [za rfl]
 refine zN ?_
 repeat refine zR ?_
 refine zg R6 hr1 (v:=.slice aB p.blocks.length cB) R2 ?_
 by_cases hlen:K.length≠p.blocks.length
 ·repeat refine zR ?_
  refine zN ?_
  rw [zc rfl]
  refine zN ?_
  refine zm (v:=.agg #[.slice none 0 0]) R5 ?_
  refine zp [.slice none 0 0] R7 rfl hz1 rfl (by show 3*n≤3*(n+1)+2;omega) ?_
  repeat refine zR ?_
  refine zN ?_
  exact bad 4 ⟨fun _=>⟨rfl,rfl⟩,fun h0=>absurd h0 hlen,fun h0=>absurd h0 hlen⟩ _ rfl rfl
 have hlen:K.length=p.blocks.length:=Classical.not_not.1 hlen
 repeat refine zR ?_
 refine zN ?_
 rw [za rfl]
 refine zN ?_
 repeat refine zR ?_
 refine zN ?_
 obtain ⟨csK,hKs,hKl,hKa⟩:=(hK.ext hx1 (show n≤n+1+1 by omega)).at_
 have hB1:=hB.ext hx1 (show n≤n+1+1 by omega)
 refine zy (α:=Nat) (fun b=>[(1,.slice aK K.length cK),(2,.pointer (some ⟨3*n+2,0,none⟩)),(4,.pointer (some ⟨3*(n+1)+2,0,none⟩)),(24,.slice aK K.length cK),(25,.int .i64 (K.length:Int)),(26,.int .i64 (b:Int))])
  (fun b h' n' w=>h1=h'∧n'=n+1+1∧w=[]∧b≤K.length∧wo p.blocks K b) (fun b=>K.length-b) 0 ⟨rfl,rfl,rfl,rfl,rfl,rfl,trivial⟩ ⟨rfl,rfl,rfl,Nat.zero_le _,wo.zero _ _⟩ (by show K.length-0<LL;unfold LL;omega) ?_
 rintro b t _ _ _ ⟨rfl,rfl,rfl,hb,hgood⟩
 refine zN ?_
 by_cases hbK:b=K.length
 ·subst hbK
  repeat refine zR ?_
  refine zN ?_
  rw [za rfl]
  refine zN ?_
  have hB2:=hB1
  refine zF R5 ?_
  generalize hh2:upd h1 (3*(n+1+1)+2) _=h2
  have hx2:Ext (n+1+1) h1 h2:=by rw [←hh2];exact Ext.upd zo
  have hf2:∃e,h2 (3*(n+1+1)+2)=some (.row [.slice none 0 0] e):=⟨_,by rw [←hh2,ze];rfl⟩
  repeat refine zR ?_
  refine zN ?_
  repeat refine zR ?_
  refine zN ?_
  refine zy (α:=Nat×Value×List Value) (fun z=>[(1,.slice aK K.length cK),(2,.pointer (some ⟨3*n+2,0,none⟩)),(4,.pointer (some ⟨3*(n+1)+2,0,none⟩)),(10,.pointer (some ⟨3*(n+1+1)+2,0,none⟩)),(65,.slice aK K.length cK),(66,.int .i64 (K.length:Int)),(67,.int .i64 (z.1:Int))])
   (fun z h' n' w=>n+1+1+1≤n'∧w=[]∧Ext (n+1+1) h1 h'∧MI h' n' (n+1+1+1) (3*(n+1+1)+2) 68 z.2.1 z.2.2 (mats p.blocks K z.1)∧z.1≤K.length) (fun z=>K.length-z.1) (0,.slice none 0 0,[]) ⟨rfl,rfl,rfl,rfl,rfl,rfl,rfl,trivial⟩ ⟨Nat.le_refl _,rfl,hx2,MI.start hf2,Nat.zero_le _⟩ (by show K.length-0<LL;unfold LL;omega) ?_
  rintro ⟨b,vM,ce⟩ t h3 n3 _ ⟨hn3,rfl,hx3,hM,hb⟩
  simp only at hM hb
  obtain ⟨ef,hf3⟩:=hM.cell
  obtain ⟨aM,rfl,hceL⟩:=hM.gro.shape
  rw [xm] at hceL
  have hr3:=(hx3 (3*n+2) zo).trans hr1
  have hz3:=(hx3 (3*(n+1)+2) zo).trans hz1
  refine zN ?_
  by_cases hbK:b=K.length
  ·subst hbK
   repeat refine zR ?_
   refine zN ?_
   rw [za rfl]
   refine zN ?_
   refine zI (v:=.agg #[.slice aM (mats p.blocks K K.length).length (mats p.blocks K K.length).length]) R5 (zn R2 hf3 rfl zb rfl) ?_
   refine zp [.slice aM (mats p.blocks K K.length).length (mats p.blocks K K.length).length] R7 rfl hz3 rfl (by show 3*n≤3*(n+1)+2;omega) ?_
   repeat refine zR ?_
   refine zN ?_
   refine retH [.agg #[.slice aM (mats p.blocks K K.length).length (mats p.blocks K K.length).length],.int .i64 0] rfl (qO rfl rfl (zn R2 (ze _ _ _) rfl zb rfl)) rfl ⟨rfl,by show n≤n3;omega,fun b hb=>(zh zo).trans ((hx3 b zo).trans (hx1 b hb)),_,0,rfl,fun h0=>absurd hlen h0,fun _ h0=>absurd hgood h0,fun _ _=>⟨rfl,ce,?_,?_⟩⟩
   ·exact hM.gro.sl.keep (fun a l c e=>zh (by have:=Pt.of_fresh hM.gro.fresh a l c e;simp only at this;omega)) (Nat.le_refl _)
   exact hM.mat.mapS fun v hv sz c hs=>hs.keep (fun a l c' e=>zh (by have:=hM.los v hv a l c' e;simp only at this;omega)) (Nat.le_refl _)
  obtain ⟨L,hL⟩:∃x,K[b]?=some x:=⟨K[b]'zo,List.getElem?_eq_getElem zo⟩
  obtain ⟨d,hd⟩:∃x,p.blocks[b]?=some x:=⟨p.blocks[b]'zo,List.getElem?_eq_getElem zo⟩
  have hd3:=hok.b3 d (List.mem_of_getElem? hd)
  obtain ⟨N,rfl⟩:∃N:Nat,d=(N:Int):=⟨d.toNat,zo⟩
  obtain ⟨aL,cL,hcL,hLs⟩:=hKa b L hL
  have hL5:=hK5 L (List.mem_of_getElem? hL)
  have hgl:=hgood b L N zo hL hd
  repeat refine zR ?_
  refine zN ?_
  rw [zc rfl]
  refine zN ?_
  repeat refine zR ?_
  refine y6 (f:=id) (l:=csK) (j:=b) R7 (by rw [List.map_id];exact hKs.ext hx3 (show n+1+1≤n3 by omega)) R2 hcL (fun _=>rfl) R4 fun _=>?_
  repeat refine zR ?_
  refine zN ?_
  refine yK [0,1,0,4,0,28,60,0,252,508,1023,2047,4095] rfl ?_
  repeat refine zE ?_
  refine zC R6 (zG rfl hf3 R2) R2 ?_
  repeat refine zE ?_
  refine zC R6 (zG rfl hr3 R2) R2 ?_
  repeat refine zE ?_
  refine kr (j:=b) rfl rfl rfl rfl rfl rfl rfl (hB1.ext hx3 (show n+1+1≤n3 by omega)) rfl rfl hd (fun _=>rfl) rfl rfl rfl rfl fun _ bb hbb=>?_
  repeat refine zE ?_
  refine yB _ R7 (vK k (N:=N) (hLs.ext hx3 (show n+1+1≤n3 by omega)) zo zo (fun i hi=>by
   obtain ⟨j,hj⟩:=List.getElem?_of_mem hi
   have:=hgl j i (List.getElem?_eq_some_iff.1 hj).1 hj
   exact ⟨this.1,this.2.1⟩)) ?_
  rintro _ h4 n4 _ ⟨rfl,hn4,hx4,vE,rfl,hE4,hP4⟩
  refine ⟨zL,hn4,?_⟩
  refine s6 (cs:=[.int .i64 (coM N L).1,.int .i64 (coM N L).2.1,vE]) R5 ?_
  have hg5:=(hM.gro.ext hx4 hn4).ext (Ext.upd (b:=3*n4+2) (x:=some (.row [.int .i64 (coM N L).1,.int .i64 (coM N L).2.1,vE] 68)) zo) (Nat.le_succ n4)
  refine tx (mm:=1) R8 zd R3 hg5 (yc (ze _ _ _) R2) (Nat.le_refl _) (by rw [xm];omega) rfl (by show ones [vE]=true;rw [hE4.ones];rfl) (by show n≤n+1+1+1∧_;omega) ?_
  intro v15 h15 W15 hg15 hx15 hk15 hf15
  obtain ⟨a15,rfl,_⟩:=hg15.shape
  have hr15:h15 (3*(n+1+1)+2)=_:=(hx15 _ zo).trans ((zh zo).trans ((hx4 _ zo).trans hf3))
  repeat refine zE ?_
  refine yN (cs:=[.slice a15 ((mats p.blocks K b).length+1) ((mats p.blocks K b).length+1)]) R8 hr15 zb (by show 3*n≤3*(n+1+1)+2;omega) R3 ?_
  refine zN ?_
  repeat refine zR ?_
  refine zN ?_
  refine goOn (b+1,.slice a15 ((mats p.blocks K b).length+1) ((mats p.blocks K b).length+1),ce++[.int .i64 (coM N L).1,.int .i64 (coM N L).2.1,vE]) (by show K.length-(b+1)<K.length-b;omega) ⟨rfl,rfl,rfl,rfl,rfl,rfl,rfl,trivial⟩ ⟨by show n+1+1+1≤n4+1+1;omega,rfl,fun b' hb'=>(zh zo).trans ((hx15 b' zo).trans ((zh zo).trans ((hx4 b' zo).trans (hx3 b' hb')))),?_,by show b+1≤K.length;omega⟩
  show MI _ _ _ _ _ _ _ (mats p.blocks K (b+1))
  rw [vh hd hL]
  exact hM.step zo hx4 hn4 hE4 hP4 hg15 hk15 hf15
 obtain ⟨L,hL⟩:∃x,K[b]?=some x:=⟨K[b]'zo,List.getElem?_eq_getElem zo⟩
 obtain ⟨d,hd⟩:∃x,p.blocks[b]?=some x:=⟨p.blocks[b]'zo,List.getElem?_eq_getElem zo⟩
 obtain ⟨aL,cL,hcL,hLs⟩:=hKa b L hL
 have hL5:=hK5 L (List.mem_of_getElem? hL)
 repeat refine zR ?_
 refine zN ?_
 rw [zc rfl]
 refine zN ?_
 repeat refine zR ?_
 refine y6 (f:=id) (l:=csK) R7 (by rw [List.map_id];exact hKs) R2 hcL (fun _=>rfl) R4 fun _=>?_
 repeat refine zR ?_
 refine zN ?_
 repeat refine zR ?_
 refine zN ?_
 refine zy (α:=Nat) (fun i=>[(1,.slice aK K.length cK),(2,.pointer (some ⟨3*n+2,0,none⟩)),(4,.pointer (some ⟨3*(n+1)+2,0,none⟩)),(24,.slice aK K.length cK),(25,.int .i64 (K.length:Int)),(26,.int .i64 (b:Int)),(6,.int .i64 (b:Int)),(7,.slice aL L.length cL),(31,.slice aL L.length cL),(32,.int .i64 (L.length:Int)),(33,.int .i64 (i:Int))])
  (fun i h' n' w=>h1=h'∧n'=n+1+1∧w=[]∧i≤L.length∧vz d L i) (fun i=>L.length-i) 0 ⟨rfl,rfl,rfl,rfl,rfl,rfl,rfl,rfl,rfl,rfl,rfl,trivial⟩ ⟨rfl,rfl,rfl,Nat.zero_le _,vz.zero _ _⟩ (by show L.length-0<LL;unfold LL;omega) ?_
 rintro i t _ _ _ ⟨rfl,rfl,rfl,hi,hgl⟩
 refine zN ?_
 by_cases hiL:i=L.length
 ·subst hiL
  repeat refine zR ?_
  refine zN ?_
  rw [za rfl]
  refine zN ?_
  repeat refine zR ?_
  refine zN ?_
  exact goOn (b+1) (by show K.length-(b+1)<K.length-b;omega) ⟨rfl,rfl,rfl,rfl,rfl,rfl,trivial⟩ ⟨rfl,rfl,rfl,by show b+1≤K.length;omega,hgood.succ hL hd hgl⟩
 obtain ⟨x,hx⟩:∃x,L[i]?=some x:=⟨L[i]'zo,List.getElem?_eq_getElem zo⟩
 have fail:¬(0≤x∧x<d∧∀y,0<i→L[i-1]?=some y→y<x)→_:=fun hno=>bad 3 ⟨fun h0=>absurd hlen h0,fun _ _=>⟨rfl,rfl⟩,fun _ hg=>absurd (hg b L d zo hL hd i x zo hx) hno⟩
 repeat refine zR ?_
 refine zN ?_
 rw [zc rfl]
 refine zN ?_
 repeat refine zR ?_
 refine y6 (j:=i) R7 hLs R2 hx (fun _=>rfl) R4 fun _=>?_
 repeat refine zR ?_
 refine zN ?_
 by_cases hx0:x<0
 ·repeat refine zR ?_
  refine zN ?_
  rw [zc rfl]
  refine zN ?_
  refine zm (v:=.agg #[.slice none 0 0]) R5 ?_
  refine zp [.slice none 0 0] R7 rfl hz1 rfl (by show 3*n≤3*(n+1)+2;omega) ?_
  repeat refine zR ?_
  refine zN ?_
  exact fail (fun q=>by omega) _ rfl rfl
 repeat refine zR ?_
 refine zg R6 hr1 (v:=.slice aB p.blocks.length cB) R2 ?_
 repeat refine zR ?_
 refine y6 (j:=b) R7 hB1 R2 hd (fun _=>rfl) R4 fun _=>?_
 by_cases hxd:d≤x
 ·repeat refine zR ?_
  refine zN ?_
  rw [zc rfl]
  refine zN ?_
  refine zm (v:=.agg #[.slice none 0 0]) R5 ?_
  refine zp [.slice none 0 0] R7 rfl hz1 rfl (by show 3*n≤3*(n+1)+2;omega) ?_
  repeat refine zR ?_
  refine zN ?_
  exact fail (fun q=>by omega) _ rfl rfl
 by_cases hi0:i=0
 ·repeat refine zR ?_
  refine zN ?_
  rw [za rfl]
  refine zN ?_
  repeat refine zR ?_
  refine zN ?_
  refine goOn (i+1) (by show L.length-(i+1)<L.length-i;omega) ⟨rfl,rfl,rfl,rfl,rfl,rfl,rfl,rfl,rfl,rfl,rfl,trivial⟩ ⟨rfl,rfl,rfl,by show i+1≤L.length;omega,hgl.succ hx ⟨zo,zo,fun y h0 _=>by omega⟩⟩
 obtain ⟨y,hy⟩:∃y,L[i-1]?=some y:=⟨L[i-1]'zo,List.getElem?_eq_getElem zo⟩
 repeat refine zR ?_
 refine y6 (j:=i-1) R7 hLs ⟨rfl,zo⟩ hy (fun _=>rfl) R4 fun _=>?_
 by_cases hlt:y<x
 ·repeat refine zR ?_
  refine zN ?_
  rw [za rfl]
  refine zN ?_
  repeat refine zR ?_
  refine zN ?_
  refine goOn (i+1) (by show L.length-(i+1)<L.length-i;omega) ⟨rfl,rfl,rfl,rfl,rfl,rfl,rfl,rfl,rfl,rfl,rfl,trivial⟩ ⟨rfl,rfl,rfl,by show i+1≤L.length;omega,hgl.succ hx ⟨zo,zo,fun y' _ h'=>by rw [hy] at h';injection h' with h';omega⟩⟩
 repeat refine zR ?_
 refine zN ?_
 rw [zc rfl]
 refine zN ?_
 refine zm (v:=.agg #[.slice none 0 0]) R5 ?_
 refine zp [.slice none 0 0] R7 rfl hz1 rfl (by show 3*n≤3*(n+1)+2;omega) ?_
 repeat refine zR ?_
 refine zN ?_
 exact fail (fun q=>hlt (q.2.2 y zo hy)) _ rfl rfl
end
section
def bitC (o:Option (Value×Value)):List Value:=match o with|none=>[.bool false,.slice none 0 0,.bool false,.slice none 0 0]|some (a,b)=>[a,b,.bool false,.slice none 0 0]
theorem xW (o:Option (Value×Value)):(bitC o).length=4:=by cases o<;>rfl
theorem xS {g:Nat→List Value}(hg:∀c,(g c).length=4):∀(K p:Nat),((List.range K).flatMap g)[p]?=if p/4<K then (g (p/4))[p%4]? else none:=by
 intro K
 have hl:∀K,((List.range K).flatMap g).length=4*K:=fun K=>by
  induction K with
  |zero=>rfl
  |succ K ih=>rw [List.range_succ,List.flatMap_append,List.length_append,ih];simp [hg];omega
 induction K with
 |zero=>intro p;simp
 |succ K ih=>
  intro p
  rw [List.range_succ,List.flatMap_append]
  by_cases hp:p<4*K
  ·rw [List.getElem?_append_left (by rw [hl];exact hp),ih p,if_pos zo,if_pos zo]
  rw [List.getElem?_append_right (by rw [hl];omega),hl]
  show (g K++[])[p-4*K]?=_
  rw [List.append_nil]
  by_cases hp2:p<4*K+4
  ·rw [if_pos zo,show p/4=K by omega,show p%4=p-4*K by omega]
  rw [if_neg zo,List.getElem?_eq_none (by rw [hg];omega)]
theorem tn {g:Nat→List Value}(hg:∀c,(g c).length=4)(K:Nat):((List.range K).flatMap g).length=K*4:=by
 induction K with
 |zero=>rfl
 |succ K ih=>rw [List.range_succ,List.flatMap_append,List.length_append,ih];simp [hg];omega
theorem o7 {g:Nat→List Value}(hg:∀c,(g c).length=4){K c:Nat}(hc:c<K):(((List.range K).flatMap g).drop (c*4)).take 4=g c:=by
 apply List.ext_getElem?
 intro j
 by_cases hj:j<4
 ·rw [List.getElem?_take_of_lt hj,List.getElem?_drop,xS hg,if_pos zo,show (c*4+j)/4=c by omega,show (c*4+j)%4=j by omega]
 rw [List.getElem?_eq_none (by simp;omega),List.getElem?_eq_none (by rw [hg];omega)]
theorem pr {g g':Nat→List Value}(hg:∀c,(g c).length=4)(hg':∀c,(g' c).length=4){K:Nat}(hj:j<K)(h:∀c,c≠j→c<K→g' c=g c):zk ((List.range K).flatMap g) (j*4) (g' j)=(List.range K).flatMap g':=by
 have hl:=tn hg K
 apply List.ext_getElem?
 intro p
 rw [xS hg']
 unfold zk
 rw [hg',←List.append_assoc]
 have hl1:(List.take (j*4) ((List.range K).flatMap g)).length=j*4:=by rw [List.length_take,hl];omega
 have hl2:(List.take (j*4) ((List.range K).flatMap g)++g' j).length=j*4+4:=by rw [List.length_append,hl1,hg']
 by_cases hp:p<j*4
 ·rw [List.getElem?_append_left zo,List.getElem?_append_left zo,List.getElem?_take_of_lt hp,xS hg,if_pos zo,if_pos zo,h _ zo zo]
 by_cases hp2:p<j*4+4
 ·rw [List.getElem?_append_left zo,List.getElem?_append_right zo,hl1,if_pos zo,show p/4=j by omega]
  congr 1
  omega
 rw [List.getElem?_append_right zo,hl2,List.getElem?_drop,xS hg,show j*4+4+(p-(j*4+4))=p by omega]
 split
 ·rw [h _ zo zo]
 rfl
def rowC (L:List Int)(os:List (Value×Value))(i:Nat):List Value:=(List.range L.length).flatMap fun c=>bitC (if L[c]?=some (i:Int) then os[c]? else none)
theorem sI (L:List Int)(os:List (Value×Value))(i:Nat):(rowC L os i).length=L.length*4:=tn (fun _=>xW _) _
theorem oQ {os:List (Value×Value)}{o:Value×Value}(hi:L[os.length]?=some (i:Int)):zk (rowC L os i) (os.length*4) (bitC (some o))=rowC L (os++[o]) i:=by
 have hj:os.length<L.length:=(List.getElem?_eq_some_iff.1 hi).1
 have h:=pr (g:=fun c=>bitC (if L[c]?=some (i:Int) then os[c]? else none)) (g':=fun c=>bitC (if L[c]?=some (i:Int) then (os++[o])[c]? else none)) (fun _=>xW _) (fun _=>xW _) hj fun c h1 h2=>by
  show bitC _=bitC _
  congr 1
  split
  ·rcases Nat.lt_or_ge c os.length with h3|h3
   ·rw [List.getElem?_append_left h3]
   rw [List.getElem?_eq_none (by simp;omega),List.getElem?_eq_none h3]
  rfl
 simp only [hi,if_true,List.getElem?_append_right (Nat.le_refl _),Nat.sub_self] at h
 exact h
theorem rN {os:List (Value×Value)}{o:Value×Value}(hi:L[os.length]?≠some (i:Int)):rowC L (os++[o]) i=rowC L os i:=by
 unfold rowC
 simp only [List.flatMap]
 congr 1
 refine List.map_congr_left fun c hc=>?_
 congr 1
 by_cases h:L[c]?=some (i:Int)
 ·rw [if_pos h,if_pos h]
  rcases Nat.lt_trichotomy c os.length with h3|h3|h3
  ·rw [List.getElem?_append_left h3]
  ·rw [h3] at h;exact absurd h hi
  rw [List.getElem?_eq_none (by simp;omega),List.getElem?_eq_none zo]
 rw [if_neg h,if_neg h]
theorem qM (L:List Int)(i:Nat):rowC L [] i=rep L.length (bitC none):=by
 unfold rowC
 rw [show (fun c=>bitC (if L[c]?=some (i:Int) then ([]:List (Value×Value))[c]? else none))=fun _=>bitC none from funext fun c=>by simp]
 generalize L.length=K
 induction K with
 |zero=>rfl
 |succ K ih=>
  have hr:∀K,rep (K+1) (bitC none)=rep K (bitC none)++bitC none:=fun K=>by
   induction K with
   |zero=>rfl
   |succ K ih=>show bitC none++rep (K+1) (bitC none)=(bitC none++rep K (bitC none))++bitC none;rw [ih,List.append_assoc]
  rw [List.range_succ,List.flatMap_append,ih,hr]
  simp
def rK (m N K:Nat):List Value:=(List.range N).map fun i=>Value.slice (some ⟨3*(m+i)+2,0,none⟩) K K
def wA (m N K j:Nat):List Value:=(List.range N).map fun i=>if i<j then Value.slice (some ⟨3*(m+i)+2,0,none⟩) K K else .slice none 0 0
theorem rL (m N K:Nat):wA m N K 0=List.replicate N (.slice none 0 0):=by
 unfold wA
 apply List.ext_getElem?
 intro i
 by_cases hi:i<N
 ·simp [hi,List.getElem?_replicate]
 simp [hi,List.getElem?_replicate]
theorem xM (m N K j:Nat):(wA m N K j).length=N:=by simp [wA]
theorem qJ (m N K:Nat):wA m N K N=rK m N K:=List.map_congr_left fun i hi=>if_pos (List.mem_range.1 hi)
theorem qI (m N K j:Nat):(wA m N K j).set j (.slice (some ⟨3*(m+j)+2,0,none⟩) K K)=wA m N K (j+1):=by
 apply List.ext_getElem?
 intro i
 rw [List.getElem?_set]
 by_cases hi:i<N
 ·by_cases hj:j=i
  ·subst hj
   simp [wA,hi]
  rw [if_neg hj]
  simp only [wA,List.getElem?_map,List.getElem?_range hi,Option.map_some]
  congr 1
  by_cases h:i<j
  ·rw [if_pos h,if_pos zo]
  rw [if_neg h,if_neg zo]
 have h1:(wA m N K (j+1))[i]?=none:=List.getElem?_eq_none (by rw [xM];omega)
 have h2:(wA m N K j)[i]?=none:=List.getElem?_eq_none (by rw [xM];omega)
 rw [h1,h2]
 split
 ·split
  ·rename_i h3 h4;rw [xM] at h4;omega
  rfl
 rfl
theorem uw {K:Nat}(hi:i<N):(rK m N K)[i]?=some (.slice (some ⟨3*(m+i)+2,0,none⟩) K K):=by simp [rK,hi]
theorem nw (k:Nat)(h:HF)(n:Nat){K:Nat}(hN:N≤1000)(hK:K≤1000):CF (cal (k+1)) 22 [.int .i64 (N:Int),.int .i64 (K:Int)] h n fun v h' n' w=>w=[]∧n'=n+1+N∧Ext n h h'∧v=.slice (some ⟨3*n+2,0,none⟩) N N∧(∃e,h' (3*n+2)=some (.row (rK (n+1) N K) e))∧∀i,i<N→∃e,h' (3*(n+1+i)+2)=some (.row (rep K (bitC none)) e):=by
 refine zO (fn:=Tryz.f22) R4 ?_
 refine zN ?_
 refine zM ?_
 refine zN ?_
 refine zM ?_
 refine wQ (len:=N) (cap:=N) R9 zo ?_
 rw [show zi (Value.slice none 0 0)=[Value.slice none 0 0] from rfl,ux]
 refine zM ?_
 refine zN ?_
 refine zM ?_
 refine zN ?_
 refine zy (α:=Nat) (fun j=>[(0,.int .i64 (N:Int)),(1,.int .i64 (K:Int)),(5,.slice (some ⟨3*n+2,0,none⟩) N N),(6,.int .i64 (j:Int))])
  (fun j h' n' w=>n'=n+1+j∧w=[]∧Ext n h h'∧j≤N∧(∃e,h' (3*n+2)=some (.row (wA (n+1) N K j) e))∧∀i,i<j→∃e,h' (3*(n+1+i)+2)=some (.row (rep K (bitC none)) e)) (fun j=>N-j) 0 ⟨rfl,rfl,rfl,rfl,trivial⟩ ⟨rfl,rfl,Ext.upd zo,Nat.zero_le _,⟨_,by rw [rL];exact ze _ _ _⟩,fun i hi=>absurd hi (Nat.not_lt_zero _)⟩ (by show N-0<LL;unfold LL;omega) ?_
 rintro j t h1 _ _ ⟨rfl,rfl,hx,hj,⟨e,hr⟩,hrows⟩
 refine zN ?_
 by_cases hjN:j=N
 ·subst hjN
  repeat refine zR ?_
  refine zN ?_
  rw [za rfl]
  refine zN ?_
  repeat refine zR ?_
  refine zN ?_
  exact retH [.slice (some ⟨3*n+2,0,none⟩) j j] rfl (zl rfl) rfl ⟨rfl,rfl,hx,rfl,⟨e,by rw [←qJ];exact hr⟩,hrows⟩
 repeat refine zR ?_
 refine zN ?_
 rw [zc rfl]
 refine zN ?_
 refine zM ?_
 refine zM ?_
 refine zM ?_
 refine wQ (len:=K) (cap:=K) R9 zo ?_
 rw [show zi (Value.agg #[.bool false,.slice none 0 0,.bool false,.slice none 0 0])=bitC none from rfl]
 refine qz (j:=j) R9 ⟨zo,by rw [xM];omega⟩ ((zh zo).trans hr) (by show 3*n≤3*n+2;omega) (fun _=>rfl) rfl rfl rfl (fun _=>rfl) rfl fun _=>?_
 rw [qI]
 refine zN ?_
 repeat refine zR ?_
 refine zN ?_
 refine goOn (j+1) (by show N-(j+1)<N-j;omega) ⟨rfl,rfl,rfl,rfl,trivial⟩ ⟨rfl,rfl,fun b hb=>(zh zo).trans ((zh zo).trans (hx b hb)),zo,⟨e,ze _ _ _⟩,fun i hi=>?_⟩
 by_cases hij:i=j
 ·subst hij
  exact ⟨_,(zh zo).trans (ze _ _ _)⟩
 obtain ⟨e2,h2⟩:=hrows i zo
 exact ⟨e2,(zh zo).trans ((zh zo).trans h2)⟩
structure RMat (h:HF)(n:Nat)(v:Value)(N:Nat)(L:List Int):Prop where
 ex:∃(m:Nat) (os:List (Value×Value)),v=.slice (some ⟨3*m+2,0,none⟩) N N∧m+1+N≤n∧(∃e,h (3*m+2)=some (.row (rK (m+1) N L.length) e))∧(∀i,i<N→∃e,h (3*(m+1+i)+2)=some (.row (rowC L os i) e))∧os.length=L.length∧∀o∈os,∃ln,RatR h n o.1 o.2 (.bool false) (.slice none 0 0) ((1:Int):Rat) ln []∧ln.length≤2
theorem RMat.ext (r:RMat h n v N L)(x:Ext n h h')(hn:n≤n'):RMat h' n' v N L:=by
 obtain ⟨m,os,e1,e2,⟨e,h1⟩,h2,h3,h4⟩:=r.ex
 exact ⟨m,os,e1,zo,⟨e,(x _ zo).trans h1⟩,fun i hi=>by obtain ⟨e,h5⟩:=h2 i hi;exact ⟨e,(x _ zo).trans h5⟩,h3,fun o ho=>by obtain ⟨ln,h5,h6⟩:=h4 o ho;exact ⟨ln,h5.ext x hn,h6⟩⟩
def rowT (L:List Int)(i:Nat):List (List UInt8):=(List.range L.length).map fun j=>bitT (hasC L L.length i j)
theorem l5:decT 1=[49]:=by
 unfold decT decB
 rw [if_neg zd,xU zd,yC]
 rfl
theorem ratZ (h:HF)(n:Nat):RatR h n (.bool false) (.slice none 0 0) (.bool false) (.slice none 0 0) ((0:Int):Rat) [] []:=
 ⟨⟨rfl,.nil (.inl rfl),Norm.nil,rfl⟩,rfl,.nil (.inl rfl),Norm.nil,rfl⟩
theorem m9 {os:List (Value×Value)}(hl:os.length=L.length)(ho:∀o∈os,∃ln,RatR h n o.1 o.2 (.bool false) (.slice none 0 0) ((1:Int):Rat) ln []∧ln.length≤2)(i c:Nat)(hc:c<L.length):
  ∃n1 n2 q ln,bitC (if L[c]?=some (i:Int) then os[c]? else none)=[n1,n2,.bool false,.slice none 0 0]∧RatR h n n1 n2 (.bool false) (.slice none 0 0) q ln []∧ln.length≤2∧ratT q=bitT (hasC L L.length i c):=by
 by_cases hi:L[c]?=some (i:Int)
 ·obtain ⟨o,hoc⟩:∃o,os[c]?=some o:=⟨os[c]'zo,List.getElem?_eq_getElem zo⟩
  obtain ⟨ln,h1,h2⟩:=ho o (List.mem_of_getElem? hoc)
  refine ⟨o.1,o.2,_,ln,by rw [if_pos hi,hoc];rfl,h1,h2,?_⟩
  have:hasC L L.length i c=true:=by unfold hasC;exact decide_eq_true ⟨hc,hi⟩
  rw [this,wD]
  exact l5
 refine ⟨_,_,_,[],by rw [if_neg hi];rfl,ratZ h n,by decide,?_⟩
 have:hasC L L.length i c=false:=by unfold hasC;exact decide_eq_false fun q=>hi q.2
 rw [this,wD]
 rfl
def wV (L:List Int)(i j:Nat):List (List UInt8):=(List.range L.length).map fun c=>if c<j then bitT (hasC L L.length i c) else []
theorem wU (L:List Int)(i j:Nat):(wV L i j).length=L.length:=by simp [wV]
theorem rM (L:List Int)(i:Nat):wV L i 0=List.replicate L.length []:=by
 apply List.ext_getElem?
 intro c
 by_cases hc:c<L.length
 ·simp [wV,hc,List.getElem?_replicate]
 simp [wV,hc,List.getElem?_replicate]
theorem qL (L:List Int)(i:Nat):wV L i L.length=rowT L i:=List.map_congr_left fun c hc=>if_pos (List.mem_range.1 hc)
theorem qK (hj:j<L.length):(wV L i j).set j (bitT (hasC L L.length i j))=wV L i (j+1):=by
 apply List.ext_getElem?
 intro c
 rw [List.getElem?_set]
 by_cases hc:c<L.length
 ·by_cases hjc:j=c
  ·subst hjc
   simp [wV,hc]
  rw [if_neg hjc]
  simp only [wV,List.getElem?_map,List.getElem?_range hc,Option.map_some]
  congr 1
  by_cases h:c<j
  ·rw [if_pos h,if_pos zo]
  rw [if_neg h,if_neg zo]
 rw [if_neg zo,List.getElem?_eq_none (by rw [wU];omega),List.getElem?_eq_none (by rw [wU];omega)]
theorem ov (k:Nat){os:List (Value×Value)}(hb:b<3*n)(hrow:h b=some (.row (rowC L os i) e))(hl:os.length=L.length)(hL:L.length≤1000)(ho:∀o∈os,∃ln,RatR h n o.1 o.2 (.bool false) (.slice none 0 0) ((1:Int):Rat) ln []∧ln.length≤2):
  CF (cal (k+5)) 37 [.slice (some ⟨b,0,none⟩) L.length L.length] h n fun v h' n' w=>w=[]∧n'=n+1∧Ext n h h'∧v=.slice (some ⟨3*n+2,0,none⟩) L.length L.length∧∃e,h' (3*n+2)=some (.row (strs (rowT L i)) e):=by
 refine zO (fn:=Tryz.f37) R4 ?_
 refine zN ?_
 refine zM ?_
 refine zN ?_
 refine zM ?_
 repeat refine zR ?_
 refine wQ (len:=L.length) (cap:=L.length) R9 zo ?_
 rw [show zi (Value.string ⟨⟨[]⟩⟩)=[Value.string ⟨⟨[]⟩⟩] from rfl,ux]
 refine zM ?_
 refine zN ?_
 refine zM ?_
 refine zN ?_
 refine zy (α:=Nat) (fun j=>[(0,.slice (some ⟨b,0,none⟩) L.length L.length),(3,.slice (some ⟨3*n+2,0,none⟩) L.length L.length),(4,.int .i64 (j:Int))])
  (fun j h' n' w=>n'=n+1∧w=[]∧Ext n h h'∧j≤L.length∧∃e,h' (3*n+2)=some (.row (strs (wV L i j)) e)) (fun j=>L.length-j) 0 ⟨rfl,rfl,rfl,trivial⟩ ⟨rfl,rfl,Ext.upd zo,Nat.zero_le _,_,by rw [rM];simp only [strs,List.map_replicate];exact ze _ _ _⟩ (by show L.length-0<LL;unfold LL;omega) ?_
 rintro j t h1 _ _ ⟨rfl,rfl,hx,hj,e1,hr⟩
 refine zN ?_
 by_cases hjL:j=L.length
 ·subst hjL
  repeat refine zR ?_
  refine zN ?_
  rw [za rfl]
  refine zN ?_
  repeat refine zR ?_
  refine zN ?_
  exact retH [.slice (some ⟨3*n+2,0,none⟩) L.length L.length] rfl (zl rfl) rfl ⟨rfl,rfl,hx,rfl,e1,by rw [←qL];exact hr⟩
 obtain ⟨n1,n2,q,ln,hc,hq,hln,hqt⟩:=m9 hl ho i j zo
 repeat refine zR ?_
 refine zN ?_
 rw [zc rfl]
 refine zN ?_
 refine zM ?_
 refine zM ?_
 refine zM ?_
 refine zM ?_
 refine yh R8 zo ?_
 refine zI (v:=.agg #[n1,n2,.bool false,.slice none 0 0]) R5 (zn R2 ((hx b hb).trans hrow) rfl (by rw [sI];simp;omega) (by rw [←hc];simp only [Nat.zero_add,Int.toNat_natCast];exact o7 (fun _=>xW _) zo)) ?_
 refine z8 _ R5 (us k (hq.ext hx (Nat.le_succ n)) ⟨zo,by decide⟩) ?_
 rintro _ rfl
 refine qz (j:=j) R9 ⟨zo,by rw [yT,wU];omega⟩ hr (by show 3*n≤3*n+2;omega) (fun _=>rfl) rfl rfl rfl (fun _=>rfl) rfl fun _=>?_
 rw [sE,hqt,qK zo]
 refine zN ?_
 repeat refine zR ?_
 refine zN ?_
 exact goOn (j+1) (by show L.length-(j+1)<L.length-j;omega) ⟨rfl,rfl,rfl,trivial⟩ ⟨rfl,rfl,fun b' hb'=>(zh zo).trans (hx b' hb'),zo,e1,ze _ _ _⟩
end
section
variable {e sT xT:TypeId}{N b bt bytes len lo m n' size sz:Nat}{u v z:Value}{x:Operand}{c cs new:List Value}{B L:List Int}{h':HF}
section
variable {X:CtxF}{ops r:List Oper}{t:TF}{h:HF}{n:Nat}{w:List Nat}{Q:SV→Prop}{o:Oper}{d:Tmp}
theorem wkA (cs:List Value)(hw:zf ops t o=true∧o.dst=some d∧zj X.nt (some d)=true∧o.op=.alloc e∧X.E.inf e=some (sz,bt,z)∧zi z=cs)
  (k:∀h',h' (3*n+2)=some (.row cs e)→Ext n h h'→EO X ops r ⟨upd t d (.pointer (some ⟨3*n+2,0,none⟩)),h',n+1,w⟩ Q):EO X ops (o::r) ⟨t,h,n,w⟩ Q:=by
 obtain ⟨hw,hd,hn,ho,hi,hz⟩:=hw
 subst hz
 exact zF ⟨hw,hd,hn,ho,hi⟩ (k _ (ze _ _ _) (Ext.upd zo))
theorem mu {s:Operand}(hw:zf ops t o=true)(hd:o.dst=some d)(hn:zj X.nt (some d)=true)(ho:o.op=.call {callee:=.builtin .append,args:=#[s,x],argTypes:=#[sT,xT]})(hxT:(match X.E.und xT with|some (.int _)=>false|none=>false|_=>true)=true)
  (hu:X.E.und sT=some (.slice e))(hi:X.E.inf e=some (size,bytes,z))(hz:(zi z).length=size)(h1:1≤size∧1≤bytes)(hg:Gro h lo n e size (evF t s) len c)(hx:argS h size (evF t x) m new)(hm:1≤m)(hb:(len+m)*bytes≤1099511627776)(hl:new.length=m*size)(hon:ones new=true)(hlo:X.n0≤lo∧lo≤n)
  (k:∀v' h',Gro h' lo (n+1) e size v' (len+m) (c++new)→Ext lo h h'→Keep (evF t s) n h h'→zY n v'→EO X ops r ⟨upd t d v',h',n+1,w⟩ Q):EO X ops (o::r) ⟨t,h,n,w⟩ Q:=by
 obtain ⟨v',h',W,h2,h3,h4,h6,h5,h7⟩:=wm hu hi hz h1 hg hx hm hb hl hon hlo.2
 refine uX hw hd hn ho hxT h2 ?_
 rw [xt fun b hb=>by have:=h5 b hb;omega]
 exact k v' h' h3 h4 h6 h7
end
theorem no (N:Nat)(L:List Int):coT (N+1) L L.length=coT N L L.length++rowT L N:=by
 unfold coT rowT
 rw [List.range_succ,List.flatMap_append]
 simp
theorem m0 (N:Nat)(L:List Int)(k:Nat):(coT N L k).length=N*L.length:=by rw [←mg,vx]
theorem sH (L:List Int)(i:Nat):(rowT L i).length=L.length:=by simp [rowT]
theorem rR (l:List (List UInt8)):ones (strs l)=true:=by
 induction l with
 |nil=>rfl
 |cons e l ih=>exact ih
theorem mB (k:Nat){h:HF}{n:Nat}(r:RMat h n v N L)(hN:1≤N∧N≤8)(hL:1≤L.length∧L.length≤8):
  CF (cal (k+6)) 21 [v] h n fun v' h' n' w=>w=[]∧n≤n'∧Ext n h h'∧∃vE,v'=.agg #[.int .i64 (N:Int),.int .i64 (L.length:Int),vE]∧Sl h' n' 1 vE (strs (coT N L L.length))∧Pt (fun b=>3*n≤b) vE:=by
 refine zO (fn:=Tryz.f21) R4 ?_
 obtain ⟨m,os,rfl,hmn,⟨eo,hout⟩,hrows,hosl,hos⟩:=r.ex
 have hmul:N*L.length≤64:=Nat.le_trans (Nat.mul_le_mul hN.2 hL.2) zd
 refine zN ?_
 refine wkA [.int .i64 0,.int .i64 0,.slice none 0 0] R6 ?_
 intro h1 p1 x1
 refine zN ?_
 repeat refine zR ?_
 refine zN ?_
 rw [za rfl]
 refine zN ?_
 refine zM ?_
 repeat refine zR ?_
 refine yh R8 zo ?_
 refine zg R6 ((x1 _ zo).trans hout) (v:=.slice (some ⟨3*(m+1+0)+2,0,none⟩) L.length L.length) ⟨rfl,(uw (i:=0) zo)⟩ ?_
 refine zR ?_
 refine zm (v:=.agg #[.int .i64 (N:Int),.int .i64 (L.length:Int),.slice none 0 0]) R5 ?_
 refine wkA [.int .i64 0,.int .i64 0,.slice none 0 0] R6 ?_
 intro h2 p2 x2
 refine zp [.int .i64 (N:Int),.int .i64 (L.length:Int),.slice none 0 0] R7 rfl p2 rfl (by show 3*n≤3*(n+1)+2;omega) ?_
 refine zN ?_
 refine zM ?_
 refine zN ?_
 refine zy (α:=Nat×Value) (fun z=>[(0,.slice (some ⟨3*m+2,0,none⟩) N N),(2,.pointer (some ⟨3*n+2,0,none⟩)),(3,.pointer (some ⟨3*(n+1)+2,0,none⟩)),(4,.int .i64 (z.1:Int))])
  (fun z h' n' w=>n+2≤n'∧w=[]∧Ext n h h'∧z.1≤N∧(∃e,h' (3*n+2)=some (.row [.int .i64 0,.int .i64 0,.slice none 0 0] e))∧(∃e,h' (3*(n+1)+2)=some (.row [.int .i64 (N:Int),.int .i64 (L.length:Int),z.2] e))∧Gro h' (n+2) n' 9 1 z.2 (z.1*L.length) (strs (coT z.1 L L.length))) (fun z=>N-z.1)
  (0,.slice none 0 0) ⟨rfl,rfl,rfl,rfl,trivial⟩ ⟨by show n+2≤n+1+1;omega,rfl,fun b hb=>(zh zo).trans ((x2 b zo).trans (x1 b hb)),Nat.zero_le _,⟨_,(zh zo).trans ((x2 _ zo).trans p1)⟩,⟨_,ze _ _ _⟩,by show Gro _ _ _ _ _ _ (0*L.length) (strs (coT 0 L L.length));rw [Nat.zero_mul];exact .nil⟩ (by show N-0<LL;unfold LL;omega) ?_
 rintro ⟨j,vE⟩ t h3 n3 _ ⟨hn3,rfl,hx3,hj,⟨e2,hr2⟩,⟨e3,hr3⟩,hg⟩
 simp only at hj hr3 hg
 obtain ⟨aE,rfl,_⟩:=hg.shape
 refine zN ?_
 by_cases hjN:j=N
 ·subst hjN
  repeat refine zR ?_
  refine zN ?_
  rw [za rfl]
  refine zN ?_
  refine zI (v:=.agg #[.int .i64 (j:Int),.int .i64 (L.length:Int),.slice aE (j*L.length) (j*L.length)]) R5 (zn R2 hr3 rfl zb rfl) ?_
  refine zp [.int .i64 (j:Int),.int .i64 (L.length:Int),.slice aE (j*L.length) (j*L.length)] R7 rfl hr2 rfl (by show 3*n≤3*n+2;omega) ?_
  refine zN ?_
  refine yx R5 (ze _ _ _) rfl ⟨rfl,by show n≤n3;omega,fun b hb=>(zh zo).trans (hx3 b hb),_,rfl,?_,?_⟩
  ·exact hg.sl.keep (fun a l c e=>zh (by have:=Pt.of_fresh hg.fresh a l c e;simp only at this;omega)) (Nat.le_refl _)
  intro a l c e
  have:=Pt.of_fresh hg.fresh a l c e
  simp only at this
  omega
 obtain ⟨er,hrow⟩:=hrows j zo
 repeat refine zR ?_
 refine zN ?_
 rw [zc rfl]
 refine zN ?_
 refine yK [0,1,0,0,12,28,60,127,255,511] rfl ?_
 repeat refine zE ?_
 refine zC R6 (zG rfl hr3 R2) R2 ?_
 repeat refine zE ?_
 refine vr R8 zo ?_
 refine zC (v:=.slice (some ⟨3*(m+1+j)+2,0,none⟩) L.length L.length) R6 (zG rfl ((hx3 _ zo).trans hout) ⟨rfl,(by simp only [Int.toNat_natCast,Nat.mul_one,Nat.zero_add];exact uw zo)⟩) R2 ?_
 refine yB _ R7 (ov k (L:=L) (os:=os) (i:=j) zo ((hx3 _ zo).trans hrow) hosl zo (fun o ho=>by obtain ⟨ln,h5,h6⟩:=hos o ho;exact ⟨ln,h5.ext hx3 zo,h6⟩)) ?_
 rintro _ h4 _ _ ⟨rfl,rfl,hx4,rfl,e4,hr4⟩
 refine ⟨zL,Nat.le_succ _,?_⟩
 have hjm:(j+1)*L.length≤N*L.length:=Nat.mul_le_mul_right _ zo
 rw [Nat.succ_mul] at hjm
 refine tx (mm:=L.length) R8 zd R3 (hg.ext hx4 (Nat.le_succ n3)) (yc hr4 ⟨rfl,(by rw [yT,sH,Nat.mul_one])⟩) hL.1 zo (by rw [yT,sH,Nat.mul_one]) (rR _) (by show n≤n+2∧_;omega) ?_
 intro v5 h5 W5 hg5 hx5 hk5 hf5
 obtain ⟨a5,rfl,_⟩:=hg5.shape
 repeat refine zE ?_
 have hr5:h5 (3*(n+1)+2)=some (.row [.int .i64 (N:Int),.int .i64 (L.length:Int),.slice aE (j*L.length) (j*L.length)] e3):=(hx5 _ zo).trans ((hx4 _ zo).trans hr3)
 refine yN (cs:=[.slice a5 (j*L.length+L.length) (j*L.length+L.length)]) R8 hr5 zb (by show 3*n≤3*(n+1)+2;omega) R3 ?_
 refine zN ?_
 repeat refine zR ?_
 refine zN ?_
 refine goOn (j+1,.slice a5 (j*L.length+L.length) (j*L.length+L.length)) (by show N-(j+1)<N-j;omega) ⟨rfl,rfl,rfl,rfl,trivial⟩ ⟨by show n+2≤n3+1+1;omega,rfl,fun b hb=>(zh zo).trans ((hx5 b zo).trans ((hx4 b zo).trans (hx3 b hb))),by show j+1≤N;omega,⟨e2,(zh zo).trans ((hx5 _ zo).trans ((hx4 _ zo).trans hr2))⟩,⟨e3,ze _ _ _⟩,?_⟩
 show Gro (upd h5 _ _) _ _ _ _ _ ((j+1)*L.length) (strs (coT (j+1) L L.length))
 rw [Nat.succ_mul j L.length,no,wO]
 exact hg5.extT (bt:=3*(n+1)+2) (fun b hb hne=>zh hne) zo (Nat.le_refl _)
theorem Sl.kep {h:HF}{n:Nat}{cl C:List Value}(s:Sl h n 1 v cl)(hcl:∀x∈cl,∃k z,x=.int k z)(g:Gro h lo n e sz u len C)(hC:∀x∈C,∀k z,x≠.int k z)(k:Keep u n h h')(hn:n≤n'):Sl h' n' 1 v cl:=by
 cases s with
 |nil ha=>exact .nil (wE ha hn)
 | @at_ b off len2 cap x cs cells hb hx hc hcap hl he=>
  by_cases h0:len2=0
  ·subst h0
   have h1:cl=[]:=by rw [←he];simp
   subst h1
   exact .nil (.inr ⟨_,_,_,rfl,zo⟩)
  refine .at_ zo ((k b hb fun o l c e2=>?_).trans hx) hc hcap hl he
  subst e2
  cases g with
  |at_ hg hlo hb2 hr hl2 ho2=>
   rw [hr] at hx
   injection hx with hx
   subst hx
   injection hc with hc
   subst hc
   obtain ⟨d,hd⟩:∃d,C[off]?=some d:=⟨C[off]'zo,List.getElem?_eq_getElem zo⟩
   have hd2:d∈cl:=by
    rw [←he]
    refine List.mem_of_getElem? (i:=0) ?_
    rw [List.getElem?_take_of_lt zo,List.getElem?_drop,Nat.add_zero,hd]
   obtain ⟨k2,z,rfl⟩:=hcl d hd2
   exact hC _ (List.mem_of_getElem? hd) k2 z rfl
theorem sV {n:Nat}{h:HF}{C:List Value}(k:Keep v n h h')(g:Gro h lo n e sz v len C)(hb:gro b=false)(hl:b<3*n):h' b=h b:=by
 refine k b hl fun o l c e=>?_
 cases g with
 |nil=>cases e
 |at_ hg hlo hb2 hr hl ho=>cases e;rw [hg] at hb;cases hb
theorem lJ (n:Nat):gro (3*n+2)=false:=by
 unfold gro
 rw [show (3*n+2)%3=2 from zo]
 rfl
def isSl (v:Value):Bool:=match v with| .slice _ _ _=>true|_=>false
theorem RMat.kep {h:HF}{n:Nat}{C:List Value}(r:RMat h n v N L)(g:Gro h lo n e sz u len C)(hC:∀x∈C,isSl x=true)(k:Keep u n h h')(hn:n≤n'):RMat h' n' v N L:=by
 obtain ⟨m,os,e1,e2,⟨e,h1⟩,h2,h3,h4⟩:=r.ex
 have hCi:∀x∈C,∀k z,x≠.int k z:=fun x hx k z e=>by have:=hC x hx;rw [e] at this;cases this
 refine ⟨m,os,e1,zo,⟨e,(sV k g (lJ _) zo).trans h1⟩,fun i hi=>by obtain ⟨e,h5⟩:=h2 i hi;exact ⟨e,(sV k g (lJ _) zo).trans h5⟩,h3,fun o ho=>?_⟩
 obtain ⟨ln,h5,h6⟩:=h4 o ho
 refine ⟨ln,⟨⟨h5.num.neg,h5.num.sl.kep (fun x hx=>?_) g hCi k hn,h5.num.norm,h5.num.val⟩,rfl,.nil (.inl rfl),h5.norm,h5.val⟩,h6⟩
 obtain ⟨d,_,rfl⟩:=List.mem_map.1 hx
 exact ⟨_,_,rfl⟩
def VR (h:HF)(n:Nat)(cs:List Value)(B:List Int)(K:List (List Int))(c:Nat):Prop:=cs.length=c∧∀b,b<c→∀L (d:Nat),K[b]?=some L→B[b]?=some (d:Int)→(L=[]∧cs[b]?=some (.slice none 0 0))∨(L≠[]∧∃v,cs[b]?=some v∧RMat h n v d L)
theorem VR.ext {h:HF}{n:Nat}{K:List (List Int)}{c:Nat}(r:VR h n cs B K c)(x:Ext n h h')(hn:n≤n'):VR h' n' cs B K c:=⟨r.1,fun b hb L d h1 h2=>by
 rcases r.2 b hb L d h1 h2 with h3|⟨h3,v,h4,h5⟩
 ·exact .inl h3
 ·exact .inr ⟨h3,v,h4,h5.ext x hn⟩⟩
theorem VR.kep {h:HF}{n:Nat}{C:List Value}{K:List (List Int)}{c:Nat}(r:VR h n cs B K c)(g:Gro h lo n e sz u len C)(hC:∀x∈C,isSl x=true)(k:Keep u n h h')(hn:n≤n'):VR h' n' cs B K c:=⟨r.1,fun b hb L d h1 h2=>by
 rcases r.2 b hb L d h1 h2 with h3|⟨h3,v,h4,h5⟩
 ·exact .inl h3
 ·exact .inr ⟨h3,v,h4,h5.kep g hC k hn⟩⟩
theorem VR.isSl {h:HF}{n:Nat}{K:List (List Int)}{c:Nat}(r:VR h n cs B K c)(hK:c≤K.length)(hB:∀b,b<c→∃d:Nat,B[b]?=some (d:Int)):∀x∈cs,Go.Proofs.YtlecmppbeonckaaGreatDoor.isSl x=true:=fun x hx=>by
 obtain ⟨b,hb⟩:=List.getElem?_of_mem hx
 have hbl:=(List.getElem?_eq_some_iff.1 hb).1
 rw [r.1] at hbl
 obtain ⟨d,hd⟩:=hB b hbl
 rcases r.2 b hbl _ d (List.getElem?_eq_getElem zo) hd with ⟨_,h3⟩|⟨_,v,h4,h5⟩
 ·rw [hb] at h3;injection h3 with h3;rw [h3];rfl
 rw [hb] at h4
 injection h4 with h4
 obtain ⟨m,os,e1,_⟩:=h5.ex
 rw [h4,e1];rfl
theorem VR.snoc {h:HF}{n:Nat}{K:List (List Int)}{c:Nat}{d:Nat}(r:VR h n cs B K c)(hL:K[c]?=some L)(hd:B[c]?=some (d:Int))(h1:(L=[]∧v=.slice none 0 0)∨(L≠[]∧RMat h n v d L)):VR h n (cs++[v]) B K (c+1):=by
 refine ⟨by rw [List.length_append,r.1];rfl,fun b hb M e hM he=>?_⟩
 by_cases hbc:b=c
 ·subst hbc
  rw [hL] at hM
  rw [hd] at he
  injection hM with hM
  injection he with he
  have he:=Int.ofNat_inj.1 he
  subst hM he
  have hg:(cs++[v])[b]?=some v:=by rw [List.getElem?_append_right (by rw [r.1];omega),r.1,Nat.sub_self];rfl
  rcases h1 with ⟨h2,rfl⟩|⟨h2,h3⟩
  ·exact .inl ⟨h2,hg⟩
  exact .inr ⟨h2,v,hg,h3⟩
 rw [List.getElem?_append_left (by rw [r.1];omega)]
 exact r.2 b zo M e hM he
end
section
variable {h:HF}{n:Nat}{vB vE vF vO:Value}{B:List Int}{cs:List Value}
theorem oS (k:Nat){fr:Nat}(hB:Sl h n 1 vB (i64s B)){aK:Option Addr}{cK:Nat}{K:List (List Int)}(hK:KR h n (.slice aK K.length cK) K)(hlen:K.length=B.length)(hB8:B.length≤8∧∀d∈B,1≤d∧d≤8)(hK8:∀L∈K,L.length≤8)(hgk:wo B K K.length)(hon:ones [vB,.int .i64 (fr:Int),vO,vF,vE]=true):
  CF (cal (k+4)) 10 [.agg #[vB,.int .i64 (fr:Int),vO,vF,vE],.slice aK K.length cK] h n fun v h' n' w=>w=[]∧n≤n'∧Ext n h h'∧∃a cs,v=.slice a K.length K.length∧Sl h' n' 1 v cs∧VR h' n' cs B K K.length:=by
 refine zO (fn:=Tryz.f10) R4 ?_
 obtain ⟨aB,lB,cB,rfl,_⟩:=hB.len
 have hlB:=hB.lenEq (m:=B.length) zo (by simp [i64s])
 subst hlB
 refine zN ?_
 refine yv (cs:=[.slice aB B.length cB,.int .i64 (fr:Int),vO,vF,vE]) R5 ?_
 generalize hh:upd h (3*n+2) _=h1
 have hx1:Ext n h h1:=by rw [←hh];exact Ext.upd zo
 have hr1:∃ty,h1 (3*n+2)=some (.row [.slice aB B.length cB,.int .i64 (fr:Int),vO,vF,vE] ty):=⟨_,by rw [←hh,ze]⟩
 obtain ⟨ty1,hr1⟩:=hr1
 have hB1:=hB.ext hx1 (Nat.le_succ n)
 have hK1:=hK.ext hx1 (Nat.le_succ n)
 obtain ⟨csK,hKs,hKl,hKa⟩:=hK1.at_
 repeat refine zR ?_
 refine zN ?_
 repeat refine zR ?_
 refine zN ?_
 repeat refine zR ?_
 refine zg R6 hr1 (v:=.slice aB B.length cB) R2 ?_
 repeat refine zR ?_
 refine zN ?_
 refine zy (α:=Nat×Value×List Value) (fun z=>[(1,.slice aK K.length cK),(2,.pointer (some ⟨3*n+2,0,none⟩)),(5,z.2.1),(12,.slice aB B.length cB),(13,.int .i64 (B.length:Int)),(14,.int .i64 (z.1:Int))])
  (fun z h' n' w=>n+1≤n'∧w=[]∧Ext (n+1) h1 h'∧z.1≤B.length∧Gro h' (n+1) n' 71 1 z.2.1 z.1 z.2.2∧VR h' n' z.2.2 B K z.1) (fun z=>B.length-z.1) (0,.slice none 0 0,[]) ⟨rfl,rfl,rfl,rfl,rfl,rfl,trivial⟩ ⟨Nat.le_refl _,rfl,Ext.refl _ _,Nat.zero_le _,.nil,⟨rfl,fun b hb=>absurd hb (Nat.not_lt_zero b)⟩⟩ (by show B.length-0<LL;unfold LL;omega) ?_
 rintro ⟨b,vU,cs⟩ t h3 n3 _ ⟨hn3,rfl,hx3,hb,hg3,hv3⟩
 simp only at hb hg3 hv3
 obtain ⟨aU,rfl,_⟩:=hg3.shape
 refine zN ?_
 by_cases hbB:b=B.length
 ·subst hbB
  repeat refine zR ?_
  refine zN ?_
  rw [za rfl]
  refine zN ?_
  repeat refine zR ?_
  refine zN ?_
  refine retH [.slice aU B.length B.length] rfl (zl rfl) rfl ⟨rfl,by show n≤n3;omega,fun b hb=>(hx3 b zo).trans (hx1 b hb),aU,cs,by rw [hlen];rfl,hg3.sl,by rw [hlen];exact hv3⟩
 obtain ⟨L,hL⟩:∃x,K[b]?=some x:=⟨K[b]'zo,List.getElem?_eq_getElem zo⟩
 obtain ⟨d,hd⟩:∃x,B[b]?=some x:=⟨B[b]'zo,List.getElem?_eq_getElem zo⟩
 have hd3:=hB8.2 d (List.mem_of_getElem? hd)
 obtain ⟨N,rfl⟩:∃N:Nat,d=(N:Int):=⟨d.toNat,zo⟩
 obtain ⟨aL,cL,hcL,hLs⟩:=hKa b L hL
 have hL8:=hK8 L (List.mem_of_getElem? hL)
 have hgl:=hgk b L N zo hL hd
 have hKs3:=hKs.ext hx3 hn3
 have hsl:∀x∈cs,isSl x=true:=hv3.isSl zo fun b' hb'=>by
  obtain ⟨d,hd⟩:∃x,B[b']?=some x:=⟨B[b']'zo,List.getElem?_eq_getElem zo⟩
  have:=hB8.2 d (List.mem_of_getElem? hd)
  exact ⟨d.toNat,by rw [hd];congr 1;omega⟩
 repeat refine zR ?_
 refine zN ?_
 rw [zc rfl]
 refine zN ?_
 repeat refine zR ?_
 refine y6 (j:=b) R7 (hB1.ext hx3 hn3) R2 hd (fun _=>rfl) R4 fun _=>?_
 repeat refine zR ?_
 refine zN ?_
 repeat refine zR ?_
 refine y6 (f:=id) (l:=csK) (j:=b) R7 (by rw [List.map_id];exact hKs3) R2 hcL (fun _=>rfl) R4 fun _=>?_
 by_cases hL0:L.length=0
 ·have hLe:L=[]:=List.length_eq_zero_iff.1 hL0
  subst hLe
  repeat refine zR ?_
  refine zN ?_
  rw [zc rfl]
  refine zN ?_
  repeat refine zR ?_
  refine xJ (cs:=[.slice none 0 0]) R5 ?_
  have hg4:=hg3.ext (Ext.upd (b:=3*n3+2) (h:=h3) (x:=some (.row [.slice none 0 0] 71)) zo) (Nat.le_succ n3)
  have hv4:=hv3.ext (Ext.upd (b:=3*n3+2) (h:=h3) (x:=some (.row [.slice none 0 0] 71)) zo) (Nat.le_succ n3)
  refine vY (m:=1) R8 zd hg4 (yc (ze _ _ _) R2) (Nat.le_refl _) zo rfl rfl (by show n≤n+1∧_;omega) ?_
  intro v5 h5 hg5 hx5 hk5
  obtain ⟨a5,rfl,_⟩:=hg5.shape
  repeat refine zR ?_
  refine zN ?_
  repeat refine zR ?_
  refine zN ?_
  refine goOn (b+1,.slice a5 (b+1) (b+1),cs++[.slice none 0 0]) (by show B.length-(b+1)<B.length-b;omega) ⟨rfl,rfl,rfl,rfl,rfl,rfl,trivial⟩ ⟨by show n+1≤n3+1+1;omega,rfl,fun b' hb'=>(hx5 b' zo).trans ((zh zo).trans (hx3 b' hb')),by show b+1≤B.length;omega,hg5,(hv4.kep hg4 hsl hk5 zs).snoc hL hd (.inl ⟨rfl,rfl⟩)⟩
 have hLne:L≠[]:=fun e=>hL0 (by rw [e];rfl)
 repeat refine zR ?_
 refine zN ?_
 rw [za rfl]
 refine zN ?_
 repeat refine zR ?_
 refine y6 (f:=id) (l:=csK) (j:=b) R7 (by rw [List.map_id];exact hKs3) R2 hcL (fun _=>rfl) R4 fun _=>?_
 repeat refine zR ?_
 refine zA _ R5 (nw (k+2) h3 n3 (N:=N) (K:=L.length) zo zo) ?_
 rintro _ h4 _ _ ⟨rfl,rfl,hx4,rfl,ho4,hr4⟩
 repeat refine zR ?_
 refine zN ?_
 repeat refine zR ?_
 refine y6 (f:=id) (l:=csK) (j:=b) R7 (by rw [List.map_id];exact hKs3.ext hx4 (show n3≤n3+1+N by omega)) R2 hcL (fun _=>rfl) R4 fun _=>?_
 repeat refine zR ?_
 refine zN ?_
 refine zy (α:=List (Value×Value)) (fun os=>[(1,.slice aK K.length cK),(2,.pointer (some ⟨3*n+2,0,none⟩)),(5,.slice aU b b),(12,.slice aB B.length cB),(13,.int .i64 (B.length:Int)),(14,.int .i64 (b:Int)),(8,.slice (some ⟨3*n3+2,0,none⟩) N N),(38,.slice aL L.length cL),(39,.int .i64 (L.length:Int)),(40,.int .i64 (os.length:Int))])
  (fun os h' n' w=>n3+1+N≤n'∧w=[]∧Ext n3 h3 h'∧os.length≤L.length∧(∃e,h' (3*n3+2)=some (.row (rK (n3+1) N L.length) e))∧(∀i,i<N→∃e,h' (3*(n3+1+i)+2)=some (.row (rowC L os i) e))∧∀o∈os,zY (n3+1+N) o.2∧∃ln,RatR h' n' o.1 o.2 (.bool false) (.slice none 0 0) ((1:Int):Rat) ln []∧ln.length≤2) (fun os=>L.length-os.length) [] ⟨rfl,rfl,rfl,rfl,rfl,rfl,rfl,rfl,rfl,rfl,trivial⟩
  ⟨Nat.le_refl _,rfl,hx4,Nat.zero_le _,ho4,fun i hi=>by obtain ⟨e,he⟩:=hr4 i hi;exact ⟨e,by rw [qM];exact he⟩,fun o ho=>absurd ho List.not_mem_nil⟩ (by show L.length-0<LL;unfold LL;omega) ?_
 rintro os t h5 n5 _ ⟨hn5,rfl,hx5,hosl,⟨eo,ho5⟩,hr5,hos⟩
 refine zN ?_
 by_cases hoL:os.length=L.length
 ·repeat refine zR ?_
  refine zN ?_
  rw [za rfl]
  refine zN ?_
  repeat refine zR ?_
  have hm5:RMat h5 n5 (.slice (some ⟨3*n3+2,0,none⟩) N N) N L:=⟨n3,os,rfl,hn5,⟨eo,ho5⟩,hr5,hoL,fun o ho=>(hos o ho).2⟩
  have hg5:=hg3.ext hx5 (show n3≤n5 by omega)
  have hv5:=hv3.ext hx5 (show n3≤n5 by omega)
  have hx56:Ext n5 h5 (upd h5 (3*n5+2) (some (.row [.slice (some ⟨3*n3+2,0,none⟩) N N] 71))):=Ext.upd zo
  refine xJ (cs:=[.slice (some ⟨3*n3+2,0,none⟩) N N]) R5 ?_
  refine vY (m:=1) R8 zd (hg5.ext hx56 (Nat.le_succ n5)) (yc (ze _ _ _) R2) (Nat.le_refl _) zo rfl rfl (by show n≤n+1∧_;omega) ?_
  intro v7 h7 hg7 hx7 hk7
  obtain ⟨a7,rfl,_⟩:=hg7.shape
  repeat refine zR ?_
  refine zN ?_
  repeat refine zR ?_
  refine zN ?_
  refine goOn (b+1,.slice a7 (b+1) (b+1),cs++[.slice (some ⟨3*n3+2,0,none⟩) N N]) (by show B.length-(b+1)<B.length-b;omega) ⟨rfl,rfl,rfl,rfl,rfl,rfl,trivial⟩ ⟨by show n+1≤n5+1+1;omega,rfl,fun b' hb'=>(hx7 b' zo).trans ((zh zo).trans ((hx5 b' zo).trans (hx3 b' hb'))),by show b+1≤B.length;omega,hg7,((hv5.ext hx56 (Nat.le_succ n5)).kep (hg5.ext hx56 (Nat.le_succ n5)) hsl hk7 zs).snoc hL hd (.inr ⟨hLne,(hm5.ext hx56 (Nat.le_succ n5)).kep (hg5.ext hx56 (Nat.le_succ n5)) hsl hk7 zs⟩)⟩
 obtain ⟨ii,hii⟩:∃x,L[os.length]?=some x:=⟨L[os.length]'zo,List.getElem?_eq_getElem zo⟩
 have hir:=hgl os.length ii zo hii
 obtain ⟨i,rfl⟩:∃i:Nat,ii=(i:Int):=⟨ii.toNat,zo⟩
 have hiN:i<N:=zo
 obtain ⟨ei,hri⟩:=hr5 i hiN
 repeat refine zR ?_
 refine zN ?_
 rw [zc rfl]
 refine zN ?_
 repeat refine zR ?_
 refine y6 (j:=os.length) R7 ((hLs.ext hx3 hn3).ext hx5 (show n3≤n5 by omega)) R2 hii (fun _=>rfl) R4 fun _=>?_
 repeat refine zR ?_
 refine zN ?_
 refine yK [0,0,3,7,0,0,63,127] rfl ?_
 repeat refine zE ?_
 refine vr R8 zo ?_
 refine zC (v:=.slice (some ⟨3*(n3+1+i)+2,0,none⟩) L.length L.length) R6 (zG rfl ho5 ⟨rfl,(by simp only [Int.toNat_natCast,Nat.mul_one,Nat.zero_add];exact uw hiN)⟩) R2 ?_
 repeat refine zE ?_
 refine yB _ R7 (r_ok k _ _ 1 zo) ?_
 rintro _ h6 n6 _ ⟨rfl,hn6,hx6,m1,m2,ln,rfl,hq6,hf6,hl6⟩
 refine ⟨zL,hn6,?_⟩
 refine vr R8 zo ?_
 refine yN (cs:=bitC (some (m1,m2))) ⟨rfl,rfl,rfl,rfl,rfl,rfl,(xW _),(by show ones [m1,m2,.bool false,.slice none 0 0]=true;rw [hq6.num.neg];show ones (m2::_)=true;rw [hq6.num.sl.ones];rfl)⟩ ((hx6 _ zo).trans hri) (by rw [sI];simp;omega) (by show 3*n≤_;omega) R3 ?_
 simp only [Int.toNat_natCast,Nat.zero_add]
 rw [oQ hii]
 refine zN ?_
 repeat refine zR ?_
 refine zN ?_
 refine goOn (os++[(m1,m2)]) (by show L.length-(os++[_]).length<L.length-os.length;simp;omega) ⟨rfl,rfl,rfl,rfl,rfl,rfl,rfl,rfl,rfl,by show Value.int .i64 _=Value.int .i64 _;congr 1;simp,trivial⟩ ⟨by show n3+1+N≤n6;omega,rfl,fun b' hb'=>(zh zo).trans ((hx6 b' zo).trans (hx5 b' hb')),by simp;omega,⟨eo,(zh zo).trans ((hx6 _ zo).trans ho5)⟩,fun i' hi'=>?_,fun o ho=>?_⟩
 ·by_cases hii':i'=i
  ·subst hii'
   exact ⟨ei,ze _ _ _⟩
  obtain ⟨e',he'⟩:=hr5 i' hi'
  refine ⟨e',(zh zo).trans ((hx6 _ zo).trans ?_)⟩
  rw [rN (by rw [hii];intro e;injection e with e;omega)]
  exact he'
 rcases List.mem_append.1 ho with ho|ho
 ·obtain ⟨h7,ln',h8,h9⟩:=hos o ho
  exact ⟨h7,ln',(h8.ext hx6 hn6).old h7 trivial zo,h9⟩
 simp only [List.mem_cons,List.not_mem_nil,or_false] at ho
 subst ho
 exact ⟨hf6.mono zo,ln,hq6.old (m:=n5) hf6 trivial zo,hl6⟩
theorem oi (k:Nat){a:Option Addr}{K:List (List Int)}(hs:Sl h n 1 (.slice a K.length K.length) cs)(hv:VR h n cs B K K.length)(hlen:K.length=B.length)(hB8:B.length≤8∧∀d∈B,1≤d∧d≤8)(hK8:∀L∈K,L.length≤8):
  CF (cal (k+7)) 9 [.slice a K.length K.length] h n fun v h' n' w=>w=[]∧n≤n'∧Ext n h h'∧∃vM ce,v=.agg #[vM]∧Sl h' n' 3 vM ce∧MatR h' n' ce (mats B K K.length):=by
 refine zO (fn:=Tryz.f9) R4 ?_
 refine zN ?_
 refine wkA [.slice none 0 0] R6 ?_
 intro h1 p1 x1
 refine zN ?_
 refine wkA [.slice none 0 0] R6 ?_
 intro h2 p2 x2
 refine zN ?_
 repeat refine zR ?_
 refine zN ?_
 refine zy (α:=Nat×Value×List Value) (fun z=>[(2,.pointer (some ⟨3*n+2,0,none⟩)),(3,.pointer (some ⟨3*(n+1)+2,0,none⟩)),(6,.slice a K.length K.length),(7,.int .i64 (K.length:Int)),(8,.int .i64 (z.1:Int))])
  (fun z h' n' w=>n+2≤n'∧w=[]∧Ext n h h'∧(∃e,h' (3*n+2)=some (.row [.slice none 0 0] e))∧MI h' n' (n+2) (3*(n+1)+2) 68 z.2.1 z.2.2 (mats B K z.1)∧z.1≤K.length) (fun z=>K.length-z.1) (0,.slice none 0 0,[]) ⟨rfl,rfl,rfl,rfl,rfl,trivial⟩ ⟨Nat.le_refl _,rfl,fun b hb=>(x2 b zo).trans (x1 b hb),⟨_,(x2 _ zo).trans p1⟩,MI.start ⟨_,p2⟩,Nat.zero_le _⟩ (by show K.length-0<LL;unfold LL;omega) ?_
 rintro ⟨b,vM,ce⟩ t h3 n3 _ ⟨hn3,rfl,hx3,⟨e2,hr2⟩,hM,hb⟩
 simp only at hM hb
 obtain ⟨ef,hf3⟩:=hM.cell
 obtain ⟨aM,rfl,hceL⟩:=hM.gro.shape
 rw [xm] at hceL
 refine zN ?_
 by_cases hbK:b=K.length
 ·subst hbK
  repeat refine zR ?_
  refine zN ?_
  rw [za rfl]
  refine zN ?_
  refine zI (v:=.agg #[.slice aM (mats B K K.length).length (mats B K K.length).length]) R5 (zn R2 hf3 rfl zb rfl) ?_
  refine zp [.slice aM (mats B K K.length).length (mats B K K.length).length] R7 rfl hr2 rfl (by show 3*n≤3*n+2;omega) ?_
  refine zN ?_
  refine yx R5 (ze _ _ _) rfl ⟨rfl,by show n≤n3;omega,fun b hb=>(zh zo).trans (hx3 b hb),_,ce,rfl,?_,?_⟩
  ·exact hM.gro.sl.keep (fun a l c e=>zh (by have:=Pt.of_fresh hM.gro.fresh a l c e;simp only at this;omega)) (Nat.le_refl _)
  exact hM.mat.mapS fun v hv sz c hs=>hs.keep (fun a l c' e=>zh (by have:=hM.los v hv a l c' e;simp only at this;omega)) (Nat.le_refl _)
 obtain ⟨L,hL⟩:∃x,K[b]?=some x:=⟨K[b]'zo,List.getElem?_eq_getElem zo⟩
 obtain ⟨d,hd⟩:∃x,B[b]?=some x:=⟨B[b]'zo,List.getElem?_eq_getElem zo⟩
 have hd3:=hB8.2 d (List.mem_of_getElem? hd)
 obtain ⟨N,rfl⟩:∃N:Nat,d=(N:Int):=⟨d.toNat,zo⟩
 have hL8:=hK8 L (List.mem_of_getElem? hL)
 repeat refine zR ?_
 refine zN ?_
 rw [zc rfl]
 refine zN ?_
 rcases hv.2 b zo L N hL hd with ⟨rfl,hc⟩|⟨hLne,v,hc,hm⟩
 ·refine y6 (f:=id) (l:=cs) (j:=b) R7 (by rw [List.map_id];exact hs.ext hx3 (show n≤n3 by omega)) R2 hc (fun _=>rfl) R4 fun _=>?_
  repeat refine zR ?_
  refine zN ?_
  repeat refine zR ?_
  refine zN ?_
  rw [zc rfl]
  refine zN ?_
  repeat refine zR ?_
  refine zg R6 hf3 R2 ?_
  refine zm (v:=.agg #[.int .i64 0,.int .i64 0,.slice none 0 0]) R5 ?_
  refine xJ (cs:=[.int .i64 0,.int .i64 0,.slice none 0 0]) R5 ?_
  have hx4:Ext n3 h3 (upd h3 (3*n3+2) (some (.row [.int .i64 0,.int .i64 0,.slice none 0 0] 68))):=Ext.upd zo
  refine mu (m:=1) rfl rfl rfl rfl rfl rfl rfl rfl zd (hM.gro.ext hx4 (Nat.le_succ n3)) (yc (ze _ _ _) R2) (Nat.le_refl _) (by rw [xm];omega) rfl rfl (by show n≤n+2∧_;omega) ?_
  intro v5 h5 hg5 hx5 hk5 hf5
  obtain ⟨a5,rfl,_⟩:=hg5.shape
  have hr5:h5 (3*(n+1)+2)=_:=(hx5 _ zo).trans ((zh zo).trans hf3)
  repeat refine zR ?_
  refine yu (cs:=[.slice a5 ((mats B K b).length+1) ((mats B K b).length+1)]) R8 hr5 zb (by show 3*n≤3*(n+1)+2;omega) ?_
  refine zN ?_
  repeat refine zR ?_
  refine zN ?_
  refine goOn (b+1,.slice a5 ((mats B K b).length+1) ((mats B K b).length+1),ce++[.int .i64 0,.int .i64 0,.slice none 0 0]) (by show K.length-(b+1)<K.length-b;omega) ⟨rfl,rfl,rfl,rfl,rfl,trivial⟩ ⟨by show n+2≤n3+1+1;omega,rfl,fun b' hb'=>(zh zo).trans ((hx5 b' zo).trans ((zh zo).trans (hx3 b' hb'))),⟨e2,(zh zo).trans ((hx5 _ zo).trans ((zh zo).trans hr2))⟩,?_,by show b+1≤K.length;omega⟩
  show MI _ _ _ _ _ _ _ (mats B K (b+1))
  rw [vh hd hL]
  exact hM.step (E:=[]) zo (Ext.refl n3 h3) (Nat.le_refl _) (.nil (.inl rfl)) (fun a l c e=>by cases e) hg5 hk5 hf5
 obtain ⟨m,os,rfl,_⟩:=hm.ex
 have hL1:1≤L.length:=by
  cases L with
  |nil=>exact absurd rfl hLne
  |cons _ _=>simp
 refine y6 (f:=id) (l:=cs) (j:=b) R7 (by rw [List.map_id];exact hs.ext hx3 (show n≤n3 by omega)) R2 hc (fun _=>rfl) R4 fun _=>?_
 repeat refine zR ?_
 refine zN ?_
 repeat refine zR ?_
 refine zN ?_
 rw [za rfl]
 refine zN ?_
 refine yK [0,1,0,4,12,31,63,127] rfl ?_
 repeat refine zE ?_
 refine zC R6 (zG rfl hf3 R2) R2 ?_
 repeat refine zE ?_
 refine yB _ R7 (mB k (hm.ext hx3 (show n≤n3 by omega)) zo zo) ?_
 rintro _ h4 n4 _ ⟨rfl,hn4,hx4,vE,rfl,hE4,hP4⟩
 refine ⟨zL,hn4,?_⟩
 have hE4':=hE4
 refine s6 (cs:=[.int .i64 (N:Int),.int .i64 (L.length:Int),vE]) R5 ?_
 have hg5:=(hM.gro.ext hx4 hn4).ext (Ext.upd (b:=3*n4+2) (x:=some (.row [.int .i64 (N:Int),.int .i64 (L.length:Int),vE] 68)) zo) (Nat.le_succ n4)
 refine tx (mm:=1) R8 zd R3 hg5 (yc (ze _ _ _) R2) (Nat.le_refl _) (by rw [xm];omega) rfl (by show ones [vE]=true;rw [hE4.ones];rfl) (by show n≤n+2∧_;omega) ?_
 intro v15 h15 W15 hg15 hx15 hk15 hf15
 obtain ⟨a15,rfl,_⟩:=hg15.shape
 have hr15:h15 (3*(n+1)+2)=_:=(hx15 _ zo).trans ((zh zo).trans ((hx4 _ zo).trans hf3))
 repeat refine zE ?_
 refine yN (cs:=[.slice a15 ((mats B K b).length+1) ((mats B K b).length+1)]) R8 hr15 zb (by show 3*n≤3*(n+1)+2;omega) R3 ?_
 refine zN ?_
 repeat refine zR ?_
 refine zN ?_
 refine goOn (b+1,.slice a15 ((mats B K b).length+1) ((mats B K b).length+1),ce++[.int .i64 (N:Int),.int .i64 (L.length:Int),vE]) (by show K.length-(b+1)<K.length-b;omega) ⟨rfl,rfl,rfl,rfl,rfl,trivial⟩ ⟨by show n+2≤n4+1+1;omega,rfl,fun b' hb'=>(zh zo).trans ((hx15 b' zo).trans ((zh zo).trans ((hx4 b' zo).trans (hx3 b' hb')))),⟨e2,(zh zo).trans ((hx15 _ zo).trans ((zh zo).trans ((hx4 _ zo).trans hr2)))⟩,?_,by show b+1≤K.length;omega⟩
 show MI _ _ _ _ _ _ _ (mats B K (b+1))
 rw [vh hd hL,show coM N L=((N:Int),(L.length:Int),coT N L L.length) from if_neg hLne]
 exact hM.step zo hx4 hn4 hE4 hP4 hg15 hk15 hf15
end
section
variable {h:HF}{n:Nat}{ce:List Value}
theorem MatR.at {ms:List (Int×Int×List (List UInt8))}(e:MatR h n ce ms):∀{j:Nat} {m:Int×Int×List (List UInt8)},ms[j]?=some m→∃a l c,(ce.drop (j*3)).take 3=[.int .i64 m.1,.int .i64 m.2.1,.slice a l c]∧Sl h n 1 (.slice a l c) (strs m.2.2):=by
 induction e with
 |nil=>intro j m h;simp at h
 |cons h1 h2 ih=>
  intro j m hm
  cases j with
  |zero=>
   simp only [List.getElem?_cons_zero,Option.some.injEq] at hm
   subst hm
   obtain ⟨a,l,c,rfl,_⟩:=h1.len
   exact ⟨a,l,c,rfl,h1⟩
  |succ j=>
   rw [List.getElem?_cons_succ] at hm
   obtain ⟨a,l,c,h3,h4⟩:=ih hm
   exact ⟨a,l,c,by rw [Nat.succ_mul];exact h3,h4⟩
theorem rJ (k:Nat){r c:Int}{a1 a2:Option Addr}{l1 c1 l2 c2:Nat}{E:List (List UInt8)}(s1:Sl h n 1 (.slice a1 l1 c1) (strs E))(s2:Sl h n 1 (.slice a2 l2 c2) (strs E))(hb:E.length<1000000):VF (cal (k+2)) 36 [.agg #[.int .i64 r,.int .i64 c,.slice a1 l1 c1],.agg #[.int .i64 r,.int .i64 c,.slice a2 l2 c2]] h n fun v=>v=.bool true:=by
 refine z1 (fn:=Tryz.f36) R4 ?_
 refine zN ?_
 refine yv (cs:=[.int .i64 r,.int .i64 c,.slice a1 l1 c1]) R5 ?_
 refine yv (cs:=[.int .i64 r,.int .i64 c,.slice a2 l2 c2]) R5 ?_
 generalize hh:upd (upd h (3*n+2) _) (3*(n+1)+2) _=h1
 have hx1:Ext n h h1:=fun b hb=>by rw [←hh,zh zo,zh zo]
 have hr1:∃ty,h1 (3*n+2)=some (.row [.int .i64 r,.int .i64 c,.slice a1 l1 c1] ty):=⟨_,by rw [←hh,zh zo,ze]⟩
 have hr2:∃ty,h1 (3*(n+1)+2)=some (.row [.int .i64 r,.int .i64 c,.slice a2 l2 c2] ty):=⟨_,by rw [←hh,ze]⟩
 obtain ⟨y1,hr1⟩:=hr1
 obtain ⟨y2,hr2⟩:=hr2
 repeat refine zR ?_
 refine zN ?_
 repeat refine zR ?_
 refine zg R6 hr1 (v:=.int .i64 r) R2 ?_
 repeat refine zR ?_
 refine zg R6 hr2 (v:=.int .i64 r) R2 ?_
 repeat refine zR ?_
 refine zg R6 hr1 (v:=.int .i64 c) R2 ?_
 repeat refine zR ?_
 refine zg R6 hr2 (v:=.int .i64 c) R2 ?_
 repeat refine zR ?_
 refine zg R6 hr1 (v:=.slice a1 l1 c1) R2 ?_
 repeat refine zR ?_
 refine zg R6 hr2 (v:=.slice a2 l2 c2) R2 ?_
 refine z8 _ R5 (vD k (s1.ext hx1 (show n≤n+1+1 by omega)) (s2.ext hx1 (show n≤n+1+1 by omega)) hb) ?_
 rintro _ rfl
 repeat refine zR ?_
 refine zN ?_
 exact retF _ rfl (zl rfl) R2 rfl
theorem tX (k:Nat){v1 v2:Value}{ce1 ce2:List Value}{ms:List (Int×Int×List (List UInt8))}(s1:Sl h n 3 v1 ce1)(m1:MatR h n ce1 ms)(s2:Sl h n 3 v2 ce2)(m2:MatR h n ce2 ms)(hl:ms.length<1000)(hb:∀m∈ms,m.2.2.length<1000000):VF (cal (k+3)) 20 [v1,v2] h n fun v=>v=.bool true:=by
 refine z1 (fn:=Tryz.f20) R4 ?_
 obtain ⟨a1,l1,c1,rfl,_⟩:=s1.len
 obtain ⟨a2,l2,c2,rfl,_⟩:=s2.len
 have e1:=s1.lenEq (m:=ms.length) zo m1.len
 have e2:=s2.lenEq (m:=ms.length) zo m2.len
 subst e1 e2
 refine zN ?_
 repeat refine zR ?_
 refine zN ?_
 repeat refine zR ?_
 refine zN ?_
 rw [za rfl]
 refine zN ?_
 repeat refine zR ?_
 refine zN ?_
 refine zy (α:=Nat) (fun j=>[(0,.slice a1 ms.length c1),(1,.slice a2 ms.length c2),(12,.int .i64 (ms.length:Int)),(13,.int .i64 (j:Int))]) (fun j h' n' w=>h=h'∧n=n'∧w=[]∧j≤ms.length) (fun j=>ms.length-j) 0 ⟨rfl,rfl,rfl,rfl,trivial⟩ ⟨rfl,rfl,rfl,Nat.zero_le _⟩ (by show ms.length-0<LL;unfold LL;omega) ?_
 rintro j t _ _ _ ⟨rfl,rfl,rfl,hj⟩
 refine zN ?_
 by_cases hjL:j=ms.length
 ·repeat refine zR ?_
  refine zN ?_
  rw [za rfl]
  refine zN ?_
  repeat refine zR ?_
  refine zN ?_
  exact retF _ rfl (zl rfl) R2 rfl
 obtain ⟨x,hx⟩:∃x,ms[j]?=some x:=⟨ms[j]'zo,List.getElem?_eq_getElem zo⟩
 obtain ⟨r,c,E⟩:=x
 have hE:=hb _ (List.mem_of_getElem? hx)
 obtain ⟨b1,o1,x1,cs1,rfl,hb1,hx1,hc1,_,hle1,he1⟩:=s1.inv zo
 obtain ⟨b2,o2,x2,cs2,rfl,hb2,hx2,hc2,_,hle2,he2⟩:=s2.inv zo
 obtain ⟨p1,q1,r1,g1,t1⟩:=m1.at hx
 obtain ⟨p2,q2,r2,g2,t2⟩:=m2.at hx
 simp only at g1 t1 g2 t2 hE
 have cut:∀{ce cs:List Value} {o:Nat},(cs.drop o).take (ms.length*3)=ce→(cs.drop (o+j*3)).take 3=(ce.drop (j*3)).take 3:=fun h=>by
  have h2:j*3+3≤ms.length*3:=zo
  rw [←h,List.drop_take,List.drop_drop,List.take_take,Nat.min_eq_left zo]
 repeat refine zR ?_
 refine zN ?_
 rw [zc rfl]
 refine zN ?_
 repeat refine zR ?_
 refine zN ?_
 refine yK [0,0,3,7,0,0,48,112,255,511] rfl ?_
 repeat refine zE ?_
 refine vr R8 zo ?_
 refine zC (v:=.agg #[.int .i64 r,.int .i64 c,.slice p1 q1 r1]) R6 (zn R2 hx1 hc1 (by simp;omega) (by simp only [Int.toNat_natCast];exact (cut he1).trans g1)) R2 ?_
 repeat refine zE ?_
 refine vr R8 zo ?_
 refine zC (v:=.agg #[.int .i64 r,.int .i64 c,.slice p2 q2 r2]) R6 (zn R2 hx2 hc2 (by simp;omega) (by simp only [Int.toNat_natCast];exact (cut he2).trans g2)) R2 ?_
 refine yB _ R7 (rJ k (r:=r) (c:=c) t1 t2 hE) ?_
 rintro _ _ _ _ ⟨rfl,rfl,rfl,rfl⟩
 refine ⟨zL,Nat.le_refl _,?_⟩
 repeat refine zE ?_
 refine zN ?_
 rw [za rfl]
 refine zN ?_
 repeat refine zR ?_
 refine zN ?_
 exact goOn (j+1) (by show ms.length-(j+1)<ms.length-j;omega) ⟨rfl,rfl,rfl,rfl,trivial⟩ ⟨rfl,rfl,rfl,by show j+1≤ms.length;omega⟩
theorem wT (k:Nat){v1 v2:Value}{ce1 ce2:List Value}{ms:List (Int×Int×List (List UInt8))}(s1:Sl h n 3 v1 ce1)(m1:MatR h n ce1 ms)(s2:Sl h n 3 v2 ce2)(m2:MatR h n ce2 ms)(hl:ms.length<1000)(hb:∀m∈ms,m.2.2.length<1000000):VF (cal (k+4)) 8 [.agg #[v1],.agg #[v2]] h n fun v=>v=.bool true:=by
 refine z1 (fn:=Tryz.f8) R4 ?_
 obtain ⟨a1,l1,c1,rfl,_⟩:=s1.len
 obtain ⟨a2,l2,c2,rfl,_⟩:=s2.len
 refine zN ?_
 refine yv (cs:=[.slice a1 l1 c1]) R5 ?_
 refine yv (cs:=[.slice a2 l2 c2]) R5 ?_
 generalize hh:upd (upd h (3*n+2) _) (3*(n+1)+2) _=h1
 have hx1:Ext n h h1:=fun b hb=>by rw [←hh,zh zo,zh zo]
 have hr1:∃ty,h1 (3*n+2)=some (.row [.slice a1 l1 c1] ty):=⟨_,by rw [←hh,zh zo,ze]⟩
 have hr2:∃ty,h1 (3*(n+1)+2)=some (.row [.slice a2 l2 c2] ty):=⟨_,by rw [←hh,ze]⟩
 obtain ⟨y1,hr1⟩:=hr1
 obtain ⟨y2,hr2⟩:=hr2
 repeat refine zR ?_
 refine zN ?_
 repeat refine zR ?_
 refine zg R6 hr1 (v:=.slice a1 l1 c1) R2 ?_
 repeat refine zR ?_
 refine zg R6 hr2 (v:=.slice a2 l2 c2) R2 ?_
 refine z8 _ R5 (tX k (s1.ext hx1 (show n≤n+1+1 by omega)) (m1.ext hx1 (show n≤n+1+1 by omega)) (s2.ext hx1 (show n≤n+1+1 by omega)) (m2.ext hx1 (show n≤n+1+1 by omega)) hl hb) ?_
 rintro _ rfl
 repeat refine zR ?_
 refine zN ?_
 exact retF _ rfl (zl rfl) R2 rfl
end
section
variable {h h':HF}{n n':Nat}{vB vE vF vO:Value}{B L:List Int}
theorem yq (k:Nat)(hG:GK.G h)(n:Nat):VF (cal (k+1)) 6 [] h n fun v=>v=.bool true:=⟨_,_,_,_,pQ k hG n,rfl,rfl,rfl,rfl⟩
theorem SdpR.ext {p:Sdp}(r:SdpR h n vB vO vF vE p)(hx:Ext n h h')(hn:n≤n'):SdpR h' n' vB vO vF vE p:=by
 obtain ⟨h1,h2,h3,ce,h4,h5⟩:=r
 exact ⟨h1.ext hx hn,h2.ext hx hn,h3.ext hx hn,ce,h4.ext hx hn,h5.ext hx hn⟩
theorem KR.take {a:Option Addr}{c:Nat}{K:List (List Int)}(r:KR h n (.slice a K.length c) K)(m:Nat)(hm:m≤K.length):KR h n (.slice a (K.take m).length c) (K.take m):=by
 obtain ⟨cs,h1,h2,h3⟩:=r
 have hl:(K.take m).length=m:=by rw [List.length_take];omega
 refine ⟨cs.take m,?_,by rw [List.length_take,List.length_take,h2],fun j L hj=>?_⟩
 ·have:=h1.take m hm
  rw [Nat.mul_one] at this
  rw [hl]
  exact this
 have hjm:j<m:=by have:=(List.getElem?_eq_some_iff.1 hj).1;omega
 rw [List.getElem?_take_of_lt hjm] at hj
 obtain ⟨a,c,h4,h5⟩:=h3 j L hj
 exact ⟨a,c,by rw [List.getElem?_take_of_lt hjm];exact h4,h5⟩
theorem KR.len {a:Option Addr}{l c:Nat}{K:List (List Int)}(r:KR h n (.slice a l c) K):l=K.length:=by
 obtain ⟨cs,h1,h2,_⟩:=r
 exact h1.lenEq (m:=K.length) zo zo
theorem rV {K:List (List Int)}{c:Nat}(hB:∀d∈B,1≤d∧d≤8)(hK:∀L∈K,L.length≤8):∀m∈mats B K c,m.2.2.length<1000000:=by
 intro m hm
 obtain ⟨b,_,rfl⟩:=List.mem_map.1 hm
 have h1:((K[b]?).getD []).length≤8:=by
  cases h:K[b]? with
  |none=>simp
  |some L=>exact hK L (List.mem_of_getElem? h)
 have h2:((B[b]?).getD 0).toNat≤8:=by
  cases h:B[b]? with
  |none=>simp
  |some d=>have:=hB d (List.mem_of_getElem? h);simp only [Option.getD_some];omega
 generalize (K[b]?).getD []=L at h1 ⊢
 generalize ((B[b]?).getD 0).toNat=N at h2 ⊢
 unfold coM
 split
 ·simp
 show (coT N L L.length).length<_
 rw [m0]
 have:=Nat.mul_le_mul h2 h1
 omega
theorem r9 (k:Nat)(hG:GK.G h)(hn:20≤n){aL:Option Addr}{lL cL:Nat}(hLs:∀ad,aL=some ad→ad.spot=none)(hL:Sl h n 1 (.slice aL lL cL) (i64s L)){aK:Option Addr}{lK cK:Nat}{K:List (List Int)}(hK:KR h n (.slice aK lK cK) K):
  VF (cal (k+8)) 3 [.slice aL lL cL,.slice aK lK cK] h n fun v=>v=.bool true:=by
 refine z1 (fn:=Tryz.f3) R4 ?_
 have hlK:=hK.len
 subst hlK
 refine zN ?_
 repeat refine zR ?_
 refine zN ?_
 repeat refine zR ?_
 refine zA _ R5 (lH (k+6) hLs hL) ?_
 rintro _ h1 _ _ ⟨rfl,rfl,hx1,rfl,hT1⟩
 have hprog:=rP (k+1) (F:=1) (least:=0) zo hT1 (n:=n+1) (Nat.le_refl _)
 refine zA _ R5 hprog ?_
 rintro _ h2 n2 w2 ⟨⟨hw2,hn2,_,hx2⟩,p,vB,vO,vF,vE,rfl,hp,hok,_,_,_,_⟩
 simp only at hw2 hx2
 have hw:addW (ctx (k+7) n (Tryz.f3).ntmps).n0 w2 []=[]:=xt fun b hb=>by
  have:=hw2 b hb
  show 3*n≤b
  omega
 rw [show addW (ctx (k+7) n (Tryz.f3).ntmps).n0 w2 (addW (ctx (k+7) n (Tryz.f3).ntmps).n0 [] [])=[] from hw]
 obtain ⟨aB,lB,cB,rfl,_⟩:=hp.blocks.len
 obtain ⟨aO,lO,cO,rfl,_⟩:=hp.obj.len
 obtain ⟨aF,lF,cF,rfl,_⟩:=hp.objFree.len
 obtain ⟨ce,hE,hEq⟩:=hp.eqs
 obtain ⟨aE,lE,cE,rfl,_⟩:=hE.len
 have hlB:=hp.blocks.lenEq (m:=p.blocks.length) zo (by simp [i64s])
 subst hlB
 have hfr:=hok.free
 have hbl:=hok.bl
 refine zF R5 ?_
 refine zp [.slice aB p.blocks.length cB,.int .i64 (p.free:Int),.slice aO lO cO,.slice aF lF cF,.slice aE lE cE] R7 rfl (ze _ _ _) rfl (by show 3*n≤3*n2+2;omega) ?_
 rw [ys]
 generalize hh3:upd h2 (3*n2+2) _=h3
 have hr3:∃ty,h3 (3*n2+2)=some (.row [.slice aB p.blocks.length cB,.int .i64 (p.free:Int),.slice aO lO cO,.slice aF lF cF,.slice aE lE cE] ty):=⟨_,by rw [←hh3,ze]⟩
 obtain ⟨ty3,hr3⟩:=hr3
 have hx23:Ext n2 h2 h3:=by rw [←hh3];exact Ext.upd zo
 have hx03:Ext n h h3:=fun b hb=>by rw [hx23 b zo,hx2 b zo zo,hx1 b hb]
 have hG3:GK.G h3:=qn hG hx03 hn
 have hp3:=hp.ext hx23 (Nat.le_succ n2)
 have hK3:=hK.ext hx03 (show n≤n2+1 by omega)
 clear hh3
 rw [p8,xj,oa]
 refine og (α:=Nat×List (List Int)) (fun z=>[(1,.slice aK z.2.length cK),(5,.pointer (some ⟨3*n2+2,0,none⟩))]) (fun z h' n' w=>h3=h'∧n'=n2+1∧w=[]∧z.2.length≤3∧KR h3 (n2+1) (.slice aK z.2.length cK) z.2) ?_ ?_
 ·refine zN ?_
  by_cases hK3l:3<K.length
  ·obtain ⟨csK,hKs,hKl,hKa⟩:=hK3.at_
   obtain ⟨bK,oK,xK,cs',rfl,hbK,hxK,hcK,hcap,_,heK⟩:=hKs.inv zo
   have ht:=hK3.take 3 zo
   have hl3:(K.take 3).length=3:=by rw [List.length_take];omega
   repeat refine zR ?_
   refine zN ?_
   rw [zc rfl]
   refine zN ?_
   refine zM ?_
   refine x4 3 R8 rfl zo ?_
   refine zM ?_
   refine zN ?_
   exact vt (0,K.take 3) ⟨by show Value.slice _ _ _=Value.slice _ _ _;rw [hl3],rfl,trivial⟩ ⟨rfl,rfl,rfl,by show (K.take 3).length≤3;omega,ht⟩
  repeat refine zR ?_
  refine zN ?_
  rw [za rfl]
  refine zN ?_
  exact vt (0,K) ⟨rfl,rfl,trivial⟩ ⟨rfl,rfl,rfl,by show K.length≤3;omega,hK3⟩
 clear hK3 hK
 rintro ⟨z0,K⟩ t _ _ _ ⟨rfl,rfl,rfl,hl3,hK3⟩
 simp only at hl3 hK3
 obtain ⟨csK,hKs,hKl,hKa⟩:=hK3.at_
 refine zN ?_
 repeat refine zR ?_
 refine zN ?_
 refine zy (α:=Nat) (fun j=>[(1,.slice aK K.length cK),(5,.pointer (some ⟨3*n2+2,0,none⟩)),(22,.slice aK K.length cK),(23,.int .i64 (K.length:Int)),(24,.int .i64 (j:Int))])
  (fun j h' n' w=>h3=h'∧n'=n2+1∧w=[]∧j≤K.length∧∀b L,b<j→K[b]?=some L→L.length≤5) (fun j=>K.length-j) 0 ⟨rfl,rfl,rfl,rfl,rfl,trivial⟩ ⟨rfl,rfl,rfl,Nat.zero_le _,fun b L hb=>absurd hb (Nat.not_lt_zero b)⟩ (by show K.length-0<LL;unfold LL;omega) ?_
 rintro j t _ _ _ ⟨rfl,rfl,rfl,hj,h5⟩
 refine zN ?_
 by_cases hjK:j≠K.length
 ·obtain ⟨M,hM⟩:∃x,K[j]?=some x:=⟨K[j]'zo,List.getElem?_eq_getElem zo⟩
  obtain ⟨aM,cM,hcM,_⟩:=hKa j M hM
  repeat refine zR ?_
  refine zN ?_
  rw [zc rfl]
  refine zN ?_
  repeat refine zR ?_
  refine y6 (f:=id) (l:=csK) (j:=j) R7 (by rw [List.map_id];exact hKs) R2 hcM (fun _=>rfl) R4 fun _=>?_
  repeat refine zR ?_
  refine zN ?_
  by_cases hM5:5<M.length
  ·repeat refine zR ?_
   refine zN ?_
   rw [zc rfl]
   refine zN ?_
   refine z8 _ R5 (yq (k+6) hG3 _) ?_
   rintro _ rfl
   repeat refine zR ?_
   refine zN ?_
   exact retF _ rfl (zl rfl) R2 rfl
  repeat refine zR ?_
  refine zN ?_
  rw [za rfl]
  refine zN ?_
  repeat refine zR ?_
  refine zN ?_
  refine goOn (j+1) (by show K.length-(j+1)<K.length-j;omega) ⟨rfl,rfl,rfl,rfl,rfl,trivial⟩ ⟨rfl,rfl,rfl,zo,fun b L hb hL=>?_⟩
  by_cases hbj:b=j
  ·subst hbj
   rw [hM] at hL
   injection hL with hL
   subst hL
   omega
  exact h5 b L zo hL
 have hjK:j=K.length:=Classical.not_not.1 hjK
 subst hjK
 have hK5:∀L∈K,L.length≤5:=fun L hL=>by
  obtain ⟨b,hb⟩:=List.getElem?_of_mem hL
  exact h5 b L (List.getElem?_eq_some_iff.1 hb).1 hb
 repeat refine zR ?_
 refine zN ?_
 rw [za rfl]
 refine zN ?_
 refine zI (v:=.agg #[.slice aB p.blocks.length cB,.int .i64 (p.free:Int),.slice aO lO cO,.slice aF lF cF,.slice aE lE cE]) R5 (zn R2 hr3 rfl zb rfl) ?_
 repeat refine zR ?_
 refine zA _ R5 (pv (k+1) hG3 (F:=1) (least:=0) zo zo hp3 hok hK3 hl3 hK5) ?_
 rintro _ h4 n4 _ ⟨rfl,hn4,hx4,vM,ev,rfl,hF⟩
 have hvM:∃a l c,vM=.slice a l c:=by
  by_cases h1:K.length=p.blocks.length
  ·by_cases h2:wo p.blocks K K.length
   ·obtain ⟨_,ce,h3,_⟩:=hF.ok h1 h2
    obtain ⟨a,l,c,h4,_⟩:=h3.len
    exact ⟨a,l,c,h4⟩
   exact ⟨_,_,_,(hF.rg h1 h2).2⟩
  exact ⟨_,_,_,(hF.sh h1).2⟩
 obtain ⟨aM,lM,cM,rfl⟩:=hvM
 have hr4:h4 (3*n2+2)=_:=(hx4 _ zo).trans hr3
 repeat refine zR ?_
 refine zF R5 ?_
 refine zp [.slice aM lM cM] R7 rfl (ze _ _ _) rfl (by show 3*n≤3*n4+2;omega) ?_
 rw [ys]
 generalize hh5:upd h4 (3*n4+2) _=h5'
 have hs5:∃ty,h5' (3*n4+2)=some (.row [.slice aM lM cM] ty):=⟨_,by rw [←hh5,ze]⟩
 obtain ⟨ty5,hs5⟩:=hs5
 have hx45:Ext n4 h4 h5':=by rw [←hh5];exact Ext.upd zo
 have hx35:Ext (n2+1) h3 h5':=fun b hb=>by rw [hx45 b zo,hx4 b hb]
 have hr5:h5' (3*n2+2)=_:=(hx35 _ zo).trans hr3
 have hG5:GK.G h5':=qn hG3 hx35 zo
 have hp5:=hp3.ext hx35 (show n2+1≤n4+1 by omega)
 have hK5':=hK3.ext hx35 (show n2+1≤n4+1 by omega)
 clear hh5
 obtain ⟨cs5,hKs5,hKl5,hKa5⟩:=hK5'.at_
 have zero:∀(m:Nat),VF (cal (m+4)) 8 [.agg #[.slice none 0 0],.agg #[.slice none 0 0]] h5' (n4+1) fun v=>v=.bool true:=fun m=>wT m (ms:=[]) (.nil (.inl rfl)) .nil (.nil (.inl rfl)) .nil zd (fun m hm=>absurd hm List.not_mem_nil)
 repeat refine zR ?_
 refine zN ?_
 repeat refine zR ?_
 refine zg R6 hr5 (v:=.slice aB p.blocks.length cB) R2 ?_
 by_cases hlen:K.length≠p.blocks.length
 ·obtain ⟨rfl,he⟩:=hF.sh hlen
  injection he with e1 e2 e3
  subst e1 e2 e3
  repeat refine zR ?_
  refine zN ?_
  rw [zc rfl]
  refine zN ?_
  refine z8 _ R5 (yq (k+6) hG5 _) ?_
  rintro _ rfl
  repeat refine zR ?_
  refine zI (v:=.agg #[.slice none 0 0]) R5 (zn R2 hs5 rfl zb rfl) ?_
  refine zm (v:=.agg #[.slice none 0 0]) R5 ?_
  refine z8 _ R5 (zero (k+3)) ?_
  rintro _ rfl
  repeat refine zR ?_
  refine zN ?_
  exact retF _ rfl (zl rfl) R2 rfl
 have hlen:K.length=p.blocks.length:=Classical.not_not.1 hlen
 repeat refine zR ?_
 refine zN ?_
 rw [za rfl]
 refine zN ?_
 repeat refine zR ?_
 refine zN ?_
 have hB5:=hp5.blocks
 refine zy (α:=Nat) (fun b=>[(1,.slice aK K.length cK),(5,.pointer (some ⟨3*n2+2,0,none⟩)),(8,.pointer (some ⟨3*n4+2,0,none⟩)),(9,.int .i64 ev),(55,.slice aK K.length cK),(56,.int .i64 (K.length:Int)),(57,.int .i64 (b:Int))])
  (fun b h' n' w=>h5'=h'∧n'=n4+1∧w=[]∧b≤K.length∧wo p.blocks K b) (fun b=>K.length-b) 0 ⟨rfl,rfl,rfl,rfl,rfl,rfl,rfl,trivial⟩ ⟨rfl,rfl,rfl,Nat.zero_le _,wo.zero _ _⟩ (by show K.length-0<LL;unfold LL;omega) ?_
 rintro b t _ _ _ ⟨rfl,rfl,rfl,hb,hgood⟩
 refine zN ?_
 by_cases hbK:b=K.length
 ·subst hbK
  obtain ⟨rfl,ceM,hsM,hmM⟩:=hF.ok hlen hgood
  have h8:∀d∈p.blocks,1≤d∧d≤8:=fun d hd=>by have:=hok.b3 d hd;omega
  have h8':∀L∈K,L.length≤8:=fun L hL=>by have:=hK5 L hL;omega
  repeat refine zR ?_
  refine zN ?_
  rw [za rfl]
  refine zN ?_
  refine yK [0,1,3,7,15,31,63,63,63,447,959,2047,4095,8191] rfl ?_
  refine yB _ R7 (yq (k+6) hG5 _) ?_
  rintro _ _ _ _ ⟨rfl,rfl,rfl,rfl⟩
  refine ⟨rfl,Nat.le_refl _,?_⟩
  repeat refine zE ?_
  refine zC (v:=.agg #[.slice aM lM cM]) R6 (zn R2 hs5 rfl zb rfl) ⟨(yz (by simp)),rfl⟩ ?_
  refine zC (v:=.agg #[.slice aB p.blocks.length cB,.int .i64 (p.free:Int),.slice aO lO cO,.slice aF lF cF,.slice aE lE cE]) R6 (zn R2 hr5 rfl zb rfl) ⟨(yz (by simp)),rfl⟩ ?_
  repeat refine zE ?_
  refine yB _ R7 (oS (k+3) (vO:=.slice aO lO cO) (vF:=.slice aF lF cF) (vE:=.slice aE lE cE) (fr:=p.free) hB5 hK5' hlen ⟨zo,h8⟩ h8' hgood rfl) ?_
  rintro _ h6 n6 _ ⟨rfl,hn6,hx6,a6,cs6,rfl,hs6,hv6⟩
  refine ⟨zL,hn6,?_⟩
  refine yB _ R7 (oi k hs6 hv6 hlen ⟨zo,h8⟩ h8') ?_
  rintro _ h7 n7 _ ⟨rfl,hn7,hx7,vW,ceW,rfl,hsW,hmW⟩
  refine ⟨zL,hn7,?_⟩
  have hx57:Ext n4 h4 h7:=fun b hb=>(hx7 b zo).trans ((hx6 b zo).trans (hx45 b hb))
  obtain ⟨aW,lW,cW,rfl,_⟩:=hsW.len
  refine yB _ R7 (wT (k+3) (hsM.ext hx57 (show n4≤n7 by omega)) (hmM.ext hx57 (show n4≤n7 by omega)) hsW hmW (by rw [xm];omega) (rV h8 h8')) ?_
  rintro _ _ _ _ ⟨rfl,rfl,rfl,rfl⟩
  refine ⟨zL,Nat.le_refl _,?_⟩
  repeat refine zE ?_
  refine zN ?_
  exact retF _ rfl (zl rfl) R2 rfl
 obtain ⟨M,hM⟩:∃x,K[b]?=some x:=⟨K[b]'zo,List.getElem?_eq_getElem zo⟩
 obtain ⟨d,hd⟩:∃x,p.blocks[b]?=some x:=⟨p.blocks[b]'zo,List.getElem?_eq_getElem zo⟩
 obtain ⟨aN,cN,hcN,hNs⟩:=hKa5 b M hM
 have hM5:=hK5 M (List.mem_of_getElem? hM)
 repeat refine zR ?_
 refine zN ?_
 rw [zc rfl]
 refine zN ?_
 repeat refine zR ?_
 refine y6 (f:=id) (l:=cs5) (j:=b) R7 (by rw [List.map_id];exact hKs5) R2 hcN (fun _=>rfl) R4 fun _=>?_
 repeat refine zR ?_
 refine zN ?_
 repeat refine zR ?_
 refine zN ?_
 refine zy (α:=Nat) (fun i=>[(1,.slice aK K.length cK),(5,.pointer (some ⟨3*n2+2,0,none⟩)),(8,.pointer (some ⟨3*n4+2,0,none⟩)),(9,.int .i64 ev),(55,.slice aK K.length cK),(56,.int .i64 (K.length:Int)),(57,.int .i64 (b:Int)),(10,.int .i64 (b:Int)),(11,.slice aN M.length cN),(62,.slice aN M.length cN),(63,.int .i64 (M.length:Int)),(64,.int .i64 (i:Int))])
  (fun i h' n' w=>h5'=h'∧n'=n4+1∧w=[]∧i≤M.length∧vz d M i) (fun i=>M.length-i) 0 ⟨rfl,rfl,rfl,rfl,rfl,rfl,rfl,rfl,rfl,rfl,rfl,rfl,trivial⟩ ⟨rfl,rfl,rfl,Nat.zero_le _,vz.zero _ _⟩ (by show M.length-0<LL;unfold LL;omega) ?_
 rintro i t _ _ _ ⟨rfl,rfl,rfl,hi,hgl⟩
 refine zN ?_
 by_cases hiL:i=M.length
 ·subst hiL
  repeat refine zR ?_
  refine zN ?_
  rw [za rfl]
  refine zN ?_
  repeat refine zR ?_
  refine zN ?_
  exact goOn (b+1) (by show K.length-(b+1)<K.length-b;omega) ⟨rfl,rfl,rfl,rfl,rfl,rfl,rfl,trivial⟩ ⟨rfl,rfl,rfl,by show b+1≤K.length;omega,hgood.succ hM hd hgl⟩
 obtain ⟨x,hx⟩:∃x,M[i]?=some x:=⟨M[i]'zo,List.getElem?_eq_getElem zo⟩
 have fail:¬(0≤x∧x<d∧∀y,0<i→M[i-1]?=some y→y<x)→ev=3∧Value.slice aM lM cM=.slice none 0 0:=fun hno=>hF.rg hlen fun hg=>hno (hg b M d zo hM hd i x zo hx)
 repeat refine zR ?_
 refine zN ?_
 rw [zc rfl]
 refine zN ?_
 repeat refine zR ?_
 refine y6 (j:=i) R7 hNs R2 hx (fun _=>rfl) R4 fun _=>?_
 repeat refine zR ?_
 refine zN ?_
 by_cases hx0:x<0
 ·obtain ⟨rfl,he⟩:=fail fun q=>by omega
  injection he with e1 e2 e3
  subst e1 e2 e3
  repeat refine zR ?_
  refine zN ?_
  rw [zc rfl]
  refine zN ?_
  refine z8 _ R5 (yq (k+6) hG5 _) ?_
  rintro _ rfl
  repeat refine zR ?_
  refine zI (v:=.agg #[.slice none 0 0]) R5 (zn R2 hs5 rfl zb rfl) ?_
  refine zm (v:=.agg #[.slice none 0 0]) R5 ?_
  refine z8 _ R5 (zero (k+3)) ?_
  rintro _ rfl
  repeat refine zR ?_
  refine zN ?_
  exact retF _ rfl (zl rfl) R2 rfl
 repeat refine zR ?_
 refine zg R6 hr5 (v:=.slice aB p.blocks.length cB) R2 ?_
 repeat refine zR ?_
 refine y6 (j:=b) R7 hB5 R2 hd (fun _=>rfl) R4 fun _=>?_
 by_cases hxd:d≤x
 ·obtain ⟨rfl,he⟩:=fail fun q=>by omega
  injection he with e1 e2 e3
  subst e1 e2 e3
  repeat refine zR ?_
  refine zN ?_
  rw [zc rfl]
  refine zN ?_
  refine z8 _ R5 (yq (k+6) hG5 _) ?_
  rintro _ rfl
  repeat refine zR ?_
  refine zI (v:=.agg #[.slice none 0 0]) R5 (zn R2 hs5 rfl zb rfl) ?_
  refine zm (v:=.agg #[.slice none 0 0]) R5 ?_
  refine z8 _ R5 (zero (k+3)) ?_
  rintro _ rfl
  repeat refine zR ?_
  refine zN ?_
  exact retF _ rfl (zl rfl) R2 rfl
 by_cases hi0:i=0
 ·repeat refine zR ?_
  refine zN ?_
  rw [za rfl]
  refine zN ?_
  repeat refine zR ?_
  refine zN ?_
  refine goOn (i+1) (by show M.length-(i+1)<M.length-i;omega) ⟨rfl,rfl,rfl,rfl,rfl,rfl,rfl,rfl,rfl,rfl,rfl,rfl,trivial⟩ ⟨rfl,rfl,rfl,by show i+1≤M.length;omega,hgl.succ hx ⟨zo,zo,fun y h0 _=>by omega⟩⟩
 obtain ⟨y,hy⟩:∃y,M[i-1]?=some y:=⟨M[i-1]'zo,List.getElem?_eq_getElem zo⟩
 repeat refine zR ?_
 refine y6 (j:=i-1) R7 hNs ⟨rfl,zo⟩ hy (fun _=>rfl) R4 fun _=>?_
 by_cases hlt:y<x
 ·repeat refine zR ?_
  refine zN ?_
  rw [za rfl]
  refine zN ?_
  repeat refine zR ?_
  refine zN ?_
  refine goOn (i+1) (by show M.length-(i+1)<M.length-i;omega) ⟨rfl,rfl,rfl,rfl,rfl,rfl,rfl,rfl,rfl,rfl,rfl,rfl,trivial⟩ ⟨rfl,rfl,rfl,by show i+1≤M.length;omega,hgl.succ hx ⟨zo,zo,fun y' _ h'=>by rw [hy] at h';injection h' with h';omega⟩⟩
 obtain ⟨rfl,he⟩:=fail fun q=>hlt (q.2.2 y zo hy)
 injection he with e1 e2 e3
 subst e1 e2 e3
 repeat refine zR ?_
 refine zN ?_
 rw [zc rfl]
 refine zN ?_
 refine z8 _ R5 (yq (k+6) hG5 _) ?_
 rintro _ rfl
 repeat refine zR ?_
 refine zI (v:=.agg #[.slice none 0 0]) R5 (zn R2 hs5 rfl zb rfl) ?_
 refine zm (v:=.agg #[.slice none 0 0]) R5 ?_
 refine z8 _ R5 (zero (k+3)) ?_
 rintro _ rfl
 repeat refine zR ?_
 refine zN ?_
 exact retF _ rfl (zl rfl) R2 rfl
end
def upFn (nm:Nat→Nat):Fn→Fn
 | .yield l=>.yield (nm l)
 |f=>f
mutual
def up (nm:Nat→Nat):Value→Value
 | .pointer (some a)=>.pointer (some ⟨nm a.block,a.off,a.spot⟩)
 | .slice (some a) l c=>.slice (some ⟨nm a.block,a.off,a.spot⟩) l c
 | .func f a b=>.func (upFn nm f) (upA nm a) (upA nm b)
 | .agg cs=>.agg (upA nm cs)
 | .tuple cs=>.tuple (upA nm cs)
 | .map (some b)=>.map (some (nm b))
 |v=>v
def upA (nm:Nat→Nat):Array Value→Array Value
 |⟨l⟩=>⟨upL nm l⟩
def upL (nm:Nat→Nat):List Value→List Value
 |[]=>[]
 |v::r=>up nm v::upL nm r
end
mutual
theorem sx {nm:Nat→Nat}(hb:∀b,ρ.b (nm b)=b)(hx:∀b,ρ.x (nm b)=0):∀v:Value,conc ρ (up nm v)=v
 | .pointer none=>rfl
 | .pointer (some a)=>by simp [up,conc,Ren.addr,hb]
 | .slice none _ _=>rfl
 | .slice (some a) l c=>by simp [up,conc,Ren.addr,hb,hx]
 | .func f a b=>by
  have h1:ρ.fn (upFn nm f)=f:=by cases f<;>simp [upFn,Ren.fn,hb]
  simp only [up,conc,h1,wI hb hx a,wI hb hx b]
 | .agg cs=>by simp only [up,conc,wI hb hx cs]
 | .tuple cs=>by simp only [up,conc,wI hb hx cs]
 | .bool _=>by simp [up,conc]
 | .int _ _=>by simp [up,conc]
 | .float _ _=>by simp [up,conc]
 | .complex _ _ _=>by simp [up,conc]
 | .string _=>by simp [up,conc]
 | .map none=>rfl
 | .map (some b)=>by simp [up,conc,hb]
 | .chan _=>by simp [up,conc]
 | .nilFunc=>by simp [up,conc]
 | .nilIface=>by simp [up,conc]
 | .iface _ _=>by simp [up,conc]
theorem wI {nm:Nat→Nat}(hb:∀b,ρ.b (nm b)=b)(hx:∀b,ρ.x (nm b)=0):∀a:Array Value,vv ρ (upA nm a)=a
 |⟨l⟩=>by simp only [upA,vv,rb hb hx l]
theorem rb {nm:Nat→Nat}(hb:∀b,ρ.b (nm b)=b)(hx:∀b,ρ.x (nm b)=0):∀l:List Value,vL ρ (upL nm l)=l
 |[]=>rfl
 |v::r=>by simp only [upL,vL,sx hb hx v,rb hb hx r]
end
def bdFn:Fn→Nat
 | .yield l=>l+1
 |_=>0
mutual
def bd:Value→Nat
 | .pointer (some a)=>a.block+1
 | .slice (some a) _ _=>a.block+1
 | .func f a b=>bdFn f+bdA a+bdA b
 | .agg cs=>bdA cs
 | .tuple cs=>bdA cs
 | .map (some b)=>b+1
 |_=>0
def bdA:Array Value→Nat
 |⟨l⟩=>bdL l
def bdL:List Value→Nat
 |[]=>0
 |v::r=>bd v+bdL r
end
theorem rh (ha:Agr m ρ ρ'){a:Addr}(h:a.block<m):ρ'.addr a=ρ.addr a:=by
 unfold Ren.addr
 rw [(ha _ h).1]
mutual
theorem mE:∀(v:Value) (m:Nat),bd v≤m→Nb m v
 | .pointer none,m,_=>fun ρ ρ' _=>by simp
 | .pointer (some a),m,h=>fun ρ ρ' ha=>by
  simp only [bd] at h
  simp only [conc,rh ha (show a.block<m by omega)]
 | .slice none _ _,m,_=>fun ρ ρ' _=>by simp
 | .slice (some a) l c,m,h=>fun ρ ρ' ha=>by
  simp only [bd] at h
  simp only [conc,rh ha (show a.block<m by omega),(ha _ (show a.block<m by omega)).2]
 | .func f a b,m,h=>fun ρ ρ' ha=>by
  simp only [bd] at h
  have h1:ρ'.fn f=ρ.fn f:=by
   cases f<;>simp [Ren.fn]
   rename_i l
   exact (ha l (by simp only [bdFn] at h;omega)).1
  simp only [conc,h1,sP a m zo ρ ρ' ha,sP b m zo ρ ρ' ha]
 | .agg cs,m,h=>fun ρ ρ' ha=>by
  simp only [bd] at h
  simp only [conc,sP cs m h ρ ρ' ha]
 | .tuple cs,m,h=>fun ρ ρ' ha=>by
  simp only [bd] at h
  simp only [conc,sP cs m h ρ ρ' ha]
 | .bool _,m,_=>fun ρ ρ' _=>by simp [conc]
 | .int _ _,m,_=>fun ρ ρ' _=>by simp [conc]
 | .float _ _,m,_=>fun ρ ρ' _=>by simp [conc]
 | .complex _ _ _,m,_=>fun ρ ρ' _=>by simp [conc]
 | .string _,m,_=>fun ρ ρ' _=>by simp [conc]
 | .map none,m,_=>fun ρ ρ' _=>by simp [conc]
 | .map (some b),m,h=>fun ρ ρ' ha=>by
  simp only [bd] at h
  simp only [conc,(ha _ (show b<m by omega)).1]
 | .chan _,m,_=>fun ρ ρ' _=>by simp [conc]
 | .nilFunc,m,_=>fun ρ ρ' _=>by simp [conc]
 | .nilIface,m,_=>fun ρ ρ' _=>by simp [conc]
 | .iface _ _,m,_=>fun ρ ρ' _=>by simp [conc]
theorem sP:∀(a:Array Value) (m:Nat),bdA a≤m→∀ρ ρ':Ren,Agr m ρ ρ'→vv ρ' a=vv ρ a
 |⟨l⟩,m,h=>fun ρ ρ' ha=>by
  simp only [bdA] at h
  simp only [vv,nY l m h ρ ρ' ha]
theorem nY:∀(l:List Value) (m:Nat),bdL l≤m→∀ρ ρ':Ren,Agr m ρ ρ'→vL ρ' l=vL ρ l
 |[],m,_=>fun ρ ρ' _=>rfl
 |v::r,m,h=>fun ρ ρ' ha=>by
  simp only [bdL] at h
  simp only [vL,mE v m zo ρ ρ' ha,nY r m zo ρ ρ' ha]
end
theorem pV:∀{l:List Value} {v:Value},v∈l→bd v≤bdL l:=by
 intro l
 induction l with
 |nil=>intro v hv;cases hv
 |cons a l ih=>
  intro v hv
  simp only [bdL]
  rcases List.mem_cons.1 hv with rfl|hv
  ·omega
  have:=ih hv;omega
def xi (W:World)(b:Nat):Option (List Value):=match W.heap[b]? with|some (.cells c _ _)=>some c.toList|_=>none
noncomputable def wh (nm:Nat→Nat)(W:World):Nat→Hp
 |0=>.lf
 |k+1=>match xi W k with|some c=>Tr.put (wh nm W k) (nm k) (some (.ro (c.map (up nm))))|none=>wh nm W k
theorem qp {nm:Nat→Nat}(hi:∀a b,nm a=nm b→a=b)(W:World):∀k x y,(wh nm W k).at x=some y↔∃b,b<k∧x=nm b∧∃c,xi W b=some c∧y=.ro (c.map (up nm)):=by
 intro k
 induction k with
 |zero=>
  intro x y
  constructor
  ·intro h;cases h
  rintro ⟨b,hb,_⟩;omega
 |succ k ih=>
  intro x y
  unfold wh
  cases hc:xi W k with
  |none=>
   simp only
   rw [ih]
   constructor
   ·rintro ⟨b,hb,h⟩;exact ⟨b,zo,h⟩
   rintro ⟨b,hb,rfl,c,h1,h2⟩
   have:b≠k:=fun e=>by rw [e,hc] at h1;cases h1
   exact ⟨b,zo,rfl,c,h1,h2⟩
  |some c=>
   simp only
   show Tr.get none (Tr.put (wh nm W k) (nm k) _) x=some y↔_
   rw [Tr.get_put none rfl]
   by_cases hx:x=nm k
   ·rw [if_pos hx]
    constructor
    ·intro h;injection h with h;exact ⟨k,zo,hx,c,hc,h.symm⟩
    rintro ⟨b,hb,e,c',h1,h2⟩
    have hbk:b=k:=hi _ _ (e.symm.trans hx)
    rw [hbk,hc] at h1
    injection h1 with h1
    rw [h2,h1]
   rw [if_neg hx]
   show (wh nm W k).at x=some y↔_
   rw [ih]
   constructor
   ·rintro ⟨b,hb,h⟩;exact ⟨b,zo,h⟩
   rintro ⟨b,hb,e,h⟩
   have:b≠k:=fun ee=>hx (by rw [e,ee])
   exact ⟨b,zo,e,h⟩
def nm (b:Nat):Nat:=if b=0∨b=3∨b=4 then 3*b else 3*b+2
theorem tc (a b:Nat)(h:nm a=nm b):a=b:=by
 unfold nm at h
 split at h<;>split at h<;>omega
def ren0:Ren:=⟨fun x=>x/3,fun _=>0,fun _ _=>rfl,fun g=>by simp⟩
theorem wX (b:Nat):ren0.b (nm b)=b:=by
 unfold nm ren0
 split<;>simp<;>omega
theorem mD (h:b<n):nm b<3*n:=by
 unfold nm
 split<;>omega
noncomputable def wH (W:World):Hp:=wh nm W W.heap.size
theorem lp (W:World):Sim rel ren0 (wH W) W:=by
 refine ⟨fun x y h=>?_,fun x x' h h' e=>?_⟩
 ·obtain ⟨b,hb,rfl,c,hc,rfl⟩:=(qp tc W _ _ _).1 h
  unfold xi at hc
  split at hc
  ·rename_i c' e fz hW
   injection hc with hc
   subst hc
   refine ⟨_,by rw [wX];exact hW,e,fz,?_⟩
   rw [List.map_map]
   have:(c'.toList.map (conc ren0 ∘ up nm))=c'.toList:=by
    conv=>rhs;rw [←List.map_id c'.toList]
    exact List.map_congr_left fun v _=>sx wX (fun _=>rfl) v
   rw [this]
  cases hc
 obtain ⟨y,hy⟩:=Option.isSome_iff_exists.1 h
 obtain ⟨y',hy'⟩:=Option.isSome_iff_exists.1 h'
 obtain ⟨b,_,rfl,_⟩:=(qp tc W _ _ _).1 hy
 obtain ⟨b',_,rfl,_⟩:=(qp tc W _ _ _).1 hy'
 rw [wX,wX] at e
 rw [e]
structure Wn (W:World)(n:Nat):Prop where
 sz:W.heap.size≤n
 le:∀(b:Nat) (c:Array Value) (e:TypeId) (fz:Nat×Nat),W.heap[b]?=some (Obj.cells c e fz)→∀v∈c.toList,bd (up nm v)≤3*n
theorem kh (W:World)(args:List Value):∃n,20≤n∧Wn W n∧HNb (3*n) (wH W)∧∀v∈args,bd v≤3*n:=by
 have key:∀k,∃m,∀b,b<k→∀c,xi W b=some c→bdL (c.map (up nm))≤m:=by
  intro k
  induction k with
  |zero=>exact ⟨0,fun b hb=>by omega⟩
  |succ k ih=>
   obtain ⟨m,hm⟩:=ih
   cases hc:xi W k with
   |none=>exact ⟨m,fun b hb c h=>hm b (by (have:b≠k:=fun e=>by rw [e,hc] at h;cases h);omega) c h⟩
   |some c'=>
    refine ⟨m+bdL (c'.map (up nm)),fun b hb c h=>?_⟩
    by_cases hbk:b=k
    ·rw [hbk,hc] at h;injection h with h;subst h;omega
    have:=hm b zo c h;omega
 obtain ⟨m,hm⟩:=key W.heap.size
 refine ⟨20+W.heap.size+m+bdL args,zo,⟨zo,fun b c e fz hW v hvm=>?_⟩,fun x y h=>?_,fun v hv=>by have:=pV hv;omega⟩
 ·have hb:b<W.heap.size:=by
   rcases Nat.lt_or_ge b W.heap.size with h'|h'
   ·exact h'
   rw [Array.getElem?_eq_none h'] at hW;cases hW
  have h1:=hm b hb c.toList (by unfold xi;rw [hW])
  have h2:=pV (List.mem_map_of_mem (f:=up nm) hvm)
  omega
 obtain ⟨b,hb,rfl,c,hc,rfl⟩:=(qp tc W _ _ _).1 h
 exact ⟨mD zo,fun v hv=>mE v _ (by have:=pV hv;have:=hm b hb c hc;omega)⟩
theorem uq {W:World}{c:Array Value}{fz:Nat×Nat}(h:W.heap[b]?=some (.cells c e fz)):hv (wH W) (nm b)=some (.ro (c.toList.map (up nm))):=by
 have hb:b<W.heap.size:=by
  rcases Nat.lt_or_ge b W.heap.size with h'|h'
  ·exact h'
  rw [Array.getElem?_eq_none h'] at h;cases h
 exact mN ((qp tc W _ _ _).2 ⟨b,hb,rfl,_,by unfold xi;rw [h],rfl⟩)
theorem qg {W:World}(f:FuncId)(args:List Value)(k:Nat)(hrun:∀n,20≤n→Wn W n→(∀v∈args.map (up nm),bd v≤3*n)→VF (cal k) f (args.map (up nm)) (hv (wH W)) n fun v=>v=.bool true):
  Calls Tryz.prog f args.toArray W fun e w'=>e=.returned (.bool true)∧RowKit.Below W.heap.size W w':=by
 obtain ⟨n,hn,hs,hnb,hbd⟩:=kh W (args.map (up nm))
 have ha:∀v∈args.map (up nm),Nb (3*n) v:=fun v hv=>mE v _ (hbd v hv)
 obtain ⟨v,h',n',w,hc,e1,e2,e3,e4⟩:=hrun n hn hs hbd
 rw [e1,e2,e3,e4] at hc
 obtain ⟨⟨v2,h2,n2,w2⟩,hx,hy⟩:=(m8 k).call f (args.map (up nm)) (wH W) n _ hc
 obtain ⟨e1,e2,e3,e4⟩:v2=.bool true∧hv h2=hv (wH W)∧n2=n∧w2=[]:=by
  simpa [rv] using hy
 subst e1 e3 e4
 obtain ⟨_,hcall⟩:=(l8 k).call _ _ _ _ _ _ _ _ hx 0 ren0 W (lp W) hnb ha
 have hargs:((args.map (up nm)).map (conc ren0))=args:=by
  rw [List.map_map]
  conv=>rhs;rw [←List.map_id args]
  exact List.map_congr_left fun v _=>sx wX (fun _=>rfl) v
 rw [hargs] at hcall
 refine (callsIn_wide.1 hcall).mono fun e w' ⟨ρ',he,hp⟩=>⟨by rw [he];simp,?_⟩
 exact ⟨hp.os,hp.tape,hp.out,hp.size,fun j hj=>hp.fr j hj fun b hb=>absurd hb List.not_mem_nil⟩
end Go.Proofs.YtlecmppbeonckaaGreatDoor
namespace Go.Proofs.YtlecmppbeonckaaGreatDoor
open Go Go.GL Go.ChangeShapes Go.WideShapes Go.RowKit
section
set_option maxRecDepth 100000
variable {H:Type}{P:Program}{w:World}{base fuel n:Nat}{e t:TypeId}{cs:List Value}{p:List MemPlace}{v:Value}
theorem vk {enc:TypeId×Value→H}{sp:Nat→Bool}{held:Bool}{k:IntKind}{c:Value}{y:DataW H×List MemPlace}
  (ht:P.underlying t=some (.int k))(h:DataW.trod enc P w base sp held fuel t [c]=some y):∃n,c=.int k n∧y=(.lit (.int k n),[]):=by
 cases fuel with
 |zero=>simp [DataW.trod] at h
 |succ fuel=>
  cases c<;>simp [DataW.trod,ht] at h
  rename_i k' n
  obtain ⟨⟨rfl,_⟩,rfl⟩:=h
  exact ⟨n,rfl,rfl⟩
theorem uO {enc:TypeId×Value→H}{sp:Nat→Bool}{held:Bool}{k:IntKind}{l:List Int}
  (ht:P.underlying t=some (.array n e))(he:P.underlying e=some (.int k))(hce:P.cellsOf e=1)(hct:P.cellsOf t=n)
  (h:DataW.trod enc P w base sp held fuel t cs=some (.agg (l.map fun z=>.lit (.int k z)),p)):cs=l.map fun z=>Value.int k z:=by
 cases fuel with
 |zero=>simp [DataW.trod] at h
 |succ fuel=>
  simp only [DataW.trod,ht] at h
  split at h
  ·rename_i hl
   rw [hct] at hl
   rw [Option.map_eq_some_iff] at h
   obtain ⟨xs,hx,hy⟩:=h
   simp only [Prod.mk.injEq,DataW.agg.injEq] at hy
   obtain ⟨hy,_⟩:=hy
   have hlen:=mapM_some_length hx
   rw [List.length_range] at hlen
   have hll:l.length=n:=by
    have:=congrArg List.length hy
    simp at this
    omega
   apply List.ext_getElem?
   intro i
   by_cases hi:i<n
   ·have hg:=mapM_some_get hx i i (by simp [hi])
    obtain ⟨y,hxi⟩:∃y,xs[i]?=some y:=⟨xs[i]'zo,List.getElem?_eq_getElem zo⟩
    rw [hxi,hce,Nat.mul_one] at hg
    have hd:(cs.drop i).take 1=[cs[i]'zo]:=by
     rw [List.drop_eq_getElem_cons zo]
     rfl
    rw [hd] at hg
    obtain ⟨z,hz,rfl⟩:=vk he hg
    have h2:=congrArg (fun q=>q[i]?) hy
    simp only [List.getElem?_map,hxi,Option.map_some] at h2
    obtain ⟨z',hz'⟩:∃z',l[i]?=some z':=⟨l[i]'zo,List.getElem?_eq_getElem zo⟩
    rw [hz'] at h2
    simp only [Option.map_some,Option.some.injEq,DataW.lit.injEq,Lit.int.injEq,true_and] at h2
    rw [List.getElem?_eq_getElem zo,hz,List.getElem?_map,hz',h2]
    rfl
   rw [List.getElem?_eq_none zo,List.getElem?_eq_none (by simp;omega)]
  cases h
theorem qq {W:World}{nme:String}{g:Nat}{cs:Array Value}(hg:P.globalNamed nme=some g)(hv:W.var? P nme=some cs):∃e fz,W.heap[g]?=some (.cells cs e fz):=by
 unfold World.var? at hv
 rw [hg] at hv
 simp only [Option.bind_some] at hv
 split at hv
 ·rename_i cs' e fz h
  injection hv with hv
  subst hv
  exact ⟨e,fz,h⟩
 cases hv
theorem up_u (nm:Nat→Nat)(k:IntKind)(l:List Int):(GK.u k l).map (up nm)=GK.u k l:=by
 unfold GK.u
 rw [List.map_map]
 exact List.map_congr_left fun z _=>rfl
def rZ:List (String×DataW Unit):=Rows.faceCoordinatesRow.laid
def uE (i:Nat):String:=match rZ[i]? with|some x=>x.1|none=> ""
theorem g32:Tryz.prog.globalNamed (uE 0)=some 4:=by kernel_rfl
theorem g64:Tryz.prog.globalNamed (uE 1)=some 0:=by kernel_rfl
theorem g10:Tryz.prog.globalNamed (uE 2)=some 3:=by kernel_rfl
def o4 (t:TypeId)(n:Nat)(k:IntKind):Prop:=∃e,Tryz.prog.underlying t=some (.array n e)∧Tryz.prog.underlying e=some (.int k)∧Tryz.prog.cellsOf e=1∧Tryz.prog.cellsOf t=n
theorem wN {W:World}{nme:String}{g t:Nat}{k:IntKind}{l:List Int}{cs:Array Value}(hg:Tryz.prog.globalNamed nme=some g)(hvar:W.var? Tryz.prog nme=some cs)(hT:o4 t n k)
  (hd:DataW.trod (fun _=>()) Tryz.prog W 0 (fun _=>true) false fuel t cs.toList=some (.agg (l.map fun z=>.lit (.int k z)),p)):hv (wH W) (nm g)=some (.ro (GK.u k l)):=by
 obtain ⟨e,h1,h2,h3,h4⟩:=hT
 have hc:=uO h1 h2 h3 h4 hd
 obtain ⟨e',fz,hb⟩:=qq hg hvar
 have:=uq hb
 rw [this,hc]
 show some (BF.ro ((GK.u k l).map (up nm)))=_
 rw [up_u]
theorem ty32:(Tryz.prog.globals[4]?).map (·.type)=some 329:=by kernel_rfl
theorem ty64:(Tryz.prog.globals[0]?).map (·.type)=some 313:=by kernel_rfl
theorem ty10:(Tryz.prog.globals[3]?).map (·.type)=some 324:=by kernel_rfl
theorem kl:o4 329 32 .u8:=⟨5,by kernel_rfl,by kernel_rfl,by kernel_rfl,by kernel_rfl⟩
theorem kj:o4 313 64 .u8:=⟨5,by kernel_rfl,by kernel_rfl,by kernel_rfl,by kernel_rfl⟩
theorem km:o4 324 20 .u64:=⟨151,by kernel_rfl,by kernel_rfl,by kernel_rfl,by kernel_rfl⟩
theorem p7 {W:World}(h:laidMet Tryz.prog rZ W):GK.G (hv (wH W)):=by
 obtain ⟨ps,hL,_,_⟩:=h
 obtain ⟨g1,t1,cs1,fu1,p1,q1,e1,u1,v1,d1,hL,_⟩:=hL
 obtain ⟨g2,t2,cs2,fu2,p2,q2,e2,u2,v2,d2,hL,_⟩:=hL
 obtain ⟨g3,t3,cs3,fu3,p3,q3,e3,u3,v3,d3,_,_⟩:=hL
 obtain rfl:=Option.some.inj (g32.symm.trans e1)
 obtain rfl:=Option.some.inj (g64.symm.trans e2)
 obtain rfl:=Option.some.inj (g10.symm.trans e3)
 obtain rfl:=Option.some.inj (ty32.symm.trans u1)
 obtain rfl:=Option.some.inj (ty64.symm.trans u2)
 obtain rfl:=Option.some.inj (ty10.symm.trans u3)
 exact ⟨wN e2 v2 kj d2,wN e3 v3 km d3,wN e1 v1 kl d1⟩
theorem o5 {enc:TypeId×Value→H}{W:World}{d:DataW H}(ht:Tryz.prog.underlying t=some (.slice e))(he:Tryz.prog.underlying e=some (.int .i64))(hc:Tryz.prog.cellsOf e=1)
  (hok:Value.okWide Tryz.prog W .any base t v)(h:DataW.Trod enc Tryz.prog W 0 (fun _=>true) true t v d p)(hn:W.heap.size≤n):∃(a:Option Addr) (l c:Nat) (L:List Int),(∀ad,a=some ad→ad.spot=none)∧v=.slice a l c∧up nm v=.slice (a.map fun x=>⟨nm x.block,x.off,x.spot⟩) l c∧Sl (hv (wH W)) n 1 (up nm v) (L.map (Value.int .i64)):=by
 obtain ⟨fuel,h⟩:=h
 rcases open_ints ht he hc h with ⟨hcs,_⟩|⟨a,len,cap,zs,hcs,_,hle,_,hzl,_,hcell,_⟩
 ·have hvv:v=.slice none 0 0:=by
   cases v<;>simp [Value.cells] at hcs ⊢
   ·exact hcs
   rename_i cs
   unfold Value.okWide at hok
   rw [ht] at hok
   simp [Cell.okWide,Cell.ok,ht] at hok
  subst hvv
  exact ⟨none,0,0,[],(fun ad h=>by cases h),rfl,rfl,.nil (.inl rfl)⟩
 have hvv:v=.slice (some a) len cap:=by
  cases v<;>simp [Value.cells] at hcs ⊢
  ·exact hcs
  rename_i cs
  unfold Value.okWide at hok
  rw [ht] at hok
  simp [Cell.okWide,Cell.ok,ht] at hok
 subst hvv
 obtain ⟨b,off,spot⟩:=a
 have hspot:spot=none∧∃c e fz,W.heap[b]?=some (.cells c e fz):=by
  unfold Value.okWide at hok
  rw [ht] at hok
  simp only [Cell.okWide,Cell.ok,ht,World.has] at hok
  obtain ⟨_,_,_,h1,row,cells,h2,_⟩:=hok
  refine ⟨h1,?_⟩
  unfold World.shape? at h2
  split at h2
  ·exact ⟨_,_,_,by assumption⟩
  cases h2
 obtain ⟨rfl,c,e',fz,hb⟩:=hspot
 have hbs:b<W.heap.size:=by
  rcases Nat.lt_or_ge b W.heap.size with h'|h'
  ·exact h'
  rw [Array.getElem?_eq_none h'] at hb;cases hb
 refine ⟨some ⟨b,off,none⟩,len,cap,zs.take len,(fun ad h=>by injection h with h;rw [←h]),rfl,rfl,?_⟩
 by_cases h0:len=0
 ·subst h0
  rw [List.take_zero]
  exact .nil (.inr ⟨nm b,off,none,rfl,mD zo⟩)
 have hzl':zs.length=cap:=by simpa using hzl
 have hcc:∀i,i<cap→c[off+i]?=some (.int .i64 (zs.getD i 0)):=fun i hi=>by
  have:=hcell i zo
  unfold World.cell? at this
  have e1:(Addr.add ⟨b,off,none⟩ i).block=b:=by unfold Addr.add;split<;>rfl
  have e2:(Addr.add ⟨b,off,none⟩ i).off=off+i:=by unfold Addr.add;split<;>simp_all
  have e3:(Addr.add ⟨b,off,none⟩ i).spot=none:=by unfold Addr.add;split<;>rfl
  rw [e1,hb] at this
  simp only [e2,e3] at this
  simpa using this
 have hsz:off+cap≤c.size:=by
  have h1:=hcc (cap-1) zo
  rcases Nat.lt_or_ge (off+(cap-1)) c.size with h'|h'
  ·omega
  rw [Array.getElem?_eq_none h'] at h1;cases h1
 refine .at_ (mD (show b<n by omega)) (uq hb) rfl hle (by simp;omega) ?_
 rw [Nat.mul_one]
 apply List.ext_getElem?
 intro i
 by_cases hi:i<len
 ·rw [List.getElem?_take_of_lt hi,List.getElem?_drop,List.getElem?_map,Array.getElem?_toList,hcc i zo]
  rw [List.getElem?_map,List.getElem?_take_of_lt hi]
  have:zs.getD i 0=zs[i]'zo:=by simp [show i<zs.length from zo]
  rw [this,List.getElem?_eq_getElem zo]
  rfl
 rw [List.getElem?_eq_none (by simp;omega),List.getElem?_eq_none (by simp;omega)]
end
section
set_option maxRecDepth 100000
variable {fuel i n sz:Nat}{e t:TypeId}{v:Value}{p:List MemPlace}{α:Type}{cells:List Value}
mutual
theorem nv {H:Type}:∀d:DataW H,1≤Rows.uptoBulk d
 | .lit (.string b)=>by simp [Rows.uptoBulk]
 | .lit (.bool b)=>by simp [Rows.uptoBulk]
 | .lit (.int k b)=>by simp [Rows.uptoBulk]
 | .lit (.float k b)=>by simp [Rows.uptoBulk]
 | .lit .nil=>by simp [Rows.uptoBulk]
 | .nil=>by simp [Rows.uptoBulk]
 | .ptr d=>by simp [Rows.uptoBulk]
 | .slice _ _=>by simp [Rows.uptoBulk]
 | .agg _=>by simp [Rows.uptoBulk]
 | .iface _ d=>by simp [Rows.uptoBulk]
 | .map _=>by simp [Rows.uptoBulk]
 | .held _=>by simp [Rows.uptoBulk]
end
theorem sA {H:Type}:∀l:List (DataW H),l.length≤Rows.uptoBulkAll l:=by
 intro l
 induction l with
 |nil=>simp
 |cons d l ih=>have:=nv d;simp only [List.length_cons,Rows.uptoBulkAll];omega
theorem sy {H:Type}{d:DataW H}:∀{l:List (DataW H)},d∈l→Rows.uptoBulk d≤Rows.uptoBulkAll l:=by
 intro l
 induction l with
 |nil=>intro h;cases h
 |cons e l ih=>
  intro h
  simp only [Rows.uptoBulkAll]
  rcases List.mem_cons.1 h with rfl|h
  ·omega
  have:=ih h;omega
theorem ny {a:Addr}{l c:Nat}(h:bd (up nm (.slice (some a) l c))≤3*n):nm a.block<3*n:=by
 simp only [up,bd] at h
 omega
theorem tH (a:Addr)(i:Nat):(a.add i).block=a.block:=by unfold Addr.add;split<;>rfl
theorem p6 (a:Addr)(i:Nat):(a.add i).off=a.off+i:=by unfold Addr.add;split<;>simp_all
theorem tG (a:Addr):a.add 0=a:=by unfold Addr.add;simp
section
variable {H:Type}{enc:TypeId×Value→H}{W:World}{held:Bool}
theorem ua {d:DataW H}(hW:Wn W n)(ht:Tryz.prog.underlying t=some (.slice e))(hsz:Tryz.prog.cellsOf e=sz)(h0:0<sz)(h:DataW.trod enc Tryz.prog W 0 (fun _=>true) held fuel t [v]=some (d,p))(hb:bd (up nm v)≤3*n):
  ∃(a:Option Addr) (l c:Nat) (cells:List Value),v=.slice a l c∧Sl (hv (wH W)) n sz (up nm v) (cells.map (up nm))∧cells.length=l*sz∧l≤Rows.uptoBulk d∧(∀x∈cells,bd (up nm x)≤3*n)∧
   ∀i,i<l→∃fu D q,DataW.trod enc Tryz.prog W 0 (fun _=>true) held fu e ((cells.drop (i*sz)).take sz)=some (D,q)∧Rows.uptoBulk D≤Rows.uptoBulk d:=by
 rcases Go.Deep.open_slice ht h with ⟨hv,hd⟩|⟨a,len,cap,m,fu,D,Pl,hv,_,hle,_,hm,hx,hel⟩
 ·injection hv with hv
  injection hd with hd
  subst hv hd
  exact ⟨none,0,0,[],rfl,.nil (.inl rfl),by simp,Nat.zero_le _,(fun x hx=>by cases hx),fun i hi=>absurd hi (Nat.not_lt_zero i)⟩
 injection hv with hv
 injection hx with hx _
 subst hv hx
 have hm':m=cap:=by rw [hm];rfl
 subst hm'
 rw [hsz] at hel
 have hbl:nm a.block<3*n:=ny hb
 have hlb:len≤Rows.uptoBulk (DataW.slice ((List.range len).map D) ((List.range (m-len)).map fun j=>D (len+j))):=by
  have:=sA ((List.range len).map D)
  rw [List.length_map,List.length_range] at this
  simp only [Rows.uptoBulk]
  omega
 have hmem:∀i,i<len→Rows.uptoBulk (D i)≤Rows.uptoBulk (DataW.slice ((List.range len).map D) ((List.range (m-len)).map fun j=>D (len+j))):=fun i hi=>by
  have:=sy (d:=D i) (l:=(List.range len).map D) (List.mem_map_of_mem (List.mem_range.2 hi))
  simp only [Rows.uptoBulk]
  omega
 by_cases hc0:m=0
 ·have hl0:len=0:=zo
  subst hl0
  refine ⟨some a,0,m,[],rfl,.nil (.inr ⟨_,_,_,rfl,hbl⟩),by simp,Nat.zero_le _,(fun x hx=>by cases hx),fun i hi=>absurd hi (Nat.not_lt_zero i)⟩
 have hcell:∀i,i<m→∃cs,DataW.trod enc Tryz.prog W 0 (fun _=>true) held fu e cs=some (D i,Pl i)∧cs.length=sz∧∀j,j<sz→W.cell? ((a.add (i*sz)).add j)=cs[j]?:=fun i hi=>by
  obtain ⟨cs,h1,h2⟩:=hel i hi
  obtain ⟨_,h3,h4⟩:=World.cells?_some h1
  exact ⟨cs,h2,h3,h4⟩
 have hblk:a.spot=none∧∃c e' fz,W.heap[a.block]?=some (.cells c e' fz):=by
  obtain ⟨cs,_,h2,h1⟩:=hcell 0 zo
  have h1:=h1 0 h0
  rw [Nat.zero_mul,tG,tG,List.getElem?_eq_getElem zo] at h1
  unfold World.cell? at h1
  split at h1
  ·split at h1
   ·cases h1
   rename_i hs
   exact ⟨by simpa using hs,_,_,_,by assumption⟩
  cases h1
 obtain ⟨hspot,c,e',fz,hbk⟩:=hblk
 obtain ⟨b,off,sp⟩:=a
 simp only at hspot hbk hbl
 subst hspot
 have hget:∀i,i<m→∃cs,DataW.trod enc Tryz.prog W 0 (fun _=>true) held fu e cs=some (D i,Pl i)∧cs.length=sz∧∀j,j<sz→c[off+i*sz+j]?=cs[j]?:=fun i hi=>by
  obtain ⟨cs,h2,h4,h3⟩:=hcell i hi
  refine ⟨cs,h2,h4,fun j hj=>?_⟩
  rw [←h3 j hj]
  have e1:((Addr.add ⟨b,off,none⟩ (i*sz)).add j).block=b:=by rw [tH,tH]
  have e2:((Addr.add ⟨b,off,none⟩ (i*sz)).add j).off=off+i*sz+j:=by rw [p6,p6]
  have e3:((Addr.add ⟨b,off,none⟩ (i*sz)).add j).spot=none:=by
   unfold Addr.add
   split
   ·split<;>rfl
   rfl
  unfold World.cell?
  rw [e1,hbk]
  simp only [e2,e3]
  rfl
 have hsz':off+m*sz≤c.size:=by
  obtain ⟨cs,_,h3,h2⟩:=hget (m-1) zo
  have h2:=h2 (sz-1) zo
  rw [List.getElem?_eq_getElem zo] at h2
  rcases Nat.lt_or_ge (off+(m-1)*sz+(sz-1)) c.size with h'|h'
  ·have:(m-1)*sz+sz=m*sz:=by rw [←Nat.succ_mul];congr 1;omega
   omega
  rw [Array.getElem?_eq_none h'] at h2;cases h2
 have hlm:len*sz≤m*sz:=Nat.mul_le_mul_right _ hle
 have hcl:((c.toList.drop off).take (len*sz)).length=len*sz:=by
  rw [List.length_take,List.length_drop,Array.length_toList];omega
 refine ⟨some ⟨b,off,none⟩,len,m,(c.toList.drop off).take (len*sz),rfl,.at_ hbl (uq hbk) rfl hle (by show off+len*sz≤(c.toList.map (up nm)).length;simp;omega) (by rw [List.map_take,List.map_drop]),hcl,hlb,fun x hx=>hW.le b c e' fz hbk x (List.mem_of_mem_drop (List.mem_of_mem_take hx)),fun i hi=>?_⟩
 obtain ⟨cs,h1,h3,h4⟩:=hget i zo
 have hcs:(((c.toList.drop off).take (len*sz)).drop (i*sz)).take sz=cs:=by
  have hil:i*sz+sz≤len*sz:=by rw [←Nat.succ_mul];exact Nat.mul_le_mul_right _ hi
  apply List.ext_getElem?
  intro j
  by_cases hj:j<sz
  ·rw [List.getElem?_take_of_lt hj,List.getElem?_drop,List.getElem?_take_of_lt zo,List.getElem?_drop,Array.getElem?_toList,←h4 j hj,Nat.add_assoc]
  rw [List.getElem?_eq_none (by rw [List.length_take,List.length_drop,hcl];omega),List.getElem?_eq_none zo]
 exact ⟨fu,D i,Pl i,by rw [hcs];exact h1,hmem i hi⟩
theorem mh {g:α→List Value}{Q:α→Prop}:∀{l:Nat} {cells:List Value},cells.length=l*sz→(∀i,i<l→∃x,(cells.drop (i*sz)).take sz=g x∧Q x)→∃xs:List α,xs.length=l∧cells=xs.flatMap g∧∀x∈xs,Q x:=by
 intro l
 induction l with
 |zero=>intro cells hl _;exact ⟨[],rfl,List.length_eq_zero_iff.1 (by rw [hl,Nat.zero_mul]),fun x hx=>by cases hx⟩
 |succ l ih=>
  intro cells hl h
  obtain ⟨x,hx,hq⟩:=h 0 zo
  rw [Nat.zero_mul,List.drop_zero] at hx
  obtain ⟨xs,h1,h2,h3⟩:=ih (cells:=cells.drop sz) (by rw [List.length_drop,hl,Nat.succ_mul];omega) (fun i hi=>by
   obtain ⟨y,hy,hq⟩:=h (i+1) zo
   exact ⟨y,by rw [List.drop_drop,←hy,Nat.succ_mul,Nat.add_comm],hq⟩)
  refine ⟨x::xs,by rw [List.length_cons,h1],?_,fun y hy=>?_⟩
  ·rw [List.flatMap_cons,←hx,←h2,List.take_append_drop]
  rcases List.mem_cons.1 hy with rfl|hy
  ·exact hq
  exact h3 y hy
theorem sN {l:Nat}(hl:cells.length=l*1)(hi:i<l):∃v,(cells.drop (i*1)).take 1=[v]:=by
 rw [Nat.mul_one] at hl ⊢
 exact ⟨cells[i]'zo,by rw [List.drop_eq_getElem_cons zo];rfl⟩
theorem pf {d:DataW H}(hW:Wn W n)(ht:Tryz.prog.underlying t=some (.slice e))(he:Tryz.prog.underlying e=some (.int .i64))(hsz:Tryz.prog.cellsOf e=1)(h:DataW.trod enc Tryz.prog W 0 (fun _=>true) held fuel t [v]=some (d,p))(hb:bd (up nm v)≤3*n):
  ∃L:List Int,Sl (hv (wH W)) n 1 (up nm v) (i64s L)∧L.length≤Rows.uptoBulk d:=by
 obtain ⟨a,l,c,cells,rfl,h1,h2,h3,_,h5⟩:=ua hW ht hsz zd h hb
 obtain ⟨L,h6,h7,h9⟩:=mh (g:=fun z:Int=>[Value.int .i64 z]) (Q:=fun _=>True) h2 (fun i hi=>by
  obtain ⟨v,hv⟩:=sN h2 hi
  obtain ⟨fu,D,q,h8,_⟩:=h5 i hi
  rw [hv] at h8 ⊢
  obtain ⟨z,rfl,_⟩:=vk he h8
  exact ⟨z,rfl,trivial⟩)
 refine ⟨L,?_,zo⟩
 have:cells.map (up nm)=i64s L:=by
  rw [h7]
  clear h9 h7 h6
  induction L with
  |nil=>rfl
  |cons z L ih=>rw [List.flatMap_cons,List.map_append,ih];rfl
 rw [←this];exact h1
end
end
section
set_option maxRecDepth 100000
variable {base fuel n:Nat}{e t:TypeId}{v:Value}{p:List MemPlace}
section
variable {H:Type}{enc:TypeId×Value→H}{W:World}{held:Bool}
theorem rX {f:TypeId}{d:DataW H}(hW:Wn W n)(ht:Tryz.prog.underlying t=some (.slice e))(he:Tryz.prog.underlying e=some (.slice f))(hf:Tryz.prog.underlying f=some (.int .i64))(c1:Tryz.prog.cellsOf e=1)(c2:Tryz.prog.cellsOf f=1)(h:DataW.trod enc Tryz.prog W 0 (fun _=>true) held fuel t [v]=some (d,p))(hb:bd (up nm v)≤3*n):
  ∃(a:Option Addr) (l c:Nat) (K:List (List Int)),up nm v=.slice a l c∧KR (hv (wH W)) n (.slice a l c) K:=by
 obtain ⟨a,l,c,cells,rfl,h1,h2,_,h4,h5⟩:=ua hW ht c1 zd h hb
 obtain ⟨xs,h6,h7,h9⟩:=mh (g:=fun x:List Int×Value=>[x.2]) (Q:=fun x=>Sl (hv (wH W)) n 1 (up nm x.2) (i64s x.1)) h2 (fun i hi=>by
  obtain ⟨v,hv⟩:=sN h2 hi
  obtain ⟨fu,D,q,h8,_⟩:=h5 i hi
  have hm:v∈cells:=List.mem_of_mem_drop (List.mem_of_mem_take (by rw [hv];simp))
  rw [hv] at h8 ⊢
  obtain ⟨L,h9,_⟩:=pf hW he hf c2 h8 (h4 v hm)
  exact ⟨(L,v),rfl,h9⟩)
 obtain ⟨a',l',c',e',_⟩:=h1.len
 rw [e'] at h1
 refine ⟨a',l',c',xs.map (·.1),e',cells.map (up nm),h1,?_,fun j L hj=>?_⟩
 ·rw [List.length_map,List.length_map,h2,Nat.mul_one,h6]
 rw [List.getElem?_map,Option.map_eq_some_iff] at hj
 obtain ⟨x,hx,rfl⟩:=hj
 have h10:=h9 x (List.mem_of_getElem? hx)
 obtain ⟨a2,l2,c2,e2,_⟩:=h10.len
 rw [e2] at h10
 have hl:=h10.lenEq (m:=x.1.length) zo (by simp [i64s])
 subst hl
 refine ⟨a2,c2,?_,h10⟩
 have hc:cells=xs.map (·.2):=by
  rw [h7]
  clear h9 h7 h6 hx h2
  induction xs with
  |nil=>rfl
  |cons z xs ih=>rw [List.flatMap_cons,List.map_cons,ih];rfl
 rw [hc,List.map_map,List.getElem?_map,hx]
 show some (up nm x.2)=_
 rw [e2]
theorem pN (ht:Tryz.prog.underlying t=some (.slice e))(hok:Value.okWide Tryz.prog W .any base t v):v.cells.toList=[v]:=by
 cases v<;>try rfl
 all_goals (unfold Value.okWide at hok;rw [ht] at hok;simp [Cell.okWide,Cell.ok,ht] at hok)
end
end
section
set_option maxRecDepth 100000
theorem own:ownKnob Tryz.prog.godebug=none:=by kernel_rfl
theorem pc:laidOutB Tryz.prog=true:=by kernel_rfl
def uC (c:Array Value):Obj→Obj
 | .cells _ t frozen=>.cells c t frozen
 |o=>o
noncomputable def tj (os:Os):World:=
 {World.holding Tryz.prog os ⟨#[],#[],[]⟩ with heap:=(((World.holding Tryz.prog os ⟨#[],#[],[]⟩).heap.modify 0 (uC GK.d64.toArray)).modify 3 (uC GK.p10.toArray)).modify 4 (uC GK.d32.toArray)}
theorem uD (os:Os)(args:Array Value):laidMet Tryz.prog rZ ((tj os).forCall (fun _ _=>0) ⟨#[],args,[]⟩).memory:=
 laidMet_of_run' 8 (by kernel_rfl) (by kernel_rfl)
end
end Go.Proofs.YtlecmppbeonckaaGreatDoor
