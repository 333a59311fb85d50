import Derived.Test.YtfajmfoofmienaaGreatDoorValD
set_option maxHeartbeats 8000000
set_option linter.unusedVariables false
set_option linter.unusedSimpArgs false
namespace Go.Proofs.YtfajmfoofmienaaGreatDoor
open Go Go.GL
variable {h h':HF}{n n' cap B b i j m D:Nat}{cs c:List Value}{s:List UInt8}{a:Option Addr}{S:List (List UInt8)}{us:List Rat}{Ns:List Nat}{vB vE vF vO:Value}
section
structure Eqn where
 es:List Ent
 fr:List (List UInt8)
 rhs:List UInt8
structure Sdp where
 blocks:List Int
 free:Nat
 obj:List Ent
 objFree:List (List UInt8)
 eqs:List Eqn
inductive EqR (h:HF) (n:Nat):List Value→List Eqn→Prop
 |nil:EqR h n [] []
 |cons {ve vf:Value} {q:Eqn} {cs:List Value} {qs:List Eqn} (h1:Sl h n 4 ve (ents q.es)) (h2:Sl h n 1 vf (strs q.fr)) (h3:EqR h n cs qs):EqR h n (ve::vf:: .string ⟨⟨q.rhs⟩⟩::cs) (q::qs)
theorem EqR.mapS {qs:List Eqn}(e:EqR h n cs qs)(hS:∀v∈cs,∀sz c,Sl h n sz v c→Sl h' n' sz v c):EqR h' n' cs qs:=by
 induction e with
 |nil=>exact .nil
 |cons h1 h2 h3 ih=>exact .cons (hS _ (by simp) _ _ h1) (hS _ (by simp) _ _ h2) (ih fun v hv=>hS v (by simp [hv]))
theorem EqR.ext {qs:List Eqn}(e:EqR h n cs qs)(hx:Ext n h h')(hn:n≤n'):EqR h' n' cs qs:=e.mapS fun _ _ _ _ s=>s.ext hx hn
theorem EqR.belows {qs:List Eqn}(e:EqR h n cs qs):∀v∈cs,Pt (fun b=>b<3*n) v:=by
 induction e with
 |nil=>intro v hv;cases hv
 |cons h1 h2 h3 ih=>
  intro v hv;simp only [List.mem_cons] at hv;rcases hv with rfl|rfl|rfl|hv
  ·exact Pt.of_below h1.below
  ·exact Pt.of_below h2.below
  ·exact fun a l c e=>by cases e
  exact ih v hv
theorem EqR.len {qs:List Eqn}(e:EqR h n cs qs):cs.length=qs.length*3:=by
 induction e with
 |nil=>rfl
 |cons h1 h2 h3 ih=>simp [ih];omega
theorem EqR.snoc {qs:List Eqn}{ve vf:Value}{q:Eqn}(e:EqR h n cs qs)(h1:Sl h n 4 ve (ents q.es))(h2:Sl h n 1 vf (strs q.fr)):EqR h n (cs++[ve,vf,.string ⟨⟨q.rhs⟩⟩]) (qs++[q]):=by
 induction e with
 |nil=>exact .cons h1 h2 .nil
 |cons g1 g2 g3 ih=>exact .cons g1 g2 ih
structure SdpR (h:HF)(n:Nat)(vB vO vF vE:Value)(p:Sdp):Prop where
 blocks:Sl h n 1 vB (i64s p.blocks)
 obj:Sl h n 4 vO (ents p.obj)
 objFree:Sl h n 1 vF (strs p.objFree)
 eqs:∃ce,Sl h n 3 vE ce∧EqR h n ce p.eqs
structure SdpOk (F least:Nat)(p:Sdp):Prop where
 bl:1≤p.blocks.length∧p.blocks.length≤2
 b3:∀d∈p.blocks,1≤d∧d≤3
 free:p.free≤F
 obj:EOk p.blocks p.obj p.blocks.length 0 0
 objl:p.obj.length≤256
 ofl:p.objFree.length=p.free
 ofs:∀s∈p.objFree,xU 2 s
 eql:least≤p.eqs.length∧p.eqs.length≤4
 eqo:∀q∈p.eqs,EOk p.blocks q.es p.blocks.length 0 0∧q.es.length≤256∧q.fr.length=p.free∧(∀s∈q.fr,xU 2 s)∧xU 4 q.rhs
theorem dq (k:Nat){T:TapeI}{F least:Nat}(hF:F≤100∧least≤4)(ht:Tp h T)(hn:T.m≤n):CF (cal (k+6)) 7 [.pointer (some ⟨T.bt,0,none⟩),.int .i64 (F:Int),.int .i64 (least:Int)] h n fun v h' n' w=>TLeft T h n h' n' w∧∃p vB vO vF vE,v=.agg #[vB,.int .i64 (p.free:Int),vO,vF,vE]∧SdpR h' n' vB vO vF vE p∧SdpOk F least p∧ya n vB∧ya n vO∧ya n vF∧ya n vE:=by
 have hbt:=ht.bt;refine zk (fn:=Tryz.f7) R4 ?_;refine zN ?_;refine zT R5 ?_;refine Ze ?_;refine zu _ R5 (um (k+4) zo (ht.upd zo) zo) ?_;rintro _ h1 _ w1 ⟨hw1,rfl,ht1,hx1,fr,rfl,hf0,hf1⟩;obtain ⟨f,rfl⟩:∃f:Nat,fr=(f:Int):=⟨fr.toNat,zo⟩;refine zA (v:=.agg #[.slice none 0 0,.int .i64 (f:Int),.slice none 0 0,.slice none 0 0,.slice none 0 0]) R5 ?_;refine zT R5 ?_;refine zv [.slice none 0 0,.int .i64 (f:Int),.slice none 0 0,.slice none 0 0,.slice none 0 0] R7 rfl (ze _ _ _) rfl (by show 3*n≤_;omega) ?_;rw [yH];refine Ze ?_;generalize hh:upd h1 (3*(n+1)+2) _=h2;have hp2:∃e,h2 (3*(n+1)+2)=some (.row [.slice none 0 0,.int .i64 (f:Int),.slice none 0 0,.slice none 0 0,.slice none 0 0] e):=⟨_,by rw [←hh,ze]⟩;have hr2:∃e,h2 (3*n+2)=some (.row [.slice none 0 0,.int .i64 0,.slice none 0 0,.slice none 0 0,.slice none 0 0] e):=⟨_,by rw [←hh,zj zo,hx1 _ zo,ze];rfl⟩;have hx2:ExtT n T.bt h h2:=fun b hb hne=>by rw [←hh,zj zo,hx1 b hne,zj zo]
 have ht2:Tp h2 T:=by rw [←hh];exact ht1.upd zo
 refine zu _ R5 (um (k+4) (m:=2) zo ht2 zo) ?_;rintro _ h3 _ w3 ⟨hw3,rfl,ht3,hx3,i0,rfl,hi0,hi1⟩;obtain ⟨i0,rfl⟩:∃f:Nat,i0=(f:Int):=⟨i0.toNat,zo⟩;refine sh ?_;have hW3:=z9 (n0:=(ctx (k+5) n (Tryz.f7).ntmps).n0) hw3 (z9 (n0:=(ctx (k+5) n (Tryz.f7).ntmps).n0) (w:=[]) hw1 (fun b hb=>absurd hb List.not_mem_nil));have hp3:∃e,h3 (3*(n+1)+2)=some (.row [.slice none 0 0,.int .i64 (f:Int),.slice none 0 0,.slice none 0 0,.slice none 0 0] e):=by rw [hx3 _ zo];exact hp2
 have hr3:∃e,h3 (3*n+2)=some (.row [.slice none 0 0,.int .i64 0,.slice none 0 0,.slice none 0 0,.slice none 0 0] e):=by rw [hx3 _ zo];exact hr2
 have hx3':ExtT n T.bt h h3:=fun b hb hne=>(hx3 b hne).trans (hx2 b hb hne);refine zQ (α:=Nat×Value×List Int) (fun z=>[(0,.pointer (some ⟨T.bt,0,none⟩)),(2,.int .i64 (least:Int)),(6,.pointer (some ⟨3*n+2,0,none⟩)),(7,.pointer (some ⟨3*(n+1)+2,0,none⟩)),(8,.int .i64 (z.1:Int))])
  (fun z h' n' w=>(∀b∈w,b=T.bt)∧n+2≤n'∧Tp h' T∧ExtT n T.bt h h'∧(∃e,h' (3*n+2)=some (.row [.slice none 0 0,.int .i64 0,.slice none 0 0,.slice none 0 0,.slice none 0 0] e))∧(∃e,h' (3*(n+1)+2)=some (.row [z.2.1,.int .i64 (f:Int),.slice none 0 0,.slice none 0 0,.slice none 0 0] e))∧z.1+z.2.2.length=i0+1∧(∀d∈z.2.2,1≤d∧d≤3)∧Gro h' (n+2) n' 3 1 z.2.1 z.2.2.length (i64s z.2.2)) (fun z=>z.1)
  (i0+1,.slice none 0 0,[]) ⟨rfl,rfl,rfl,rfl,by show Value.int .i64 _=Value.int .i64 _;congr 1;omega,trivial⟩ ⟨hW3,Nat.le_refl _,ht3,hx3',hr3,hp3,rfl,fun d hd=>absurd hd List.not_mem_nil,.nil⟩ (by show i0+1<LL;unfold LL;omega) ?_
 rintro ⟨i,vB,B⟩ t h4 n4 w4 ⟨hw4,hn4,ht4,hx4,hr4,⟨e4,hp4⟩,hiB,hB3,hgB⟩;simp only at hp4 hiB hB3 hgB;obtain ⟨aB,rfl,_⟩:=hgB.shape;refine zN ?_;cases i with
 |succ i=>
  refine sh ?_;refine Zb ?_;refine zl [0,1,0,4,12,28,63,127,255] rfl ?_;repeat refine zE ?_
  refine zL R6 (zF rfl hp4 R2) R2 ?_;repeat refine zE ?_
  refine oK (bt:=T.bt) _ R7 (um (k+4) (m:=3) zo ht4 zo) (fun v h' n' W hp=>⟨hp.1,by rw [hp.2.1];exact Nat.le_refl _⟩) (by simp;omega) ?_;rintro _ h5 n4 w5 ⟨hw5,rfl,ht5,hx5,rr,rfl,hr0,hr1⟩;repeat refine zE ?_
  refine zb2 (cs:=i64s [1+rr]) R5 ?_;refine zg2 (mm:=1) R8 zd rfl rfl rfl ((hgB.extT (fun b hb hne=>hx5 b hne) zo (Nat.le_refl _)).ext (Ext.upd zo) zs) (yy (ze _ _ _) R2) (Nat.le_refl _) zo rfl rfl (by show n≤n+2∧_;omega) ?_;intro v6 h6 W6 hg6 hx6 hk6 hf6;obtain ⟨a6,rfl,_⟩:=hg6.shape;repeat refine zE ?_
  have hp6:h6 (3*(n+1)+2)=some (.row [.slice aB B.length B.length,.int .i64 (f:Int),.slice none 0 0,.slice none 0 0,.slice none 0 0] e4):=by rw [hx6 _ zo,zj zo,hx5 _ zo];exact hp4
  refine yT (cs:=[.slice a6 (B.length+1) (B.length+1)]) R7 rfl hp6 zb (by show 3*n≤_;omega) R3 ?_;refine zN ?_;refine sh ?_;refine goOn (i,.slice a6 (B.length+1) (B.length+1),B++[1+rr]) (by show i<i+1;omega) ⟨rfl,rfl,rfl,rfl,by show Value.int .i64 _=Value.int .i64 _;congr 1;omega,trivial⟩ ⟨z9 hw5 hw4,by show n+2≤n4+1+1;omega,?_,?_,?_,⟨e4,ze _ _ _⟩,by show i+(B++[_]).length=_;simp;omega,?_,?_⟩
  ·exact ((ht5.upd zo).ext hx6 zo).upd zo
  ·exact fun b hb hne=>(zj zo).trans ((hx6 b zo).trans ((zj zo).trans ((hx5 b hne).trans (hx4 b hb hne))))
  ·obtain ⟨e,he⟩:=hr4;exact ⟨e,(zj zo).trans ((hx6 _ zo).trans ((zj zo).trans ((hx5 _ zo).trans he)))⟩
  ·intro d hd;rcases List.mem_append.1 hd with hd|hd
   ·exact hB3 d hd
   simp at hd;subst hd;omega
  show Gro (upd h6 _ _) _ _ _ _ _ (B++[_]).length (i64s (B++[_]));have:i64s (B++[1+rr])=i64s B++i64s [1+rr]:=by simp [i64s]
  rw [this,List.length_append];exact hg6.extT (bt:=3*(n+1)+2) (fun b hb hne=>zj hne) zo (Nat.le_refl _)
 |zero=>
  have hbl:B.length=i0+1:=zo;refine sh ?_;refine Za ?_;repeat refine zR ?_
  refine zg R6 hp4 (v:=.slice aB B.length B.length) R2 ?_;have hfB:ya (n+2) (.slice aB B.length B.length):=hgB.fresh;refine zu _ R5 (mo k ⟨zo,fun d hd=>by have:=hB3 d hd;omega⟩ ht4 zo hgB.sl (fun x hx=>by subst hx;have:3*(n+2)≤x.block:=hfB;omega)) ?_;rintro vO h5 n5 w5 ⟨⟨hw5,hn5,ht5,hx5⟩,E,hE,hEl,hgO⟩;obtain ⟨aO,rfl,_⟩:=hgO.shape;have hp5:h5 (3*(n+1)+2)=some (.row [.slice aB B.length B.length,.int .i64 (f:Int),.slice none 0 0,.slice none 0 0,.slice none 0 0] e4):=by rw [hx5 _ zo zo];exact hp4
  repeat refine zR ?_
  refine yB (cs:=[.slice aO E.length E.length]) R8 hp5 zb (by show 3*n≤3*(n+1)+2;omega) ?_;refine Ze ?_;refine zg R6 (ze _ _ _) (v:=.int .i64 (f:Int)) R2 ?_;refine zu _ R5 (kx k (N:=f) zo (ht5.upd zo) zo) ?_;rintro vF h6 n6 w6 ⟨⟨hw6,hn6,ht6,hx6⟩,S,hSl,hSs,hgF⟩;obtain ⟨aF,rfl,_⟩:=hgF.shape;have hp6:h6 (3*(n+1)+2)=some (.row [.slice aB B.length B.length,.int .i64 (f:Int),.slice aO E.length E.length,.slice none 0 0,.slice none 0 0] e4):=by rw [hx6 _ zo zo,ze];rfl
  repeat refine zR ?_
  refine yB (cs:=[.slice aF f f]) R8 hp6 zb (by show 3*n≤3*(n+1)+2;omega) ?_;refine Ze ?_;refine zu _ R5 (um (k+4) zo (ht6.upd zo) zo) ?_;rintro _ h7 n7 w7 ⟨hw7,rfl,ht7,hx7,i1,rfl,hi10,hi11⟩;obtain ⟨i1,rfl⟩:∃f:Nat,i1=(f:Int):=⟨i1.toNat,zo⟩;refine sh ?_;have hp7:∃e,h7 (3*(n+1)+2)=some (.row [.slice aB B.length B.length,.int .i64 (f:Int),.slice aO E.length E.length,.slice aF f f,.slice none 0 0] e):=⟨e4,by rw [hx7 _ zo,ze];rfl⟩;have hr7:∃e,h7 (3*n+2)=some (.row [.slice none 0 0,.int .i64 0,.slice none 0 0,.slice none 0 0,.slice none 0 0] e):=by
   obtain ⟨e,he⟩:=hr4;exact ⟨e,by rw [hx7 _ zo,zj zo,hx6 _ zo zo,zj zo,hx5 _ zo zo];exact he⟩
  have hxx7:ExtT n T.bt h h7:=fun b hb hne=>by rw [hx7 b hne,zj zo,hx6 b zo hne,zj zo,hx5 b zo hne];exact hx4 b hb hne
  have hgB7:Gro h7 (n+2) n7 3 1 (.slice aB B.length B.length) B.length (i64s B):=
   ((((hgB.extT hx5 zo hn5).extT (bt:=3*(n+1)+2) (fun b hb hne=>zj hne) zo (Nat.le_refl _)).extT hx6 zo hn6).extT (bt:=3*(n+1)+2) (fun b hb hne=>zj hne) zo (Nat.le_refl _)).extT (bt:=T.bt) (fun b hb hne=>hx7 b hne) zo (Nat.le_refl _)
  have hgO7:Gro h7 n4 n7 76 4 (.slice aO E.length E.length) E.length (ents E):=
   (((hgO.extT (bt:=3*(n+1)+2) (fun b hb hne=>zj hne) zo (Nat.le_refl _)).extT hx6 zo hn6).extT (bt:=3*(n+1)+2) (fun b hb hne=>zj hne) zo (Nat.le_refl _)).extT (bt:=T.bt) (fun b hb hne=>hx7 b hne) zo (Nat.le_refl _)
  have hgF7:Gro h7 n5 n7 9 1 (.slice aF f f) f (strs S):=
   (hgF.extT (bt:=3*(n+1)+2) (fun b hb hne=>zj hne) zo (Nat.le_refl _)).extT (bt:=T.bt) (fun b hb hne=>hx7 b hne) zo (Nat.le_refl _)
  have hw7':∀b∈addW (ctx (k+5) n (Tryz.f7).ntmps).n0 w7 (addW (ctx (k+5) n (Tryz.f7).ntmps).n0 w6 (addW (ctx (k+5) n (Tryz.f7).ntmps).n0 w5 w4)),b=T.bt:=z9 hw7 (z9 hw6 (z9 hw5 hw4));have hfO:ya n4 (.slice aO E.length E.length):=hgO.fresh;have hfF:ya n5 (.slice aF f f):=hgF.fresh;refine zQ (α:=Nat×Value×List Value×List Eqn) (fun z=>[(0,.pointer (some ⟨T.bt,0,none⟩)),(6,.pointer (some ⟨3*n+2,0,none⟩)),(7,.pointer (some ⟨3*(n+1)+2,0,none⟩)),(9,.int .i64 (z.1:Int))])
   (fun z h' n' w=>(∀b∈w,b=T.bt)∧n7≤n'∧Tp h' T∧ExtT n T.bt h h'∧(∃e,h' (3*n+2)=some (.row [.slice none 0 0,.int .i64 0,.slice none 0 0,.slice none 0 0,.slice none 0 0] e))∧(∃e,h' (3*(n+1)+2)=some (.row [.slice aB B.length B.length,.int .i64 (f:Int),.slice aO E.length E.length,.slice aF f f,z.2.1] e))∧z.1+z.2.2.2.length=least+i1∧
    Sl h' n' 1 (.slice aB B.length B.length) (i64s B)∧Sl h' n' 4 (.slice aO E.length E.length) (ents E)∧Sl h' n' 1 (.slice aF f f) (strs S)∧Gro h' n7 n' 81 3 z.2.1 z.2.2.2.length z.2.2.1∧EqR h' n' z.2.2.1 z.2.2.2∧(∀v∈z.2.2.1,Pt (fun b=>3*n7≤b) v)∧(∀v∈z.2.2.1,∀b o l c,z.2.1=.slice (some ⟨b,o,none⟩) l c→Pt (fun b'=>b'≠b) v)∧
    (∀q∈z.2.2.2,EOk B q.es B.length 0 0∧q.es.length≤256∧q.fr.length=f∧(∀s∈q.fr,xU 2 s)∧xU 4 q.rhs)) (fun z=>z.1)
   (least+i1,.slice none 0 0,[],[]) ⟨rfl,rfl,rfl,by show Value.int .i64 _=Value.int .i64 _;congr 1,trivial⟩ ⟨hw7',Nat.le_refl _,ht7,hxx7,hr7,hp7,rfl,hgB7.sl,hgO7.sl,hgF7.sl,.nil,.nil,fun v hv=>absurd hv List.not_mem_nil,fun v hv=>absurd hv List.not_mem_nil,fun q hq=>absurd hq List.not_mem_nil⟩ (by show least+i1<LL;unfold LL;omega) ?_
  rintro ⟨i,vE,ce,qs⟩ t h8 n8 w8 ⟨hw8,hn8,ht8,hx8,hr8,⟨e8,hp8⟩,hi8,hB8,hO8,hF8,hgE,hEq,hPt,hPt2,hq8⟩;simp only at hp8 hi8 hgE hEq hPt hPt2 hq8;obtain ⟨aE,rfl,hceL⟩:=hgE.shape;have hfE:ya n7 (.slice aE qs.length qs.length):=hgE.fresh;refine zN ?_;cases i with
  |zero=>
   refine sh ?_;refine Za ?_;refine zI (v:=.agg #[.slice aB B.length B.length,.int .i64 (f:Int),.slice aO E.length E.length,.slice aF f f,.slice aE qs.length qs.length]) R5 (zB R2 hp8 rfl zb rfl) ?_;obtain ⟨er,hr8⟩:=hr8;refine zv [.slice aB B.length B.length,.int .i64 (f:Int),.slice aO E.length E.length,.slice aF f f,.slice aE qs.length qs.length] R7 rfl hr8 rfl (by show 3*n≤3*n+2;omega) ?_;refine zN ?_;refine yP R5 (ze _ _ _) rfl ⟨⟨hw8,by show n≤n8;omega,ht8.upd zo,fun b hb hne=>(zj zo).trans (hx8 b hb hne)⟩,⟨B,f,E,S,qs⟩,_,_,_,_,rfl,⟨hB8.old (m:=n+2) hfB zo,hO8.old (m:=n4) hfO zo,hF8.old (m:=n5) hfF zo,ce,hgE.sl.old (m:=n7) hfE zo,hEq.mapS fun v hv sz c hs=>hs.keep (fun a l c' e=>zj (by have:=hPt v hv a l c' e;omega)) (Nat.le_refl _)⟩,?_,hfB.mono zo,hfO.mono zo,hfF.mono zo,hfE.mono zo⟩;exact ⟨by show 1≤B.length∧B.length≤2;omega,hB3,by show f≤F;omega,hE,hEl,hSl,hSs,by show least≤qs.length∧qs.length≤4;omega,hq8⟩
  |succ i=>
   refine sh ?_;refine Zb ?_;refine zl [0,1,0,0,8,28,0,0,128,508,0,2044,4092,8188,16380,32767,65535,131071] rfl ?_;repeat refine zE ?_
   refine zL R6 (zF rfl hp8 R2) R2 ?_;repeat refine zE ?_
   refine zL R6 (zF rfl hp8 R2) R2 ?_;refine oK (bt:=T.bt) _ R7 (mo k ⟨zo,fun d hd=>by have:=hB3 d hd;omega⟩ ht8 zo hB8 (fun x hx=>by subst hx;have:3*(n+2)≤x.block:=hfB;omega)) (fun v h' n' W hp=>⟨hp.1.w,hp.1.le⟩) (by simp;omega) ?_;rintro v9 h9 n9 w9 ⟨⟨hw9,hn9,ht9,hx9⟩,E9,hE9,hEl9,hg9⟩;obtain ⟨a9,rfl,_⟩:=hg9.shape;repeat refine zE ?_
   refine zL R6 (zF rfl hp8 R2) ⟨(dE (b:=3*(n+1)+2) (bt:=T.bt) zo (by simp;exact hw9)),rfl⟩ ?_;refine oK (bt:=T.bt) _ R7 (kx k (N:=f) zo ht9 zo) (fun v h' n' W hp=>⟨hp.1.w,hp.1.le⟩) (by simp;omega) ?_;rintro v10 h10 n10 w10 ⟨⟨hw10,hn10,ht10,hx10⟩,S10,hSl10,hSs10,hg10⟩;obtain ⟨a10,rfl,_⟩:=hg10.shape;repeat refine zE ?_
   refine oK (bt:=T.bt) _ R7 (ph (k+1) (K:=4) zo ht10 zo) (fun v h' n' W hp=>⟨hp.1,hp.2.1⟩) (by simp;omega) ?_;rintro _ h11 n11 w11 ⟨hw11,hn11,ht11,hx11,m1,m2,ln,y,rfl,hq11,hy0,hy1,hf11,hln⟩;refine oK (bt:=T.bt) _ R7 (pB (k+1) hq11 (by simp;omega)) (fun v h' n' W hp=>⟨by rw [hp.2.2.1];exact fun b hb=>absurd hb List.not_mem_nil,by rw [hp.2.1];exact Nat.le_refl _⟩) (by simp;omega) ?_;rintro _ h12 n12 w12 ⟨e12,e12',rfl,rfl⟩;subst e12 e12';refine yv (v:=.agg #[.slice a9 E9.length E9.length,.slice a10 f f,.string ⟨⟨ratT ((y:Int):Rat)⟩⟩]) rfl rfl rfl rfl rfl ?_;refine zb2 (cs:=[.slice a9 E9.length E9.length,.slice a10 f f,.string ⟨⟨ratT ((y:Int):Rat)⟩⟩]) R5 ?_;have hkk:∀b,b<3*n8→b≠T.bt→upd h12 (3*n12+2) (some (.row [.slice a9 E9.length E9.length,.slice a10 f f,.string ⟨⟨ratT ((y:Int):Rat)⟩⟩] 81)) b=h8 b:=fun b hb hne=>by rw [zj zo,hx11 b zo hne,hx10 b zo hne,hx9 b hb hne]
   have hgE2:=(((hgE.extT hx9 zo hn9).extT hx10 zo hn10).extT hx11 zo hn11).ext (Ext.upd (b:=3*n12+2) (x:=some (.row [.slice a9 E9.length E9.length,.slice a10 f f,.string ⟨⟨ratT ((y:Int):Rat)⟩⟩] 81)) zo) (Nat.le_succ n12);refine zg2 (mm:=1) R8 zd rfl rfl rfl hgE2 (yy (ze _ _ _) R2) (Nat.le_refl _) zo rfl rfl (by show n≤n7∧_;omega) ?_;intro v15 h15 W15 hg15 hx15 hk15 hf15;obtain ⟨a15,rfl,_⟩:=hg15.shape;repeat refine zE ?_
   have hp15:h15 (3*(n+1)+2)=some (.row [.slice aB B.length B.length,.int .i64 (f:Int),.slice aO E.length E.length,.slice aF f f,.slice aE qs.length qs.length] e8):=by rw [hx15 _ zo,hkk _ zo zo];exact hp8
   refine yT (cs:=[.slice a15 (qs.length+1) (qs.length+1)]) R7 rfl hp15 zb (by show 3*n≤3*(n+1)+2;omega) R3 ?_;refine zN ?_;refine sh ?_;have hbE:Below n8 (.slice aE qs.length qs.length):=hgE.below;have hbB:Below n7 (.slice aB B.length B.length):=hgB7.below;have hbO:Below n7 (.slice aO E.length E.length):=hgO7.below;have hbF:Below n7 (.slice aF f f):=hgF7.below;have hb9:Below n9 (.slice a9 E9.length E9.length):=hg9.below;have hb10:Below n10 (.slice a10 f f):=hg10.below;have hf9:ya n8 (.slice a9 E9.length E9.length):=hg9.fresh;have hf10:ya n9 (.slice a10 f f):=hg10.fresh;have neE:∀b,(b<3*n7∨3*n8≤b)→∀o l c,Value.slice aE qs.length qs.length≠.slice (some ⟨b,o,none⟩) l c:=fun b hb o l c e=>by
    injection e with e1
    subst e1;have h1:b<3*n8:=hbE;have h2:3*n7≤b:=hfE;omega
   have hlow:∀{x:Option BF} b,b<3*n7→b≠T.bt→b≠3*(n+1)+2→upd h15 (3*(n+1)+2) x b=h8 b:=fun b hb h1 h2=>(zj h2).trans ((hx15 b hb).trans (hkk b zo h1));have hold:∀{x:Option BF} {sz:Nat} {v:Value} {c:List Value},Sl h8 n8 sz v c→Below n7 v→ya (n+2) v→Sl (upd h15 (3*(n+1)+2) x) (n12+1+1) sz v c:=fun hs hb hf=>hs.keep (fun a l c e=>by
    subst e;have h1:a.block<3*n7:=hb;have h2:3*(n+2)≤a.block:=hf;exact hlow _ h1 zo zo) zo
   have hnew:∀{x:Option BF} {sz:Nat} {v:Value} {c:List Value} {hh:HF} {m m':Nat},Sl hh m' sz v c→ya m v→n8≤m→m'≤n12→(∀b,3*m≤b→b<3*m'→h12 b=hh b)→Sl (upd h15 (3*(n+1)+2) x) (n12+1+1) sz v c:=fun hs hf hm hm' hk=>hs.keep (fun a l c e=>by
    subst e;have h2:3*_≤a.block:=hf;have h1:a.block<3*_:=hs.below;refine (zj zo).trans ((hk15 _ zo (neE _ (.inr zo))).trans ((zj zo).trans (hk _ h2 h1)))) zo
   have hs9:∀{x:Option BF},Sl (upd h15 (3*(n+1)+2) x) (n12+1+1) 4 (.slice a9 E9.length E9.length) (ents E9):=hnew hg9.sl hf9 (Nat.le_refl _) zo fun b h1 h2=>by rw [hx11 b zo zo,hx10 b zo zo]
   have hs10:∀{x:Option BF},Sl (upd h15 (3*(n+1)+2) x) (n12+1+1) 1 (.slice a10 f f) (strs S10):=hnew hg10.sl hf10 hn9 zo fun b h1 h2=>by rw [hx11 b zo zo]
   have hceb:=hEq.belows;refine goOn (i,.slice a15 (qs.length+1) (qs.length+1),ce++[.slice a9 E9.length E9.length,.slice a10 f f,.string ⟨⟨ratT ((y:Int):Rat)⟩⟩],qs++[⟨E9,S10,ratT ((y:Int):Rat)⟩]) (by show i<i+1;omega) ⟨rfl,rfl,rfl,by show Value.int .i64 _=Value.int .i64 _;congr 1;omega,trivial⟩ ⟨?_,by show n7≤n12+1+1;omega,?_,?_,?_,⟨e8,ze _ _ _⟩,by show i+(qs++[_]).length=_;simp;omega,hold hB8 hbB hfB,hold hO8 hbO (hfO.mono zo),hold hF8 hbF (hfF.mono zo),?_,?_,?_,?_,?_⟩
   ·have hw0:∀b∈([]:List Nat),b=T.bt:=fun b hb=>absurd hb List.not_mem_nil;first|exact z9 hw0 (z9 hw11 (z9 hw10 (z9 hw9 hw8)))|exact z9 hw0 (z9 hw0 (z9 hw11 (z9 hw10 (z9 hw9 hw8))))
   ·exact ((ht11.upd zo).ext hx15 zo).upd zo
   ·exact fun b hb hne=>(hlow b zo hne zo).trans (hx8 b hb hne)
   ·obtain ⟨er,hr8⟩:=hr8;exact ⟨er,(hlow _ zo zo zo).trans hr8⟩
   ·show Gro _ _ _ _ _ _ (qs++[_]).length _;rw [List.length_append];exact hg15.extT (bt:=3*(n+1)+2) (fun b hb hne=>zj hne) zo (Nat.le_refl _)
   ·refine EqR.snoc (q:=⟨E9,S10,ratT ((y:Int):Rat)⟩) (hEq.mapS fun v hv sz c hs=>hs.keep (fun a l c' e=>?_) (by show n8≤n12+1+1;omega)) hs9 hs10;have h1:=hceb v hv a l c' e;have h2:=hPt v hv a l c' e;refine (zj zo).trans ((hk15 _ zo fun o l2 c2 ee=>?_).trans (hkk _ h1 zo));exact hPt2 v hv _ _ _ _ ee a l c' e rfl
   ·intro v hv;rcases List.mem_append.1 hv with hv|hv
    ·exact hPt v hv
    simp only [List.mem_cons,List.not_mem_nil,or_false] at hv;rcases hv with rfl|rfl|rfl
    ·exact fun a l c e=>by have:=Pt.of_fresh hf9 a l c e;omega
    ·exact fun a l c e=>by have:=Pt.of_fresh hf10 a l c e;omega
    exact fun a l c e=>by cases e
   ·intro v hv b o l c ee a l' c' e;simp only at ee;have hbb:3*(n12+1)≤b:=by
     have:3*(n12+1)≤_:=Pt.of_fresh hf15 _ _ _ ee;exact this
    rcases List.mem_append.1 hv with hv|hv
    ·have:=hceb v hv a l' c' e;omega
    simp only [List.mem_cons,List.not_mem_nil,or_false] at hv;rcases hv with rfl|rfl|rfl
    ·have:=Pt.of_below hb9 a l' c' e;omega
    ·have:=Pt.of_below hb10 a l' c' e;omega
    cases e
   intro q hq;rcases List.mem_append.1 hq with hq|hq
   ·exact hq8 q hq
   simp at hq;subst hq;exact ⟨hE9,hEl9,hSl10,hSs10,y,hy0,hy1,rfl⟩
end
section
variable {d:Nat}{len:Nat}
theorem fh (x:Int):ratT (x:Rat)=(if x<0 then [45] else [])++decT x.natAbs:=by
 unfold ratT;rw [Rat.num_intCast,Rat.den_intCast,if_pos rfl,List.append_nil]
theorem ye (h:0<d∧d<10):decT d=[UInt8.ofNat (48+d)]:=by
 unfold decT decB;rw [if_neg zo,wq zo,Nat.div_eq_of_lt h.2,xm,Nat.mod_eq_of_lt h.2];rfl
theorem mQ {K:Int}(hK:K≤4)(h:xU K s):GK.isSmall s=true:=by
 obtain ⟨x,h1,h2,rfl⟩:=h;rw [fh];have hx:x= -4∨x= -3∨x= -2∨x= -1∨x=0∨x=1∨x=2∨x=3∨x=4:=zo;rcases hx with rfl|rfl|rfl|rfl|rfl|rfl|rfl|rfl|rfl<;>first
  |(rw [show decT (Int.natAbs 0)=[48] from rfl];rfl)
  |(rw [show Int.natAbs (-4)=4 from rfl,ye zo];decide)
  |(rw [show Int.natAbs (-3)=3 from rfl,ye zo];decide)
  |(rw [show Int.natAbs (-2)=2 from rfl,ye zo];decide)
  |(rw [show Int.natAbs (-1)=1 from rfl,ye zo];decide)
  |(rw [show Int.natAbs 1=1 from rfl,ye zo];decide)
  |(rw [show Int.natAbs 2=2 from rfl,ye zo];decide)
  |(rw [show Int.natAbs 3=3 from rfl,ye zo];decide)
  |(rw [show Int.natAbs 4=4 from rfl,ye zo];decide)
theorem bg {x:Int}(h1: -4≤x∧x≤4)(h0:x≠0):ratT (x:Rat)≠[48]:=by
 rw [fh];have hx:x= -4∨x= -3∨x= -2∨x= -1∨x=1∨x=2∨x=3∨x=4:=zo;rcases hx with rfl|rfl|rfl|rfl|rfl|rfl|rfl|rfl<;>first
  |(rw [show Int.natAbs (-4)=4 from rfl,ye zo];decide)
  |(rw [show Int.natAbs (-3)=3 from rfl,ye zo];decide)
  |(rw [show Int.natAbs (-2)=2 from rfl,ye zo];decide)
  |(rw [show Int.natAbs (-1)=1 from rfl,ye zo];decide)
  |(rw [show Int.natAbs 1=1 from rfl,ye zo];decide)
  |(rw [show Int.natAbs 2=2 from rfl,ye zo];decide)
  |(rw [show Int.natAbs 3=3 from rfl,ye zo];decide)
  |(rw [show Int.natAbs 4=4 from rfl,ye zo];decide)
theorem wS (k:Nat)(hG:GK.G h)(n:Nat)(hs:GK.isSmall s=true):VF (cal (k+1)) 82 [.string ⟨⟨s⟩⟩] h n fun v=>v=.bool true:=
 ⟨_,_,_,_,jF k hG n hs,rfl,rfl,rfl,rfl⟩
theorem jH (k:Nat)(h:HF)(n:Nat)(e f:Ent):VF (cal (k+1)) 113 [.agg (entC e).toArray,.agg (entC f).toArray] h n fun v=>∃b:Bool,v=.bool b∧(b=true↔ltE e f):=by
 refine zw (fn:=Tryz.f113) R4 ?_;refine zN ?_;refine xy (cs:=entC e) R5 ?_;refine xy (cs:=entC f) R5 ?_;generalize hh:upd (upd h (3*n+2) _) (3*(n+1)+2) _=h1;have he:∃ty,h1 (3*n+2)=some (.row (entC e) ty):=⟨_,by rw [←hh,zj zo,ze]⟩;have hf:∃ty,h1 (3*(n+1)+2)=some (.row (entC f) ty):=⟨_,by rw [←hh,ze]⟩;obtain ⟨t1,he⟩:=he;obtain ⟨t2,hf⟩:=hf;refine sh ?_;repeat refine zR ?_
 refine zg R6 he (v:=.int .i64 e.b) R2 ?_;repeat refine zR ?_
 refine zg R6 hf (v:=.int .i64 f.b) R2 ?_;by_cases hb:e.b=f.b
 ·refine sh ?_;refine Za ?_;repeat refine zR ?_
  refine zg R6 he (v:=.int .i64 e.r) R2 ?_;repeat refine zR ?_
  refine zg R6 hf (v:=.int .i64 f.r) R2 ?_;by_cases hr:e.r=f.r
  ·refine sh ?_;refine Za ?_;repeat refine zR ?_
   refine zg R6 he (v:=.int .i64 e.c) R2 ?_;repeat refine zR ?_
   refine zg R6 hf (v:=.int .i64 f.c) R2 ?_;refine pb R6 ?_;refine sh ?_;exact retF _ rfl (zi rfl) R2 ⟨_,rfl,by rw [decide_eq_true_eq];unfold ltE ltP;omega⟩
  refine sh ?_;refine Zb ?_;repeat refine zR ?_
  refine zg R6 he (v:=.int .i64 e.r) R2 ?_;repeat refine zR ?_
  refine zg R6 hf (v:=.int .i64 f.r) R2 ?_;refine pb R6 ?_;refine sh ?_;exact retF _ rfl (zi rfl) R2 ⟨_,rfl,by rw [decide_eq_true_eq];unfold ltE ltP;omega⟩
 refine sh ?_;refine Zb ?_;repeat refine zR ?_
 refine zg R6 he (v:=.int .i64 e.b) R2 ?_;repeat refine zR ?_
 refine zg R6 hf (v:=.int .i64 f.b) R2 ?_;refine pb R6 ?_;refine sh ?_;exact retF _ rfl (zi rfl) R2 ⟨_,rfl,by rw [decide_eq_true_eq];unfold ltE ltP;omega⟩
theorem md (k:Nat)(hG:GK.G h)(hn:20≤n)(hs:Sl h n 1 (.slice a len cap) (strs S))(hS:∀s∈S,GK.isSmall s=true)(hb:S.length<1000000):VF (cal (k+2)) 81 [.slice a len cap] h n fun v=>v=.bool true:=by
 refine zw (fn:=Tryz.f81) R4 ?_;have hl:len=S.length:=by
  obtain ⟨a',len',cap',e,hl⟩:=hs.len;injection e with e1 e2 e3
  rw [mJ] at hl;omega
 subst hl;refine zN ?_;refine sh ?_;refine sh ?_;refine zQ (α:=Nat) (fun j=>[(5,.slice a S.length cap),(6,.int .i64 (S.length:Int)),(7,.int .i64 (j:Int))]) (fun j h' n' w=>h=h'∧n=n'∧w=[]∧j≤S.length) (fun j=>S.length-j) 0 ⟨rfl,rfl,rfl,trivial⟩ ⟨rfl,rfl,rfl,Nat.zero_le _⟩ (by show S.length-0<LL;unfold LL;omega) ?_;rintro j t _ _ _ ⟨rfl,rfl,rfl,hj⟩;refine zN ?_;by_cases hjS:j=S.length
 ·refine sh ?_;refine Za ?_;refine sh ?_;exact retF _ rfl (zi rfl) R2 rfl
 obtain ⟨s,hs'⟩:∃s,S[j]?=some s:=⟨S[j]'zo,List.getElem?_eq_getElem zo⟩;obtain ⟨b,off,x,cs,rfl,hb3,hx,hc,hcap,hle,he⟩:=hs.inv zo;have hcell:cs[off+j]?=some (.string ⟨⟨s⟩⟩):=yX he (by rw [strs,List.getElem?_map,hs'];rfl);refine sh ?_;refine Zb ?_;refine yR R8 zo ?_;refine zg R6 hx (v:=.string ⟨⟨s⟩⟩) ⟨hc,(by rw [←hcell];congr 1;omega)⟩ ?_;refine sh ?_;repeat refine zR ?_
 refine z8 _ R5 (wS k hG _ (hS s (List.mem_of_getElem? hs'))) ?_;rintro _ rfl;refine sh ?_;refine Za ?_;refine sh ?_;exact goOn (j+1) (by show S.length-(j+1)<S.length-j;omega) ⟨rfl,rfl,by show Value.int .i64 _=Value.int .i64 _;congr 1,trivial⟩ ⟨rfl,rfl,rfl,by show j+1≤S.length;omega⟩
end
section
theorem kb:∀{E:List Ent} {j:Nat} {e:Ent},E[j]?=some e→((ents E).drop (j*4)).take 4=entC e:=by
 intro E;induction E with
 |nil=>intro j e h;simp at h
 |cons x E ih=>
  intro j e h;cases j with
  |zero=>
   simp at h;subst h;rfl
  |succ j=>
   have:=ih (j:=j) (e:=e) (by simpa using h);rw [show (j+1)*4=(entC x).length+j*4 from by simp [entC];omega];show ((entC x++ents E).drop _).take 4=_;rw [←List.drop_drop,List.drop_left' rfl];exact this
theorem uF {cs cells:List Value}{off m j k:Nat}(he:(cs.drop off).take m=cells)(hj:j+k≤m):(cs.drop (off+j)).take k=(cells.drop j).take k:=by
 rw [←he,List.drop_take,List.take_take,List.drop_drop,Nat.min_eq_left zo]
theorem qD (k:Nat){h:HF}(hG:GK.G h){n:Nat}{aE aB:Option Addr}{lE cE lB cB:Nat}{E:List Ent}{B:List Int}(hn:20≤n)(hE:Sl h n 4 (.slice aE lE cE) (ents E))(hB:Sl h n 1 (.slice aB lB cB) (i64s B))(hok:∀e∈E,EntOk B e)(hasc:E.Pairwise ltE)(hb:E.length<1000000∧B.length<1000000):VF (cal (k+2)) 80 [.slice aE lE cE,.slice aB lB cB] h n fun v=>v=.bool true:=by
 refine zw (fn:=Tryz.f80) R4 ?_;have hlE:lE=E.length:=by
  obtain ⟨a',len',cap',e,hl⟩:=hE.len;injection e with e1 e2 e3
  rw [yQ] at hl;omega
 have hlB:lB=B.length:=by
  obtain ⟨a',len',cap',e,hl⟩:=hB.len;injection e with e1 e2 e3
  simp [i64s] at hl;omega
 subst hlE hlB;refine zN ?_;refine sh ?_;refine sh ?_;refine zQ (α:=Nat) (fun j=>[(0,.slice aE E.length cE),(1,.slice aB B.length cB),(7,.slice aE E.length cE),(8,.int .i64 (E.length:Int)),(9,.int .i64 (j:Int))]) (fun j h' n' w=>Ext n h h'∧n≤n'∧w=[]∧j≤E.length) (fun j=>E.length-j) 0 ⟨rfl,rfl,rfl,rfl,rfl,trivial⟩ ⟨Ext.refl _ _,Nat.le_refl _,rfl,Nat.zero_le _⟩ (by show E.length-0<LL;unfold LL;omega) ?_;rintro j t h1 n1 _ ⟨hx1,hn1,rfl,hj⟩;refine zN ?_;by_cases hjE:j=E.length
 ·refine sh ?_;refine Za ?_;refine sh ?_;exact retF _ rfl (zi rfl) R2 rfl
 obtain ⟨e,he'⟩:∃e,E[j]?=some e:=⟨E[j]'zo,List.getElem?_eq_getElem zo⟩;obtain ⟨hb1,hrc,hcc,y,hy0,hy1,hyn,hyv⟩:=hok e (List.mem_of_getElem? he');obtain ⟨bE,oE,xE,csE,rfl,hbE,hxE,hcE,hcapE,hleE,heE⟩:=hE.inv zo;obtain ⟨bB,oB,xB,csB,rfl,hbB,hxB,hcB,hcapB,hleB,heB⟩:=hB.inv zo;have hcell:(csE.drop (oE+j*4)).take 4=entC e:=by rw [uF heE zo,kb he']
 have hxE1:h1 bE=some xE:=by rw [hx1 bE hbE];exact hxE
 have hxB1:h1 bB=some xB:=by rw [hx1 bB hbB];exact hxB
 refine sh ?_;refine Zb ?_;repeat refine zR ?_
 refine yR R8 zo ?_;refine zI (v:=.agg (entC e).toArray) R5 (zB R2 hxE1 hcE zo (by rw [←hcell];congr 2<;>omega)) ?_;refine zT R5 ?_;repeat refine zR ?_
 refine zv (entC e) R7 rfl (ze _ _ _) rfl (by show 3*n≤3*n1+2;omega) ?_;rw [yH];generalize hh:upd h1 (3*n1+2) _=h2;have hp2:∃ty,h2 (3*n1+2)=some (.row (entC e) ty):=⟨_,by rw [←hh,ze]⟩;obtain ⟨ty2,hp2⟩:=hp2;have hx2:Ext n1 h1 h2:=by rw [←hh];exact Ext.upd zo
 have hxE2:h2 bE=some xE:=by rw [hx2 bE zo];exact hxE1
 have hxB2:h2 bB=some xB:=by rw [hx2 bB zo];exact hxB1
 have hG2:GK.G h2:=sw hG (hx1.trans hx2 hn1) hn;obtain ⟨dd,hdd⟩:∃d,B[e.b.toNat]?=some d:=⟨B[e.b.toNat]'zo,List.getElem?_eq_getElem zo⟩;have hcd:=hcc dd hdd;have hcellB:csB[oB+e.b.toNat]?=some (.int .i64 dd):=yX heB (by rw [i64s,List.getElem?_map,hdd];rfl);refine zN ?_;rw [vh rfl];repeat refine zR ?_
 refine zg R6 hp2 (v:=.int .i64 e.b) R2 ?_;repeat refine zR ?_
 refine zg R6 hp2 (v:=.int .i64 e.b) R2 ?_;repeat refine zR ?_
 refine zg R6 hp2 (v:=.int .i64 e.r) R2 ?_;repeat refine zR ?_
 refine zg R6 hp2 (v:=.int .i64 e.r) R2 ?_;repeat refine zR ?_
 refine zg R6 hp2 (v:=.int .i64 e.c) R2 ?_;repeat refine zR ?_
 refine zg R6 hp2 (v:=.int .i64 e.c) R2 ?_;repeat refine zR ?_
 refine zg R6 hp2 (v:=.int .i64 e.b) R2 ?_;refine yR R8 zo ?_;refine zg R6 hxB2 (v:=.int .i64 dd) ⟨hcB,(by rw [←hcellB];congr 1;omega)⟩ ?_;refine sh ?_;refine Za ?_;refine zl [0,1,3,7,7,23,63,127,7,511,1023,2047,4095,8191,16383,32767,65535,131071,262143,524287,1048575,2097151,4194303] rfl ?_;have hsm:GK.isSmall e.v=true:=mQ (K:=2) zo ⟨y,hy0,hy1,hyv⟩;have hnz:(e.v==[48])=false:=by
  rw [hyv];simpa using bg zo hyn
 have tail:∀(Q:SV→Prop) (t:TF),True:=fun _ _=>trivial;by_cases hj0:j=0
 ·repeat refine zD ?_
  refine zL R6 (zF rfl hp2 (v:=.string ⟨⟨e.v⟩⟩) R2) R2 ?_;refine ju _ R7 (wS k hG2 _ hsm) ?_;rintro _ rfl;repeat refine zD ?_
  refine zL R6 (zF rfl hp2 (v:=.string ⟨⟨e.v⟩⟩) R2) ⟨(wJ (by simp)),rfl⟩ ?_;refine yv (v:=.bool false) rfl rfl rfl rfl (by show some (Value.bool (e.v==[48]))=_;rw [hnz]) ?_;repeat refine zD ?_
  refine zN ?_;refine Za ?_;refine sh ?_;exact goOn (j+1) (by show E.length-(j+1)<E.length-j;omega) ⟨rfl,rfl,rfl,rfl,by show Value.int .i64 _=Value.int .i64 _;congr 1,trivial⟩ ⟨hx1.trans hx2 hn1,by show n≤n1+1;omega,rfl,by show j+1≤E.length;omega⟩
 obtain ⟨f,hf'⟩:∃f,E[j-1]?=some f:=⟨E[j-1]'zo,List.getElem?_eq_getElem zo⟩;have hlt:ltE f e:=by
  obtain ⟨p1,q1⟩:=List.getElem?_eq_some_iff.1 hf';obtain ⟨p2,q2⟩:=List.getElem?_eq_some_iff.1 he';have:=List.pairwise_iff_getElem.1 hasc (j-1) j p1 p2 zo;rw [q1,q2] at this;exact this
 have hcellf:(csE.drop (oE+(j-1)*4)).take 4=entC f:=by rw [uF heE zo,kb hf']
 repeat refine zD ?_
 refine jv R8 zo ?_;refine zL (v:=.agg (entC f).toArray) R6 (zB R2 hxE2 hcE zo (by rw [←hcellf];congr 2<;>omega)) R2 ?_;refine zL (v:=.agg (entC e).toArray) R6 (zB R2 hp2 rfl zb rfl) R2 ?_;refine ju _ R7 (jH k h2 (n1+1) f e) ?_;rintro _ ⟨b,rfl,hbb⟩;have:b=true:=hbb.2 hlt;subst this;repeat refine zD ?_
 refine zL R6 (zF rfl hp2 (v:=.string ⟨⟨e.v⟩⟩) R2) ⟨(wJ (by simp)),rfl⟩ ?_;refine ju _ R7 (wS k hG2 _ hsm) ?_;rintro _ rfl;repeat refine zD ?_
 refine zL R6 (zF rfl hp2 (v:=.string ⟨⟨e.v⟩⟩) R2) ⟨(wJ (by simp)),rfl⟩ ?_;refine yv (v:=.bool false) rfl rfl rfl rfl (by show some (Value.bool (e.v==[48]))=_;rw [hnz]) ?_;repeat refine zD ?_
 refine zN ?_;refine Za ?_;refine sh ?_;exact goOn (j+1) (by show E.length-(j+1)<E.length-j;omega) ⟨rfl,rfl,rfl,rfl,by show Value.int .i64 _=Value.int .i64 _;congr 1,trivial⟩ ⟨hx1.trans hx2 hn1,by show n≤n1+1;omega,rfl,by show j+1≤E.length;omega⟩
end
section
variable {cells cs:List Value}{b bt cap j l len off sz:Nat}{e ty:TypeId}{hi x y:Operand}{z:Value}{ik:IntKind}{a:Option Addr}
theorem zdg {m i:Nat}(he:(cs.drop off).take m=cells)(hi:i<m):cs[off+i]?=cells[i]?:=by
 rw [←he,List.getElem?_take_of_lt hi,List.getElem?_drop]
theorem zex:∀{E:List Ent} {j:Nat} {e:Ent},E[j]?=some e→(ents E)[j*4]?=some (.int .i64 e.b):=by
 intro E;induction E with
 |nil=>intro j e h;simp at h
 |cons x E ih=>
  intro j e h;cases j with
  |zero=>simp at h;subst h;rfl
  |succ j=>
   have:=ih (j:=j) (e:=e) (by simpa using h);rw [show (j+1)*4=j*4+4 from zo];show (entC x++ents E)[j*4+4]?=_;rw [List.getElem?_append_right (by simp [entC])];exact this
theorem Sl.ents_sub {h:HF}{n:Nat}{E P g R:List Ent}(s:Sl h n 4 (.slice (some ⟨b,off,none⟩) len cap) (ents E))(hE:E=P++(g++R))(hg:g≠[]):Sl h n 4 (.slice (some ⟨b,off+P.length*4,none⟩) g.length (cap-P.length)) (ents g):=by
 have hl:len=E.length:=by
  obtain ⟨_,_,_,e,hl⟩:=s.len;injection e with e1 e2 e3
  rw [yQ] at hl;omega
 have hlen:E.length=P.length+(g.length+R.length):=by rw [hE];simp
 have hg0:0<g.length:=List.length_pos_iff.2 hg;obtain ⟨_,_,x,cs,e,hb,hx,hc,hcap,hle,he⟩:=s.inv zo;injection e with e
 injection e with e1 e2
 subst e1 e2;refine .at_ hb hx hc zo zo ?_;rw [uF (j:=P.length*4) (k:=g.length*4) he zo,hE,se,se,List.drop_left' (yQ P),List.take_left' (yQ g)]
section
variable {X:CtxF}{ops r:List Oper}{ms:List Nat}{i m:Nat}{t:TF}{h:HF}{n:Nat}{w:List Nat}{al ld:List (Nat×Nat)}{ef:List (Nat×HF×List Nat)}{Q:SV→Prop}{o:Oper}{d:Tmp}
theorem zi7 (hw:zh ops t o=true)(hd:o.dst=some d)(hn:zm X.nt (some d)=true)(ho:o.op=.indexAddr ty x y)(hu:X.E.und ty=some (.slice e))(hi:X.E.inf e=some (sz,bt,z))
  (hx:evF t x=.slice (some ⟨b,off,none⟩) len cap)(hj:evF t y=.int ik (j:Int))(hr:j<len)(k:ED X ops r ms (i+1) ⟨⟨upd t d (.pointer (some ⟨b,off+j*sz,none⟩)),h,n,w⟩,al,ld,ef⟩ Q):ED X ops (o::r) (m::ms) i ⟨⟨t,h,n,w⟩,al,ld,ef⟩ Q:=by
 refine yv hw hd hn (by rw [ho];rfl) ?_ k;have h1:(0:Int)≤(j:Int)∧(j:Int)<(len:Int):=zo;rw [ho];show yu X.E ty (evF t x) (evF t y)=_;rw [hx,hj];simp only [yu,hu,hi,if_pos h1,wm,Int.toNat_natCast]
theorem cd {j:Int}(mm:Nat)(hw:zh ops t o=true∧o.dst=some d∧zm X.nt (some d)=true∧o.op=.slice ty x none (some hi) none∧X.E.und ty=some (.slice e)∧X.E.inf e=some (sz,bt,z)∧evF t x=.slice (some ⟨b,off,none⟩) len cap∧evF t hi=.int ik j∧j=(mm:Int))(hr:mm≤cap)(k:ED X ops r ms (i+1) ⟨⟨upd t d (.slice (some ⟨b,off,none⟩) mm cap),h,n,w⟩,al,ld,ef⟩ Q):ED X ops (o::r) (m::ms) i ⟨⟨t,h,n,w⟩,al,ld,ef⟩ Q:=by
 obtain ⟨hw,hd,hn,ho,hu,hi',hx,hj,hm⟩:=hw;refine yv hw hd hn (by rw [ho];rfl) ?_ k;rw [ho];subst hm;show yS X.E ty (evF t x) none (some (evF t hi))=_;rw [hx,hj];have h1:(0:Int)≤(mm:Int)∧(mm:Int)≤cap:=zo;have h2:(gro b&&(Nat.ble 1 0&&Nat.ble cap 0))=false:=by cases gro b<;>rfl
 simp only [yS,hu,hi',bnd,if_pos h1,Int.toNat_natCast,h2,k8,Nat.sub_zero]
theorem zhm {lo:Operand}{j:Int}(mm:Nat)(hw:zh ops t o=true∧o.dst=some d∧zm X.nt (some d)=true∧o.op=.slice ty x (some lo) none none∧X.E.und ty=some (.slice e)∧X.E.inf e=some (sz,bt,z)∧evF t x=.slice (some ⟨b,off,none⟩) len cap∧evF t lo=.int ik j∧j=(mm:Int))(hr:mm≤len)(hlc:len≤cap)
  (k:∀v,(mm=len∧∃a c,v=.slice a 0 c)∨(mm<len∧v=.slice (some ⟨b,off+mm*sz,none⟩) (len-mm) (cap-mm))→EO X ops r ⟨upd t d v,h,n,w⟩ Q):EO X ops (o::r) ⟨t,h,n,w⟩ Q:=by
 obtain ⟨hw,hd,hn,ho,hu,hi',hx,hj,hm⟩:=hw;by_cases h1:mm<cap
 ·refine vp mm ⟨hw,hd,hn,ho,hu,hi',hx,hj,hm⟩ hr hlc (.inl h1) (k _ ?_);rw [if_neg zo];by_cases h2:mm=len
  ·exact .inl ⟨h2,_,_,by rw [h2,Nat.sub_self]⟩
  exact .inr ⟨zo,rfl⟩
 have h2:mm=len:=zo;cases hg:gro b with
 |false=>exact vp mm ⟨hw,hd,hn,ho,hu,hi',hx,hj,hm⟩ hr hlc (.inr (.inl hg)) (k _ (.inl ⟨h2,_,_,by rw [h2,Nat.sub_self]⟩))
 |true=>
  by_cases h3:mm=0
  ·exact vp mm ⟨hw,hd,hn,ho,hu,hi',hx,hj,hm⟩ hr hlc (.inr (.inr h3)) (k _ (.inl ⟨h2,_,_,by rw [h2,Nat.sub_self]⟩))
  exact jZ mm hw hd hn ho hu hi' hx hj hm h2 zo hg zo (k _ (.inl ⟨h2,_,_,rfl⟩))
end
def zmw (k:Nat)(E:List Ent)(I:List Ent→HF→Nat→Prop)(W V:Nat→Prop)(l:Nat)(h:HF)(n:Nat):Prop:=
 ∀(P g R:List Ent) (b0:Int) (h':HF) (n':Nat) (b off c:Nat),E=P++(g++R)→g≠[]→(∀x∈g,x.b=b0)→n≤n'→(∀c,c<3*n→¬W c→h' c=h c)→I P h' n'→Sl h' n' 4 (.slice (some ⟨b,off,none⟩) g.length c) (ents g)→¬W b→b<3*n→
  YF (cal k) l [.int .i64 b0,.slice (some ⟨b,off,none⟩) g.length c] h' n' fun h2 n2 w=>I (P++g) h2 n2∧n'≤n2∧(∀c,c<3*n'→¬W c→h2 c=h' c)∧(∀c∈w,W c∨3*n'≤c)∧l∈w∧∃c∈w,V c
theorem gv (k:Nat){h:HF}{n c1:Nat}{W V:Nat→Prop}{E:List Ent}{I:List Ent→HF→Nat→Prop}(hl:l<3*n)(hc1:h c1=some (.row [.slice a E.length cap] e))(hs:Sl h n 4 (.slice a E.length cap) (ents E))(hb:E.length<1000000)(hWs:∀ad,a=some ad→¬W ad.block)(hI:I [] h n)(hV:∀c,V c→c<3*n)(hy:zmw k E I W V l h n):
  CF (cal (k+1)) 121 [.func (.yield l) #[] #[],.pointer (some ⟨c1,0,none⟩)] h n fun _ h' n' w=>I E h' n'∧n≤n'∧(∀c,c<3*n→¬W c→h' c=h c)∧(∀c∈w,W c∧c<3*n)∧(E=[]∨∃c∈w,V c):=by
 refine ks (fn:=Tryz.f121) R4 ?_;refine zN ?_;refine zg R6 hc1 R2 ?_;refine sh ?_;refine zQ (α:=List Ent×List Ent×Value) (fun z=>[(0,.func (.yield l) #[] #[]),(3,z.2.2)])
  (fun z h' n' w=>E=z.1++z.2.1∧((z.2.1=[]∧∃a c,z.2.2=.slice a 0 c)∨(z.2.1≠[]∧∃b off,a=some ⟨b,off,none⟩∧z.2.2=.slice (some ⟨b,off+z.1.length*4,none⟩) z.2.1.length (cap-z.1.length)))∧I z.1 h' n'∧n≤n'∧(∀c,c<3*n→¬W c→h' c=h c)∧(∀c∈w,W c∧c<3*n)∧(w=[]→z.1=[]∧h'=h∧n'=n)∧(z.1=[]∨∃c∈w,V c)) (fun z=>z.2.1.length)
  ([],E,.slice a E.length cap) ⟨rfl,rfl,trivial⟩ ⟨rfl,?_,hI,Nat.le_refl _,fun _ _ _=>rfl,fun c hc=>absurd hc List.not_mem_nil,fun _=>⟨rfl,rfl,rfl⟩,.inl rfl⟩ (by show E.length<LL;unfold LL;omega) ?_
 ·cases E with
  |nil=>exact .inl ⟨rfl,_,_,rfl⟩
  |cons x E=>
   obtain ⟨b,off,x,cs,rfl,_⟩:=hs.inv (by simp);exact .inr ⟨List.cons_ne_nil _ _,b,off,rfl,by simp⟩
 rintro ⟨P,R,v3⟩ t h1 n1 w1 ⟨hE,hv,hI1,hn1,hf1,hw1,hz1,hv1⟩;simp only at hE hv hI1 hw1 hz1 hv1;have hlen:E.length=P.length+R.length:=by rw [hE];simp
 cases R with
 |nil=>
  obtain ⟨a',c',rfl⟩:∃a c,v3=.slice a 0 c:=by
   rcases hv with ⟨_,h⟩|⟨h,_⟩
   ·exact h
   exact absurd rfl h
  rw [List.append_nil] at hE;refine zN ?_;refine sh ?_;refine Za ?_;subst hE;exact ⟨rfl,[],rfl,⟨hI1,hn1,hf1,hw1,hv1⟩,fun hw=>by
   obtain ⟨z1,z2,z3⟩:=hz1 hw;subst z2 z3;exact ⟨hI1,hn1,fun _ _ _=>trivial,fun c hc=>absurd hc List.not_mem_nil,.inl z1⟩⟩
 |cons x R=>
  obtain ⟨b,off,rfl,rfl⟩:∃b off,a=some ⟨b,off,none⟩∧v3=.slice (some ⟨b,off+P.length*4,none⟩) (x::R).length (cap-P.length):=by
   rcases hv with ⟨h,_⟩|⟨_,h⟩
   ·cases h
   exact h
  have hWb:¬W b:=hWs _ rfl;have hRp:0<(x::R).length:=Nat.succ_pos _;obtain ⟨_,_,xb,cs,e1,hbn,hxb,hcs,hcap,hle,he⟩:=hs.inv (by rw [hlen];simp);injection e1 with e1
  injection e1 with e1 e2
  subst e1 e2;have hx1:h1 b=some xb:=(hf1 b hbn hWb).trans hxb;have hlR:(x::R).length≤cap-P.length:=zo;have hget:∀{i:Nat} {y:Ent},(x::R)[i]?=some y→cs[off+P.length*4+i*4]?=some (.int .i64 y.b):=fun {i y} hi=>by
   have hlt:=(List.getElem?_eq_some_iff.1 hi).1;have:E[P.length+i]?=some y:=by rw [hE,List.getElem?_append_right zo,Nat.add_sub_cancel_left];exact hi
   rw [show off+P.length*4+i*4=off+(P.length+i)*4 from zo,zdg he zo];exact zex this
  refine zN ?_;refine sh ?_;refine Zb ?_;repeat refine zR ?_
  rw [xN,zO,xD];refine yo (α:=Nat) (fun m=>[(0,.func (.yield l) #[] #[]),(3,.slice (some ⟨b,off+P.length*4,none⟩) (x::R).length (cap-P.length)),(4,.int .i64 (m:Int))]) (fun m h' n' w=>h1=h'∧n1=n'∧w1=w∧1≤m∧m≤(x::R).length∧∀y∈(x::R).take m,y.b=x.b) ?_ ?_
  ·refine zN ?_;refine zQ (α:=Nat) (fun m=>[(0,.func (.yield l) #[] #[]),(3,.slice (some ⟨b,off+P.length*4,none⟩) (x::R).length (cap-P.length)),(4,.int .i64 (m:Int))]) (fun m h' n' w=>h1=h'∧n1=n'∧w1=w∧1≤m∧m≤(x::R).length∧∀y∈(x::R).take m,y.b=x.b) (fun m=>(x::R).length-m) 1 ⟨rfl,rfl,rfl,trivial⟩ ⟨rfl,rfl,rfl,Nat.le_refl _,by simp,fun y hy=>by simp at hy;rw [hy]⟩ (by show (x::R).length-1<LL;unfold LL;omega) ?_;rintro m t _ _ _ ⟨rfl,rfl,rfl,hm1,hm2,hmb⟩;refine zN ?_;rw [xF rfl];by_cases hmR:m=(x::R).length
   ·refine sh ?_;refine Za ?_;exact zK m ⟨rfl,rfl,rfl,trivial⟩ ⟨rfl,rfl,rfl,hm1,hm2,hmb⟩
   obtain ⟨y,hy'⟩:∃y,(x::R)[m]?=some y:=⟨_,List.getElem?_eq_getElem zo⟩;repeat refine zR ?_
   refine yR R8 zo ?_;refine zM ?_;refine zg R6 hx1 ⟨hcs,(hget hy')⟩ ?_;refine zM ?_;refine yR R8 (by simp) ?_;refine zM ?_;refine zg R6 hx1 ⟨hcs,(hget (i:=0) (y:=x) rfl)⟩ ?_;by_cases hbb:y.b=x.b
   ·refine sh ?_;refine Zb ?_;refine sh ?_;refine goOn (m+1) (by show _-_<_-_;omega) ⟨rfl,rfl,rfl,trivial⟩ ⟨rfl,rfl,rfl,zo,zo,?_⟩;intro u hu;rw [List.take_add_one,hy'] at hu;rcases List.mem_append.1 hu with hu|hu
    ·exact hmb u hu
    simp at hu;rw [hu];exact hbb
   refine sh ?_;refine Za ?_;exact zK m ⟨rfl,rfl,rfl,trivial⟩ ⟨rfl,rfl,rfl,hm1,hm2,hmb⟩
  rintro m t _ _ _ ⟨rfl,rfl,rfl,hm1,hm2,hmb⟩;have hg:((x::R).take m).length=m:=by rw [List.length_take];omega
  have hg0:(x::R).take m≠[]:=fun h=>by rw [h] at hg;simp at hg;omega
  have hsplit:E=P++((x::R).take m++(x::R).drop m):=by rw [List.take_append_drop];exact hE
  have hsub:Sl h1 n1 4 (.slice (some ⟨b,off+P.length*4,none⟩) ((x::R).take m).length (cap-P.length)) (ents ((x::R).take m)):=
   Sl.ents_sub (.at_ zo hx1 hcs hcap hle he) hsplit hg0
  refine zN ?_;refine zl [0,0,2,6,14,0,0,96,255,511] rfl ?_;refine yv (v:=.func (.yield l) #[] #[]) rfl rfl rfl rfl rfl ?_;refine dr_S R5 ?_;refine zi7 (j:=0) rfl rfl rfl rfl rfl rfl rfl rfl (by simp) ?_;refine dr_P R5 ?_;refine zL R6 (zF rfl hx1 ⟨hcs,(hget (i:=0) (y:=x) rfl)⟩) R2 ?_;refine dr_S R5 ?_;refine dr_I R5 ?_;refine cd m R9 zo ?_;have hcall:=hy P ((x::R).take m) ((x::R).drop m) x.b h1 n1 b (off+P.length*4) (cap-P.length) hsplit hg0 hmb hn1 hf1 hI1 hsub hWb hbn;rw [hg] at hcall;refine ze3 _ rfl rfl rfl rfl rfl rfl rfl hcall ?_;rintro h2 n2 w2 ⟨hI2,hn2,hf2,hw2,hlw,c2,hc2,hV2⟩;refine ⟨rfl,hn2,?_⟩;refine dr_B R5 ?_;rw [uU];refine zN ?_;refine Za ?_;repeat refine zR ?_
  refine zhm m R9 hm2 hlR ?_;intro v hv;refine zA (v:=v) R5 ?_;refine zN ?_;have hmem:∀c∈addW n w2 w1,W c∧c<3*n:=fun c hc=>by
   rcases xS _ _ c hc with ⟨h3,h4⟩|h3
   ·rcases hw2 c h3 with h5|h5
    ·exact ⟨h5,h4⟩
    omega
   exact hw1 c h3
  refine goOn (P++(x::R).take m,(x::R).drop m,v) (by show ((x::R).drop m).length<(x::R).length;rw [List.length_drop];omega) ⟨rfl,rfl,trivial⟩ ⟨by rw [List.append_assoc];exact hsplit,?_,hI2,by show n≤n2;omega,fun c hc hcW=>(hf2 c zo hcW).trans (hf1 c hc hcW),hmem,fun hw=>?_,.inr ⟨c2,uT (hV c2 hV2) hc2,hV2⟩⟩
  ·rcases hv with ⟨h3,h4⟩|⟨h3,rfl⟩
   ·exact .inl ⟨List.drop_eq_nil_of_le zo,h4⟩
   refine .inr ⟨fun h=>?_,b,off,rfl,?_⟩
   ·have:=congrArg List.length h;simp at this;simp at h3;omega
   show _=Value.slice (some ⟨b,off+(P++(x::R).take m).length*4,none⟩) _ _;rw [List.length_append,hg,List.length_drop,show off+P.length*4+m*4=off+(P.length+m)*4 from zo,Nat.sub_sub]
  have hw:addW n w2 w1=[]:=hw;have:l∈addW n w2 w1:=uT hl hlw;rw [hw] at this;exact absurd this List.not_mem_nil
end
section
section
variable {X:CtxF}{ops r:List Oper}{ms:List Nat}{i m:Nat}{t:TF}{h:HF}{n:Nat}{w:List Nat}{al ld:List (Nat×Nat)}{ef:List (Nat×HF×List Nat)}{Q:SV→Prop}{o:Oper}{d:Tmp}
theorem bX {ty e:TypeId}{x lo hi mx:Operand}{b off len cap sz bt i j m:Nat}{z:Value}{k1 k2 k3:IntKind}(hw:zh ops t o=true∧o.dst=some d∧zm X.nt (some d)=true∧o.op=.slice ty x (some lo) (some hi) (some mx)∧X.E.und ty=some (.slice e)∧X.E.inf e=some (sz,bt,z)∧evF t x=.slice (some ⟨b,off,none⟩) len cap∧evF t lo=.int k1 (i:Int)∧evF t hi=.int k2 (j:Int)∧evF t mx=.int k3 (m:Int))(hij:i≤j)(hjm:j≤m)(hm:m≤cap)(him:i<m)(hg:gro b=false)
  (k:EO X ops r ⟨upd t d (.slice (some ⟨b,off+i*sz,none⟩) (j-i) (m-i)),h,n,w⟩ Q):EO X ops (o::r) ⟨t,h,n,w⟩ Q:=by
 obtain ⟨hw,hd,hn,ho,hu,hi',hx,h1,h2,h3⟩:=hw;refine zA ⟨hw,hd,hn,(by rw [ho];rfl),?_⟩ k;rw [ho];show pO X.E ty (evF t x) (evF t lo) (evF t hi) (evF t mx)=_;rw [hx,h1,h2,h3];have e:offA m i sz ⟨b,off,none⟩=⟨b,off+i*sz,none⟩:=by
  unfold offA;have:Nat.beq m i=false:=by
   cases hb:Nat.beq m i with
   |false=>rfl
   |true=>have:=Nat.eq_of_beq_eq_true hb;omega
  rw [this,wm]
 simp only [pO,hu,hi',Nat.ble_eq_true_of_le hij,Nat.ble_eq_true_of_le hjm,Nat.ble_eq_true_of_le hm,hg,Bool.and_self,Bool.not_false,Option.isNone_none,e,Int.ofNat_eq_natCast]
end
def zmv (k:Nat)(b off c K:Nat)(I:Nat→HF→Nat→Prop)(W:Nat→Prop)(l:Nat)(h:HF)(n:Nat):Prop:=
 ∀(s:Nat) (h':HF) (n':Nat),s<K→n≤n'→(∀c,c<3*n→¬W c→h' c=h c)→I s h' n'→
  YF (cal k) l [.slice (some ⟨b,off+s*c*4,none⟩) c c] h' n' fun h2 n2 w=>I (s+1) h2 n2∧n'≤n2∧(∀c,c<3*n'→¬W c→h2 c=h' c)∧(∀c∈w,W c∨3*n'≤c)∧l∈w
theorem zck (k:Nat){h:HF}{n l c1 c2 b off c K cap:Nat}{W:Nat→Prop}{e e2:TypeId}{I:Nat→HF→Nat→Prop}(hl:l<3*n)(hc1:h c1=some (.row [.slice (some ⟨b,off,none⟩) (K*c) cap] e))(hc2:h c2=some (.row [.int .i64 (c:Int)] e2))(h1:c1<3*n∧¬W c1)(h2:c2<3*n∧¬W c2)(hc:0<c)(hcap:K*c≤cap)(hb:K*c<1000000)(hg:gro b=false)(hI:I 0 h n)(hy:zmv k b off c K I W l h n):
  CF (cal (k+1)) 242 [.func (.yield l) #[] #[],.pointer (some ⟨c1,0,none⟩),.pointer (some ⟨c2,0,none⟩)] h n fun _ h' n' w=>I K h' n'∧n≤n'∧(∀c,c<3*n→¬W c→h' c=h c)∧∀c∈w,W c∧c<3*n:=by
 refine ks (fn:=Tryz.f242) R4 ?_;refine zN ?_;refine sh ?_;refine zQ (α:=Nat) (fun s=>[(0,.func (.yield l) #[] #[]),(1,.pointer (some ⟨c1,0,none⟩)),(2,.pointer (some ⟨c2,0,none⟩)),(4,.int .i64 ((s*c:Nat):Int))])
  (fun s h' n' w=>s≤K∧I s h' n'∧n≤n'∧(∀c,c<3*n→¬W c→h' c=h c)∧(∀c∈w,W c∧c<3*n)∧(w=[]→s=0∧h'=h∧n'=n)) (fun s=>K-s)
  0 ⟨rfl,rfl,rfl,by rw [Nat.zero_mul];rfl,trivial⟩ ⟨Nat.zero_le _,hI,Nat.le_refl _,fun _ _ _=>rfl,fun c hc=>absurd hc List.not_mem_nil,fun _=>⟨rfl,rfl,rfl⟩⟩ (by show K-0<LL;have:=Nat.le_mul_of_pos_right K hc;unfold LL;omega) ?_
 rintro s t h3 n3 w3 ⟨hs,hI3,hn3,hf3,hw3,hz3⟩;have p1:=(hf3 c1 h1.1 h1.2).trans hc1;have p2:=(hf3 c2 h2.1 h2.2).trans hc2;by_cases hsK:s=K
 ·subst hsK;refine Zf ?_;refine zg R6 p1 R2 ?_;refine sh ?_;refine Za ?_;exact ⟨rfl,[],rfl,⟨hI3,hn3,hf3,hw3⟩,fun hw=>by
   obtain ⟨z1,z2,z3⟩:=hz3 hw;subst z2 z3;exact ⟨hI3,hn3,fun _ _ _=>trivial,fun c hc=>absurd hc List.not_mem_nil⟩⟩
 have hlt:(s+1)*c≤K*c:=Nat.mul_le_mul_right _ zo;rw [Nat.succ_mul] at hlt;refine Zf ?_;refine zg R6 p1 R2 ?_;refine sh ?_;refine Zb ?_;rw [xF rfl];refine zg R6 p2 R2 ?_;refine zg R6 p1 R2 ?_;refine zM ?_;refine vp (s*c) R9 zo hcap (.inl zo) ?_;refine zM ?_;refine st_I (ik:=.i64) (a:=(c:Int)) ⟨rfl,rfl,rfl,rfl,?_⟩ ?_
 ·show some (Value.int .i64 (if ((K*c-s*c:Nat):Int)<(c:Int) then ((K*c-s*c:Nat):Int) else (c:Int)))=_;rw [if_neg zo]
 refine Zd ?_;refine zA (v:=.func (.yield l) #[] #[]) R5 ?_;refine zg R6 p1 R2 ?_;repeat refine zR ?_
 refine bX (i:=s*c) (j:=s*c+c) (m:=s*c+c) R10 zo zo zo zo hg ?_;rw [Nat.add_sub_cancel_left];refine zdk _ rfl rfl rfl rfl rfl (hy s h3 n3 zo hn3 hf3 hI3) ?_;rintro h4 n4 w4 ⟨hI4,hn4,hf4,hw4,hlw⟩;refine sh ?_;refine Za ?_;have p2':=(hf4 c2 zo h2.2).trans p2;refine zM ?_;refine zg R6 p2' R2 ?_;refine sh ?_;have hmem:∀c∈addW n w4 w3,W c∧c<3*n:=fun c hc=>by
  rcases xS _ _ c hc with ⟨h5,h6⟩|h5
  ·rcases hw4 c h5 with h7|h7
   ·exact ⟨h7,h6⟩
   omega
  exact hw3 c h5
 refine goOn (s+1) (by show K-(s+1)<K-s;omega) ⟨rfl,rfl,rfl,by rw [Nat.succ_mul];rfl,trivial⟩ ⟨by show s+1≤K;omega,hI4,by show n≤n4;omega,fun c hc hcW=>(hf4 c zo hcW).trans (hf3 c hc hcW),hmem,fun hw=>?_⟩;have hw:addW n w4 w3=[]:=hw;have:l∈addW n w4 w3:=uT hl hlw;rw [hw] at this;exact absurd this List.not_mem_nil
end
section
variable {L N b bt bytes cap k l len n0 off:Nat}{W:List Nat}{sT ty xT:TypeId}{x:Operand}{z:Value}{c cs:List Value}
def GR {D:Type}(sz:Nat)(P:List Value→D→HF→Nat→Prop)(lo:Nat)(h:HF)(n:Nat)(e:TypeId)(v:Value)(ds:List D):Prop:=∃C,Gro h lo n e sz v ds.length C∧Rec sz (fun c d=>P c d h n) C ds∧C.all nu=true
section
variable {D:Type}{sz:Nat}{P:List Value→D→HF→Nat→Prop}{lo n n':Nat}{h h':HF}{e:TypeId}{v:Value}{ds:List D}
theorem GR.nil:GR sz P lo h n e (.slice none 0 0) ([]:List D):=⟨[],.nil,.nil,rfl⟩
theorem GR.as {ds':List D}(g:GR sz P lo h n e v ds)(e':ds=ds'):GR sz P lo h n e v ds':=e'▸g
theorem GR.go (g:GR sz P lo h n e v ds)(kp:KP sz P)(t:Tr n h n' h')(hk:∀b,BkOf v b→h' b=h b):GR sz P lo h' n' e v ds:=by
 obtain ⟨C,g1,g2,g3⟩:=g;refine ⟨C,?_,g2.mono fun _ _ r=>kp.t r t,g3⟩;generalize ds.length=L at g1;cases g1 with
 |nil=>exact .nil
 |at_ hg hlo hb hr hl ho=>exact .at_ hg hlo (by have:=t.1;omega) ((hk _ ⟨_,_,_,rfl⟩).trans hr) hl ho
theorem GR.bk (g:GR sz P lo h n e v ds):∀b,BkOf v b→3*lo≤b∧b<3*n∧gro b=true∧Nur (h b):=by
 obtain ⟨C,g1,g2,g3⟩:=g;generalize ds.length=L at g1;rintro b ⟨o,l,c,rfl⟩;cases g1 with
 |at_ hg hlo hb hr hl ho=>exact ⟨hlo,hb,hg,.row hr g3⟩
theorem GR.shape (g:GR sz P lo h n e v ds)(hL:ds.length=L):∃a,v=.slice a L L:=by
 obtain ⟨C,g1,g2,g3⟩:=g;subst hL;obtain ⟨a,e,_⟩:=g1.shape;exact ⟨a,e⟩
theorem GR.or (g:GR sz P lo h n e v ds)(hL:ds.length=L)(h0:L≠0):∃b,v=.slice (some ⟨b,0,none⟩) L L∧gro b=true∧3*lo≤b∧OR sz P h n b ds∧Ty1 h b e:=by
 obtain ⟨C,g1,g2,g3⟩:=g;rw [hL] at g1;cases g1 with
 |nil=>exact absurd rfl h0
 |at_ hg hlo hb hr hl ho=>exact ⟨_,rfl,hg,hlo,⟨hb,_,_,hr,g3,g2⟩,_,hr⟩
theorem OR.gr (o:OR sz P h n b ds)(kp:KP sz P)(ht:Ty1 h b e)(hg:gro b=true)(hlo:3*lo≤b)(hL:ds.length=L):GR sz P lo h n e (.slice (some ⟨b,0,none⟩) L L) ds:=by
 obtain ⟨hb,C,e2,h1,h2,h3⟩:=o;obtain ⟨C2,h4⟩:=ht;rw [h4] at h1;cases h1;subst hL;have hon:ones C=true:=by
  clear h4 h2;induction h3 with
  |nil=>rfl
  |cons hl hp hr ih=>exact xZ (kp.c hp).2.2 ih
 exact ⟨_,.at_ hg hlo hb h4 h3.len hon,h3,h2⟩
end
theorem zgd {m lo i:Nat}{r:List (Nat×Nat)}(hb:b<3*lo)(hW:∀b∈W,3*lo≤b)(k:zV m W r=true):zV m W ((i,b)::r)=true:=by
 have hm:memN b W=false:=by
  clear k;induction W with
  |nil=>rfl
  |cons c W ih=>
   have hc:=hW c (List.mem_cons_self ..);unfold memN;cases he:Nat.beq b c with
   |true=>have:=Nat.eq_of_beq_eq_true he;omega
   |false=>exact ih fun b hb=>hW b (List.mem_cons_of_mem _ hb)
 unfold zV;rw [hm,Bool.not_false,Bool.or_true];exact k
theorem zk1 {m i:Nat}{r:List (Nat×Nat)}(hm:m.testBit i=true)(k:zV m W r=true):zV m W ((i,b)::r)=true:=by
 unfold zV;rw [hm,Bool.true_or];exact k
section
variable {X:CtxF}{ops r:List Oper}{ms:List Nat}{i m:Nat}{t:TF}{h:HF}{n:Nat}{w:List Nat}{al ld:List (Nat×Nat)}{ef:List (Nat×HF×List Nat)}{Q:SV→Prop}{o:Oper}{d:Tmp}
theorem dGA {D:Type}{sz:Nat}{P:List Value→D→HF→Nat→Prop}{e:TypeId}{s:Operand}{lo:Nat}{ds:List D}{q:D}{v:Value}(c:List Value)(g:GR sz P lo h n e v ds)(kp:KP sz P)(p:P c q h n)(hx:argS h sz (evF t x) 1 c)(hlen:ds.length<1000000)(hlo:lo≤n)(hld:∀W:List Nat,(∀b∈W,3*lo≤b)→zV m W ld=true)
  (k:∀v' h' W,(∀b∈W,3*lo≤b)→GR sz P lo h' (n+1) e v' (ds++[q])→Tr n h (n+1) h'→Exa lo h h'→(∀b,b<3*n→¬BkOf v b→h' b=h b)→(∀b,BkOf v' b→3*n≤b)→ED X ops r ms (i+1) ⟨⟨upd t d v',h',n+1,addW n0 W w⟩,al,ld,(i,h,W)::ef⟩ Q)
  (hw:zh ops t o=true:=by exact rfl)(hd:o.dst=some d:=by exact rfl)(hn:zm X.nt (some d)=true:=by exact rfl)(ho:o.op=.call {callee:=.builtin .append,args:=#[s,x],argTypes:=#[sT,xT]}:=by exact rfl)(hv:evF t s=v:=by exact rfl)(hxT:(match X.E.und xT with|some (.int _)=>false|none=>false|_=>true)=true:=by exact rfl)(hu:X.E.und sT=some (.slice e):=by exact rfl)(hi:X.E.inf e=some (sz,bytes,z):=by exact rfl)(hz:(zr z).length=sz:=by exact rfl)(h1:1≤sz∧1≤bytes∧bytes≤1000:=by decide)(g1:yN m ef=true:=by exact rfl)(g2:xI m al=true:=by exact rfl)(hX:X.n0=n0:=by exact rfl):ED X ops (o::r) (m::ms) i ⟨⟨t,h,n,w⟩,al,ld,ef⟩ Q:=by
 have hg:=g;obtain ⟨C,gr,rc,nu⟩:=g;subst hv;obtain ⟨c1,c2,c3⟩:=kp.c p;have hb:(ds.length+1)*bytes≤1099511627776:=Nat.le_trans (Nat.mul_le_mul (show ds.length+1≤1000000 by omega) h1.2.2) zd;obtain ⟨v',h',W,h2,h3,h4,h6,h5,h7⟩:=wt hu hi hz ⟨h1.1,h1.2.1⟩ gr hx (Nat.le_refl _) hb (by rw [Nat.one_mul];exact c1) c3 hlo;refine oM hw hd hn ho hxT h2 g1 g2 (hld W h5) zs ?_;rw [hX];have hk:∀b,b<3*n→¬BkOf (evF t s) b→h' b=h b:=fun b hb hn=>h6 b hb fun o l c e=>hn ⟨o,l,c,e⟩;have hT:Tr n h (n+1) h':=⟨Nat.le_succ _,fun b hb=>by
  by_cases hB:BkOf (evF t s) b
  ·exact .inr (hg.bk b hB).2.2.2
  ·exact .inl (hk b hb hB)⟩
 refine k v' h' W h5 ⟨C++c,by rw [List.length_append];exact h3,(rc.mono fun _ _ r=>kp.t r hT).snoc c1 (kp.t p hT),by rw [List.all_append,nu,c2];rfl⟩ hT ⟨h4⟩ hk fun b ⟨o,l,cc,e⟩=>?_;subst e;exact h7
theorem sSn {a:Operand}{sz:Nat}{e:TypeId}(c':List Value)(k:∀h',h' b=some (.row c' e)→Sto b h h'→EO X ops r ⟨t,h',n,w⟩ Q)(hw:zh ops t o=true:=by exact rfl)(hd:o.dst=none:=by exact rfl)(ho:o.op=.store ty a x:=by exact rfl)(hi:X.E.inf ty=some (sz,bt,z):=by exact rfl)(ha:evF t a=.pointer (some ⟨b,off,none⟩):=by exact rfl)(hb:h b=some (.row c e):=by exact zp)(hu:c.all nu=true:=by exact rfl)(hx:zr (evF t x)=cs:=by exact rfl)(hs:cs.length=sz:=by exact rfl)(h1:ones cs=true:=by exact rfl)(hl:off+sz≤c.length:=by exact zb)(hsp:zn c off cs=c':=by exact rfl)(hX:X.n0=n0:=by exact rfl)(hnew:3*n0≤b:=by omega):EO X ops (o::r) ⟨t,h,n,w⟩ Q:=
 sSx c' hb (fun h' p q=>by rw [xv hnew];exact k h' p q) hw hd ho hi ha hu hx hs h1 hl hsp hX
theorem dMs {e:TypeId}(cs:List Value){c:Nat}(k:∀h',h' (3*n+2)=some (.row cs e)→Ext n h h'→ED X ops r ms (i+1) ⟨⟨upd t d (.slice (some ⟨3*n+2,0,none⟩) l c),h',n+1,w⟩,(i,3*n+2)::al,ld,ef⟩ Q)(hw:zh ops t o=true:=by exact rfl)(hd:o.dst=some d:=by exact rfl)(hn:zm X.nt (some d)=true:=by exact rfl)(hc:cls o.op=2:=by exact rfl)(hm:mkE X.E o.op (evF t)=some ⟨cs,e,false,some (l,c)⟩:=by exact rfl):ED X ops (o::r) (m::ms) i ⟨⟨t,h,n,w⟩,al,ld,ef⟩ Q:=
 zb2 ⟨hw,hd,hn,hc,hm⟩ (k _ (ze _ _ _) (Ext.upd (show 3*n≤3*n+2 by omega)))
end
theorem qA {l w:List Nat}{p:Nat→Prop}(h1:∀c∈l,p c)(h2:∀c∈w,p c):∀c∈addW n0 l w,p c:=fun c hc=>by
 rcases xS _ _ c hc with ⟨h,_⟩|h
 ·exact h1 c h
 exact h2 c h
theorem qO (h:gro b=true):b≠3*k+2:=fun e=>by rw [e,yz] at h;cases h
theorem RS.sub {D:Type}{sz:Nat}{P:List Value→D→HF→Nat→Prop}(hsz:0<sz){h:HF}{n:Nat}{l:List D}(q:RS sz P h n (.slice (some ⟨b,off,none⟩) len cap) l){m c cap':Nat}(hm:m+c≤len)(hc:c≤cap'):RS sz P h n (.slice (some ⟨b,off+m*sz,none⟩) c cap') ((l.drop m).take c):=by
 have hlen:=q.len' hsz;obtain ⟨cells,s,r⟩:=q;by_cases h0:len=0
 ·have hc0:c=0:=zo;have hb:=s.below;subst hc0;rw [List.take_zero];exact ⟨[],.nil (.inr ⟨_,_,_,rfl,hb⟩),.nil⟩
 obtain ⟨_,_,x,cs,e,hb,hx,hcs,hcap,hle,he⟩:=s.inv h0;injection e with e
 injection e with e1 e2
 subst e1 e2;have hmc:=Nat.mul_le_mul_right sz hm;rw [Nat.add_mul] at hmc;refine ⟨(cells.drop (m*sz)).take (c*sz),.at_ hb hx hcs hc zo (uF he zo),?_⟩;have hd:∀{m:Nat} {cells:List Value} {l:List D},Rec sz (fun c d=>P c d h n) cells l→Rec sz (fun c d=>P c d h n) (cells.drop (m*sz)) (l.drop m):=by
  intro m;induction m with
  |zero=>intro cells l r;rw [Nat.zero_mul];exact r
  |succ m ih=>
   intro cells l r;cases r with
   |nil=>rw [List.drop_nil,List.drop_nil];exact .nil
   | @cons c1 cs1 d1 ds1 hl hp hr=>
    rw [List.drop_succ_cons,Nat.succ_mul,Nat.add_comm (m*sz) sz,←List.drop_drop,List.drop_left' hl];exact ih hr
 have ht:∀{c:Nat} {cells:List Value} {l:List D},Rec sz (fun c d=>P c d h n) cells l→Rec sz (fun c d=>P c d h n) (cells.take (c*sz)) (l.take c):=by
  intro c;induction c with
  |zero=>intro cells l r;rw [Nat.zero_mul,List.take_zero,List.take_zero];exact .nil
  |succ c ih=>
   intro cells l r;cases r with
   |nil=>rw [List.take_nil,List.take_nil];exact .nil
   | @cons c1 cs1 d1 ds1 hl hp hr=>
    rw [List.take_succ_cons,Nat.succ_mul,Nat.add_comm (c*sz) sz,List.take_append,List.take_of_length_le zo,hl,Nat.add_sub_cancel_left];exact .cons hl hp (ih hr)
 exact ht (hd r)
theorem QS.sub {h:HF}{n:Nat}{l:List Rat}(q:QS h n (.slice (some ⟨b,off,none⟩) len cap) l){m c cap':Nat}(hm:m+c≤len)(hc:c≤cap'):QS h n (.slice (some ⟨b,off+m*4,none⟩) c cap') ((l.drop m).take c):=RS.sub zd q hm hc
theorem mH {i:Nat}{a:Nat→Nat→Rat}(hi:i<N):((tabL N a).drop (i*N)).take N=rowQ N a i:=by
 refine List.ext_getElem? fun j=>?_;unfold rowQ;rw [List.getElem?_take,List.getElem?_drop,List.getElem?_map];by_cases hj:j<N
 ·rw [if_pos hj,wo hi hj,List.getElem?_range hj];rfl
 rw [if_neg hj,List.getElem?_eq_none (by rw [List.length_range];omega)];rfl
theorem zlt (k:Nat)(h:HF)(n:Nat){v:Value}{c:Nat}(hv:∃a l k,v=.slice a l k)(hc:0<c∧c<1000000):CX (cal (k+1)) 226 [v,.int .i64 (c:Int)] h n fun u h' n'=>u=.func (.func 242) #[] #[.pointer (some ⟨3*n+2,0,none⟩),.pointer (some ⟨3*(n+1)+2,0,none⟩)]∧n'=n+2∧(∃e,h' (3*n+2)=some (.row [v] e))∧∃e,h' (3*(n+1)+2)=some (.row [.int .i64 (c:Int)] e):=by
 obtain ⟨a,l,c',rfl⟩:=hv;refine zk (fn:=Tryz.f226) R4 ?_;refine zG ?_;refine sB [.slice a l c'] ?_;intro h1 p1 x1;refine sB [.int .i64 (c:Int)] ?_;intro h2 p2 x2;refine zA (v:=.nilFunc) R5 ?_;refine zG ?_;refine zA (v:=.func (.func 242) #[] #[.pointer (some ⟨3*n+2,0,none⟩),.pointer (some ⟨3*(n+1)+2,0,none⟩)]) ⟨rfl,rfl,rfl,rfl,?_⟩ ?_
 ·show some (Value.func (.func _) (Array.map (evF _) #[]) (Array.map (evF _) #[.tmp 2,.tmp 3]))=_;simp only [List.map_toArray,List.map_cons,List.map_nil];rfl
 refine zA (v:=.func (.func 242) #[] #[.pointer (some ⟨3*n+2,0,none⟩),.pointer (some ⟨3*(n+1)+2,0,none⟩)]) R5 ?_;refine zq ?_;exact ⟨rfl,rfl,⟨_,zp⟩,⟨_,zp⟩⟩
end
section
variable {X:CtxF}{assign body:Code}{h:HF}{d k l n nt:Nat}{w:List Nat}{args:List Value}
theorem jL {g:Operand}{gf:FuncId}{first cap:Array Value}{ps:Array Tmp}{t:TF}{Q:Ex→SV→Prop}(hr:X.round=none)(hg:evF t g=.func (.func gf) first cap)
  (hc:∀hB,hB (3*n+2)=some .dfr→hB (3*(n+1)+2)=some (.loop true none t X.nt ps.toList assign body (3*n+2))→Ext n h hB→CF X.C gf (first.toList++([.func (.yield (3*(n+1)+2)) #[] #[]]++cap.toList)) hB (n+2)
   fun _ h' n' w'=>h' (3*(n+1)+2)=hB (3*(n+1)+2)∧h' (3*n+2)=hB (3*n+2)∧∀h2,(∀c,c≠3*(n+1)+2→c≠3*n+2→h2 c=h' c)→Q .normal ⟨t,h2,n',addW X.n0 w' w⟩):EC X (.rangeFunc g ps assign body) ⟨t,h,n,w⟩ Q:=by
 refine zfx hr hg (yh (hc _ ((zj zo).trans (ze _ _ _)) (ze _ _ _) (fun c hc=>by rw [zj zo,zj zo])) ?_);rintro v h' n' w' ⟨h1,h2,h3⟩;exact ⟨⟨_,_,_,_,_,_,h1.trans (ze _ _ _)⟩,h2.trans ((zj zo).trans (ze _ _ _)),h3 _ fun c hc hd=>by rw [zj hd,zj hc]⟩
theorem jK {τ τ1:TF}{ps:List Tmp}{P:HF→Nat→List Nat→Prop}(hl:h l=some (.loop true none τ nt ps assign body d))(hb:Nat.beq args.length ps.length=true)(hs:qI nt ps args τ=some τ1)
  (hx:EC (ctxR k n nt l) assign ⟨τ1,h,n,[]⟩ fun e s=>e=.normal∧s.h l=h l∧∀h1,Lpo l s.h h1→EC (ctxR k n nt l) body ⟨s.t,h1,s.n,l::s.w⟩ fun e2 s2=>e2=.normal∧s2.h l=h1 l∧∀h2,h2 l=h l→Lpo l s2.h h2→P h2 s2.n (l::s2.w)):YF (cal (k+1)) l args h n P:=by
 refine zft hl hb hs (uV hx ?_);rintro e s ⟨rfl,h1,h2⟩;refine ⟨rfl,h1.trans hl,uV (h2 _ ⟨fun c hc=>zj hc,_,h1.trans hl,rfl⟩) ?_⟩;rintro e s2 ⟨rfl,h3,h4⟩;exact ⟨rfl,h3.trans (ze _ _ _),h4 _ ((ze _ _ _).trans hl.symm) ⟨fun c hc=>zj hc,_,h3.trans (ze _ _ _),rfl⟩⟩
def zsN (N:Nat)(a:Nat→Nat→Rat)(s:Nat):List Int:=(List.range (s*N)).map fun m=>tT N a (m/N) (m%N)
def preL (N:Nat)(a:Nat→Nat→Rat)(s j:Nat):List Int:=zsN N a s++(List.range j).map (nfi N a s)
def midL (N:Nat)(a:Nat→Nat→Rat)(s k:Nat):List Int:=zsN N a s++(List.range N).map fun j=>if j<k then tT N a s j else nfi N a s j
section
variable {N:Nat}{a:Nat→Nat→Rat}{s j:Nat}
theorem wu:(zsN N a s).length=s*N:=by unfold zsN;rw [List.length_map,List.length_range]
theorem pn:(preL N a s j).length=s*N+j:=by unfold preL;rw [List.length_append,wu,List.length_map,List.length_range]
theorem fA:(midL N a s j).length=s*N+N:=by unfold midL;rw [List.length_append,wu,List.length_map,List.length_range]
theorem aR:preL N a s 0=zsN N a s:=by unfold preL;rw [List.range_zero,List.map_nil,List.append_nil]
theorem aZ:preL N a s j++[nfi N a s j]=preL N a s (j+1):=by unfold preL;rw [List.range_succ,List.map_append,List.append_assoc];rfl
theorem zd3:preL N a s N=midL N a s 0:=by
 unfold preL midL;congr 1
theorem zec (hj:j<N):(midL N a s j)[s*N+j]?=some (nfi N a s j):=by
 unfold midL;rw [List.getElem?_append_right (by rw [wu];omega),wu,Nat.add_sub_cancel_left,List.getElem?_map,List.getElem?_range hj];show some (if j<j then _ else _)=_;rw [if_neg (Nat.lt_irrefl _)]
theorem zeb (hj:j<N):(midL N a s j).set (s*N+j) (tT N a s j)=midL N a s (j+1):=by
 unfold midL;rw [List.set_append_right _ _ (by rw [wu];omega),wu,Nat.add_sub_cancel_left];congr 1;refine List.ext_getElem? fun m=>?_;rw [List.getElem?_set,List.length_map,List.length_range,List.getElem?_map,List.getElem?_map];by_cases hm:m<N
 ·rw [List.getElem?_range hm];by_cases e:j=m
  ·subst e;rw [if_pos rfl,if_pos hj];show _=some (if _ then _ else _);rw [if_pos (Nat.lt_succ_self _)]
  rw [if_neg e];show some (if _ then _ else _)=some (if _ then _ else _);by_cases h2:m<j
  ·rw [if_pos h2,if_pos zo]
  rw [if_neg h2,if_neg zo]
 rw [List.getElem?_eq_none (l:=List.range N) (by rw [List.length_range];omega),if_neg zo];rfl
theorem zed:midL N a s N=zsN N a (s+1):=by
 unfold midL;refine List.ext_getElem? fun m=>?_;by_cases h1:m<s*N
 ·rw [List.getElem?_append_left (by rw [wu];exact h1)];unfold zsN;rw [List.getElem?_map,List.getElem?_map,List.getElem?_range h1,List.getElem?_range (by rw [Nat.add_mul];omega)]
 rw [List.getElem?_append_right (by rw [wu];omega),wu,List.getElem?_map];unfold zsN;rw [List.getElem?_map];by_cases h2:m<s*N+N
 ·obtain ⟨j,rfl⟩:∃j,m=s*N+j:=⟨m-s*N,zo⟩;have hj:j<N:=zo;rw [Nat.add_sub_cancel_left,List.getElem?_range hj,List.getElem?_range (by rw [Nat.add_mul,Nat.one_mul];omega)];show some (if _ then _ else _)=some (tT N a ((s*N+j)/N) ((s*N+j)%N));rw [if_pos hj,(lQ hj).1,(lQ hj).2]
 rw [List.getElem?_eq_none (by rw [List.length_range];omega),List.getElem?_eq_none (by rw [List.length_range,Nat.add_mul,Nat.one_mul];omega)];rfl
end
end
section
variable {b cap k n nt off:Nat}{h:HF}
theorem mw:(ctx k n nt).n0=n:=rfl
def NT (N:Nat)(a:Nat→Nat→Rat)(lo bt l:Nat)(B:Option BF)(s:Nat)(h:HF)(n:Nat):Prop:=h l=B∧∃vE vS ty,h bt=some (.row [.int .i64 (N:Int),vE,vS] ty)∧GR 2 intP lo h n 137 vE (zsN N a s)∧GR 4 ratP lo h n 139 vS ((List.range s).map (tS N a))∧∀b,BkOf vE b→¬BkOf vS b
section
variable {N:Nat}{a:Nat→Nat→Rat}{D B m:Nat}
theorem iP (k:Nat)(g:GG h n)(hq:QS h n (.slice (some ⟨b,off,none⟩) (N*N) cap) (tabL N a))(hgb:gro b=false)(hcap:N*N≤cap)(hN:1≤N∧N≤3)(hD:0<D)(hDb:D<BW)(hd:∀i j,i<N→j<N→(a i j).den∣D)(hB:∀i j,i<N→j<N→FN D B (a i j))(hB1:1≤B)(hBb:B<BW)(hz:∀i j,i<N→j<N→Sz m (a i j))(hm:m≤64):
  CX (cal (k+13)) 202 [.slice (some ⟨b,off,none⟩) (N*N) cap,.int .i64 (N:Int)] h n fun v h' n'=>∃bt be bs,v=.pointer (some ⟨bt,0,none⟩)∧(∃ty,h' bt=some (.row [.int .i64 (N:Int),.slice (some ⟨be,0,none⟩) (N*N) (N*N),.slice (some ⟨bs,0,none⟩) N N] ty))∧OZ h' n' be (tabL N (tT N a))∧OR 4 ratP h' n' bs ((List.range N).map (tS N a))∧bt<3*n'∧be≠bs∧be≠bt∧bs≠bt∧3*n≤bt∧3*n≤be:=by
 have h9:=sq9 hN.2;have hbn:b<3*n:=by
  obtain ⟨cells,s,_⟩:=hq;exact s.below
 refine zk (fn:=Tryz.f202) R4 ?_;refine zG ?_;refine sT #[.int .i64 (N:Int),.slice none 0 0,.slice none 0 0] ?_;refine sB [.int .i64 (N:Int),.slice none 0 0,.slice none 0 0] ?_;intro h1 p1 x1;refine sA ?_;intro h2 p2 x2;refine sS [.pointer (some ⟨3*n+2,0,none⟩)] ?_;intro h3 p3 o3;refine zG ?_;refine sC (zlt _ _ _ (c:=N) ⟨_,_,_,rfl⟩ ⟨zo,zo⟩) ?_;rintro _ h4 n4 ⟨rfl,rfl,⟨e1,q1⟩,e2,q2⟩ y4 x4;refine zG ?_;refine jL rfl rfl ?_;intro hB0 bd0 bl0 xB;have q3:=(xB (3*n+2) zo).trans ((x4 (3*n+2) zo).trans ((o3.1 (3*n+2) zo).trans ((x2 (3*n+2) zo).trans p1)));have q5:=(xB (3*(n+1)+2) zo).trans ((x4 (3*(n+1)+2) zo).trans p3);have xh:Ext n h hB0:=(zx:Tx n h (n+1+1+2) hB0).2;obtain ⟨lo,hlo⟩:∃lo,lo=n+1+1+2+2:=⟨_,rfl⟩;obtain ⟨l,hl⟩:∃l,l=3*(n+1+1+2+1)+2:=⟨_,rfl⟩;rw [←hl] at bl0;rw [←hlo,←hl];have hW:∀c,c<3*lo→c≠3*n+2→c≠l→¬(c=3*n+2∨c=l∨3*lo≤c):=fun c h1 h2 h3 h=>by omega
 refine yh (zck (k+11) (I:=NT N a lo (3*n+2) l (hB0 l)) (W:=fun c=>c=3*n+2∨c=l∨3*lo≤c) (K:=N) (c:=N) zo ((xB _ zo).trans q1) ((xB _ zo).trans q2) ⟨zo,hW _ zo zo zo⟩ ⟨zo,hW _ zo zo zo⟩ zo hcap zo hgb ⟨rfl,_,_,_,q3,GR.nil.as (by unfold zsN;rw [Nat.zero_mul];rfl),GR.nil,fun b ⟨_,_,_,h⟩=>by cases h⟩ ?_) ?_
 ·intro s hr nr hs hnr hfr ⟨hlr,vE,vS,tyT,qT,gE,gS,dj⟩;refine jK (hlr.trans bl0) rfl rfl ?_;refine zG ?_;refine ⟨trivial,trivial,fun hM L1=>?_⟩;have xr:Ext n h hM:=fun c hc=>(L1.1 c zo).trans ((hfr c zo (hW c zo zo zo)).trans (xh c hc));have qT1:=(L1.1 (3*n+2) zo).trans qT;have q51:=(L1.1 (3*(n+1)+2) zo).trans ((hfr _ zo (hW _ zo zo zo)).trans q5);have TL1:Tr nr hr nr hM:=Tr.l L1 (Tr.refl _ _);have gE1:=gE.go intP.kp TL1 (fun b hb=>L1.1 b (by have:=(gE.bk b hb).1;omega));have gS1:=gS.go ratP.kp TL1 (fun b hb=>L1.1 b (by have:=(gS.bk b hb).1;omega));obtain ⟨aE,rfl⟩:=gE1.shape wu;obtain ⟨aS,rfl⟩:=gS1.shape (L:=s) (by rw [List.length_map,List.length_range]);have hrow:=nW hs;have rowq:QS h n (.slice (some ⟨b,off+s*N*4,none⟩) N N) (rowQ N a s):=(mH hs)▸hq.sub hrow (Nat.le_refl N);have hrl:(rowQ N a s).length=N:=by unfold rowQ;rw [List.length_map,List.length_range]
  have hnfB:∀j,j<N→(nfi N a s j).natAbs<BW:=fun j hj=>Nat.lt_of_le_of_lt (lh (hd s · hs) hD (hB s · hs) hj) hBb;have hgcB:∀j,j≤N→((gcF (nfi N a s) j:Nat):Int).natAbs<BW:=fun j hj=>by
   rw [Int.natAbs_natCast];exact Nat.lt_of_le_of_lt (zgo fun i hi=>lh (hd s · hs) hD (hB s · hs) (show i<N by omega)) hBb
  have hcc:(cci N a s:Int).natAbs<BW:=by
   rw [Int.natAbs_natCast];exact Nat.lt_of_le_of_lt (zg3 (hd s · hs) hD (hB s · hs) hB1) hBb
  have hcc0:(cci N a s:Int)≠0:=by have:=oZ (f:=nfi N a s) (m:=N);unfold cci;omega
  have hde:((deni N a s:Nat):Int).natAbs<BW:=by
   rw [Int.natAbs_natCast];exact Nat.lt_of_le_of_lt (zb8 (hd s · hs) hD) hDb
  refine zG ?_;refine sC (zjh _ (g.x zx) (rowq.x zx) hD hDb (fun q hq'=>by
   obtain ⟨j,hj,rfl⟩:=List.mem_map.1 hq';exact hd s j hs (List.mem_range.1 hj)) zo) ?_
  rintro _ h5 n5 ⟨b5,a5,l5,c5,rfl,i5⟩ y5 x5;have i5:IW h5 n5 b5 a5 l5 c5 ((deni N a s:Nat):Int):=i5;refine sA ?_;intro h6 p6 x6;refine sSn (n0:=nr) [.bool b5,.slice a5 l5 c5] ?_;intro h7 p7 o7;refine zG ?_;refine sA ?_;intro h8 p8 x8;refine zG ?_;have gE8:=gE1.go intP.kp (zt:Tr nr hM (n5+1+1) h8) (fun b hb=>by
   have h1:=gE1.bk b hb;have e0:hM b=hM b:=rfl;exact zp)
  have gS8:=gS1.go ratP.kp (zt:Tr nr hM (n5+1+1) h8) (fun b hb=>by
   have h1:=gS1.bk b hb;have e0:hM b=hM b:=rfl;exact zp)
  refine sF (α:=Nat×Value×Bool×Option Addr×Nat×Nat) (fun z=>[(5,.pointer (some ⟨3*(n+1)+2,0,none⟩)),(6,.slice (some ⟨b,off+s*N*4,none⟩) N N),(7,.pointer (some ⟨3*n5+2,0,none⟩)),(8,.int .i64 ((s*N:Nat):Int)),(9,.pointer (some ⟨3*(n5+1)+2,0,none⟩)),(29,.slice (some ⟨b,off+s*N*4,none⟩) N N),(30,.int .i64 (N:Int)),(31,.int .i64 (z.1:Int))])
   (fun z h' n' w'=>n5+1+1≤n'∧ExtB lo [3*n+2] hM h'∧Tr (n5+1+1) h8 n' h'∧h' (3*n+2)=some (.row [.int .i64 (N:Int),z.2.1,.slice aS s s] tyT)∧h' (3*n5+2)=some (.row [.bool b5,.slice a5 l5 c5] 137)∧h' (3*(n5+1)+2)=some (.row [.bool z.2.2.1,.slice z.2.2.2.1 z.2.2.2.2.1 z.2.2.2.2.2] 137)∧GR 2 intP lo h' n' 137 z.2.1 (preL N a s z.1)∧GR 4 ratP lo h' n' 139 (.slice aS s s) ((List.range s).map (tS N a))∧IW h' n' z.2.2.1 z.2.2.2.1 z.2.2.2.2.1 z.2.2.2.2.2 ((gcF (nfi N a s) z.1:Nat):Int)∧(∀b,BkOf z.2.1 b→¬BkOf (.slice aS s s) b)∧z.1≤N∧(∀c∈w',c=3*n+2∨c=l∨3*lo≤c)∧l∈w')
   (fun z=>N-z.1) (0,.slice aE (s*N) (s*N),false,none,0,0) ⟨Nat.le_refl _,fun c hc hn=>(zy:ExtB nr [3*n+2] hM h8) c zo hn,Tr.refl _ _,zp,zp,p8,gE8.as aR.symm,gS8,IW.zero _ _,dj,Nat.zero_le _,fun c hc=>.inr (.inl (List.mem_singleton.1 hc)),List.mem_singleton.2 rfl⟩ ?_
  rintro ⟨j,v,bC,aC,lC,kC⟩ t h9 n9 w9 ⟨y9,Y9,T9,q9,c79,c99,gV,gT,iC,dj9,hj,hw9,hl9⟩;have y9:n5+1+1≤n9:=y9;have T9:Tr (n5+1+1) h8 n9 h9:=T9;have q9:h9 (3*n+2)=some (.row [.int .i64 (N:Int),v,.slice aS s s] tyT):=q9;have c99:h9 (3*(n5+1)+2)=some (.row [.bool bC,.slice aC lC kC] 137):=c99;have gV:GR 2 intP lo h9 n9 137 v (preL N a s j):=gV;have iC:IW h9 n9 bC aC lC kC ((gcF (nfi N a s) j:Nat):Int):=iC;have hj:j≤N:=hj;have dj9:∀b,BkOf v b→¬BkOf (.slice aS s s) b:=dj9;have hw9:∀c∈w9,c=3*n+2∨c=l∨3*lo≤c:=hw9;have hl9:l∈w9:=hl9;have i9:IW h9 n9 b5 a5 l5 c5 ((deni N a s:Nat):Int):=(i5.x zx:IW h8 (n5+1+1) b5 a5 l5 c5 _).t T9;obtain ⟨aV,rfl⟩:=gV.shape pn;refine zG ?_;by_cases qj:(j:Int)<(N:Int)
  ·have hjN:j<N:=zo;refine zG ?_;obtain ⟨kk,o10,b10,a10,l10,c10,d10,e10,f10,g10,e,m10,r10,t10,i10,j10⟩:=QS.at rowq (q:=a s j) (j:=j) (by unfold rowQ;rw [List.getElem?_map,List.getElem?_range hjN];rfl);refine sI e r10 ?_;refine sL t10 m10 0 ?_;refine sA ?_;intro h11 p11 x11;refine sSn (n0:=nr) [.bool b10,.slice a10 l10 c10,.bool d10,.slice e10 f10 g10] ?_;intro h12 p12 o12;refine zG ?_;refine sC (zhu _ (i10.x zx) (j10.x zx) (i9.t zt) (uK (hz s j hs hjN).1 hm) (uK (hz s j hs hjN).z hm) hde) ?_;rintro _ h13 n13 ⟨b13,a13,l13,c13,rfl,i13⟩ y13 x13;have i13:IW h13 n13 b13 a13 l13 c13 (nfi N a s j):=i13;refine sA ?_;intro h14 p14 x14;refine sSn (n0:=nr) [.bool b13,.slice a13 l13 c13] ?_;intro h15 p15 o15;refine zG ?_;refine sC (gcdX _ (g.x zx) (iC.t zt) (i13.t zt) (hgcB j hj) (hnfB j hjN)) ?_;rintro _ h16 n16 ⟨b16,a16,l16,c16,rfl,i16⟩ y16 x16;refine sSn (n0:=nr) [.bool b16,.slice a16 l16 c16] ?_;intro h17 p17 o17;refine zG ?_;refine zl [0,0,2,6,14,0,32,126,255,511,1023] rfl ?_;refine zH ?_;refine dMs [.bool b13,.slice a13 l13 c13] ?_;intro h18 p18 x18;have hk9:∀c,c<3*n9→c≠3*(n5+1)+2→h18 c=h9 c:=fun c hc hn=>by
    have e0:h9 c=h9 c:=rfl;exact zp
   have T18:Tr n9 h9 (n16+1) h18:=zt;have gV18:=gV.go intP.kp T18 (fun b hb=>hk9 b (gV.bk b hb).2.1 (qO (gV.bk b hb).2.2.1));have gT18:=gT.go ratP.kp T18 (fun b hb=>hk9 b (gT.bk b hb).2.1 (qO (gT.bk b hb).2.2.1));have i18:IW h18 (n16+1) b13 a13 l13 c13 (nfi N a s j):=i13.t zt;have i19:IW h18 (n16+1) b16 a16 l16 c16 _:=i16.t zt;have c98:h18 (3*(n5+1)+2)=some (.row [.bool b16,.slice a16 l16 c16] 137):=zp;refine dGA (n0:=nr) [.bool b13,.slice a13 l13 c13] gV18 intP.kp ⟨_,_,_,_,rfl,i18⟩ (yy p18 R2) (by rw [pn];omega) zo (fun W hW=>by (repeat (first|rfl|(refine zk1 rfl ?_)|(refine zgd zo hW ?_)))) ?_;intro v' h19 W19 hW19 g19 T19 E19 K19 F19;obtain ⟨aW,rfl⟩:=g19.shape (L:=s*N+j+1) (by rw [List.length_append,pn];rfl);refine zH ?_;refine dSx (n0:=nr) [.int .i64 (N:Int),.slice aW (s*N+j+1) (s*N+j+1),.slice aS s s] ((E19.e _ zo).trans ((hk9 _ zo zo).trans q9)) ?_;intro h20 p20 o20;refine zG ?_;have nb:∀k,¬BkOf (.slice aV (s*N+j) (s*N+j)) (3*k+2):=fun k hb=>qO (gV.bk _ hb).2.2.1 rfl;have hk20:∀c,c<3*n9→c≠3*(n5+1)+2→c≠3*n+2→¬BkOf (.slice aV (s*N+j) (s*N+j)) c→h20 c=h9 c:=fun c hc h1 h2 h3=>(o20.1 c h2).trans ((K19 c zo h3).trans (hk9 c hc h1));have T20:Tr (n16+1) h18 (n16+1+1) h20:=T19.trans (Tr.s o20 (Tr.refl _ _));exact sK (j+1,.slice aW (s*N+j+1) (s*N+j+1),b16,a16,l16,c16) ⟨zo,fun c hc hn=>(by
    have hn:c≠3*n+2:=fun e=>hn (List.mem_singleton.2 e);exact (hk20 c zo zo hn (fun hb=>by have:=(gV.bk c hb).1;omega)).trans (Y9 c hc (fun e=>hn (List.mem_singleton.1 e)))),T9.trans (T18.trans T20),p20,(hk20 _ zo zo zo (nb _)).trans c79,(o20.1 _ zo).trans ((K19 _ zo (nb _)).trans c98),(g19.go intP.kp (Tr.s o20 (Tr.refl _ _)) (fun b hb=>o20.1 b (by have:=F19 b hb;omega))).as aZ,gT18.go ratP.kp T20 (fun b hb=>(o20.1 b (by have:=(gT18.bk b hb).1;omega)).trans (K19 b (gT18.bk b hb).2.1 (fun hv=>dj9 b hv hb))),(i19.t T20).as (by show _=((Nat.gcd _ _:Nat):Int);rw [Int.natAbs_natCast]),fun b hb hs=>(by have:=F19 b hb;have:=(gT.bk b hs).2.1;omega),(by show j+1≤N;omega),qA (fun c hc=>.inl (List.mem_singleton.1 hc)) (qA (fun c hc=>.inr (.inr (hW19 c hc))) hw9),uS _ _ _ (uS _ _ _ hl9)⟩
  have hjN:N=j:=zo;subst hjN;refine zG ?_;refine sC (xH _ iC) ?_;rintro _ h11 n11 ⟨b11,rfl,bq11⟩ y11 x11;refine zG ?_;refine nl [(5,.pointer (some ⟨3*(n+1)+2,0,none⟩)),(7,.pointer (some ⟨3*n5+2,0,none⟩)),(8,.int .i64 ((s*N:Nat):Int)),(9,.pointer (some ⟨3*(n5+1)+2,0,none⟩))] (fun h' n' w'=>n11≤n'∧Tr n11 h11 n' h'∧(∀c,c<3*n11→c≠3*(n5+1)+2→h' c=h11 c)∧(∃b a' l c,h' (3*(n5+1)+2)=some (.row [.bool b,.slice a' l c] 137)∧IW h' n' b a' l c (cci N a s:Int))∧w'=w9) ?_ ?_
  ·rcases bvs bq11 with ⟨rfl,q11⟩|⟨rfl,q11⟩
   ·refine zG ?_;exact wL ⟨rfl,rfl,rfl,rfl,trivial⟩ ⟨Nat.le_refl _,Tr.refl _ _,fun _ _ _=>rfl,⟨_,_,_,_,zp,(iC.x zx).as (by unfold cci ccF;rw [if_neg (fun e=>q11 (by rw [e];rfl))])⟩,rfl⟩
   refine zG ?_;refine sC (zag _ _ _) ?_;rintro _ h12 n12 ⟨b12,a12,l12,c12,rfl,i12⟩ y12 x12;refine sSn (n0:=nr) [.bool b12,.slice a12 l12 c12] ?_;intro h13 p13 o13;refine zG ?_;exact wL ⟨rfl,rfl,rfl,rfl,trivial⟩ ⟨y12,zt,fun c hc hn=>(o13.1 c hn).trans (x12 c hc),⟨_,_,_,_,p13,(i12.t zt).as (by unfold cci ccF;rw [if_pos (Int.ofNat.inj q11)];rfl)⟩,rfl⟩
  intro t h12 n12 w12 ⟨y12,T12,hk12,⟨bC2,aC2,lC2,kC2,c92,iC2⟩,ew12⟩;subst ew12;have T92:Tr n9 h9 n12 h12:=(zt:Tr n9 h9 n11 h11).trans T12;have hk92:∀c,c<3*n9→c≠3*(n5+1)+2→h12 c=h9 c:=fun c hc hn=>(hk12 c zo hn).trans (x11 c hc);have gV12:=gV.go intP.kp T92 (fun b hb=>hk92 b (gV.bk b hb).2.1 (qO (gV.bk b hb).2.2.1));have gT12:=gT.go ratP.kp T92 (fun b hb=>hk92 b (gT.bk b hb).2.1 (qO (gT.bk b hb).2.2.1));obtain ⟨be,ebe,ge1,ge2,oE,tyE⟩:=gV12.or pn zo;injection ebe with ebe
  subst ebe;have q12:=(hk92 (3*n+2) zo zo).trans q9;have q512:=(hk92 (3*(n+1)+2) zo zo).trans ((Y9 (3*(n+1)+2) zo (fun e=>by have:=List.mem_singleton.1 e;omega)).trans q51);have c72:=(hk92 (3*n5+2) zo zo).trans c79;have i12:IW h12 n12 b5 a5 l5 c5 ((deni N a s:Nat):Int):=i9.t T92;have hbe12:be<3*n12:=oE.1;refine zG ?_;refine vp (s*N) R9 zo (Nat.le_refl _) (.inl zo) ?_;rw [if_neg (show ¬s*N+N=s*N by omega),Nat.add_sub_cancel_left];refine zG ?_;refine sF (α:=Nat) (fun z=>[(5,.pointer (some ⟨3*(n+1)+2,0,none⟩)),(7,.pointer (some ⟨3*n5+2,0,none⟩)),(8,.int .i64 ((s*N:Nat):Int)),(9,.pointer (some ⟨3*(n5+1)+2,0,none⟩)),(60,.slice (some ⟨be,0+s*N*2,none⟩) N N),(61,.int .i64 (N:Int)),(62,.int .i64 (z:Int))])
   (fun z h' n' w'=>n12≤n'∧(∀c,c<3*n12→c≠be→h' c=h12 c)∧Tr n12 h12 n' h'∧OR 2 intP h' n' be (midL N a s z)∧Ty1 h' be 137∧z≤N∧(∀c∈w',c=3*n+2∨c=l∨3*lo≤c)∧l∈w') (fun z=>N-z) 0 ⟨Nat.le_refl _,fun _ _ _=>rfl,Tr.refl _ _,oE.as zd3,tyE,Nat.zero_le _,hw9,hl9⟩ ?_
  rintro kz t h13 n13 w13 ⟨y13,k13,T13,o13,ty13,hkz,hw13,hl13⟩;have y13:n12≤n13:=y13;have hkz:kz≤N:=hkz;have k13:∀c,c<3*n12→c≠be→h13 c=h12 c:=k13;have T13:Tr n12 h12 n13 h13:=T13;have o13:OR 2 intP h13 n13 be (midL N a s kz):=o13;have c93:=(k13 (3*(n5+1)+2) zo (Ne.symm (qO ge1))).trans c92;have c73:=(k13 (3*n5+2) zo (Ne.symm (qO ge1))).trans c72;have q13:=(k13 (3*n+2) zo zo).trans q12;have q513:=(k13 (3*(n+1)+2) zo zo).trans q512;have iC3:=iC2.t T13;have i13:=i12.t T13;refine zG ?_;by_cases qk:(kz:Int)<(N:Int)
  ·have hkN:kz<N:=zo;have hb13:=o13.1;obtain ⟨cc,⟨b14,a14,l14,c14,rfl,i14⟩,_,t14⟩:=o13.get (zec hkN) (off:=0+s*N*2+kz*2) (by rw [Nat.add_mul];omega);refine zG ?_;refine sI rfl hkN ?_;refine sL t14 hb13 0 ?_;refine sA ?_;intro h15 p15 x15;refine zG ?_;refine sSn (n0:=nr) [.bool b14,.slice a14 l14 c14] ?_;intro h16 p16 o16;refine zG ?_;refine zl [0,1,3,7,0,0,48,0,0,384,1023,2047] rfl ?_;refine zH ?_;refine dC (quoX _ (i14.t zt) (iC3.t zt) (hnfB kz hkN) hcc hcc0) ?_;rintro _ h17 n17 ⟨b17,a17,l17,c17,rfl,i17⟩ y17 x17;have i17:IW h17 n17 b17 a17 l17 c17 (tT N a s kz):=i17;refine zH ?_;refine dI (j:=s*N+kz) rfl (show s*N+kz<s*N+N by omega) ?_;refine dZ (n0:=nr) (j:=s*N+kz) [.bool b17,.slice a17 l17 c17] (o13.xx intP.kp zx) intP.kp (by rw [fA];omega) (Nat.zero_add _) ⟨_,_,_,_,rfl,i17⟩ ?_;intro h18 o18 S18 ty18;refine zG ?_;exact sK (kz+1) ⟨zo,fun c hc hn=>(S18.1 c hn).trans (by
    refine Eq.trans ?_ (k13 c hc hn);have e0:h13 c=h13 c:=rfl;exact zp),T13.trans zt,o18.as (zeb hkN),ty18 _ (by
    obtain ⟨C,hC⟩:=ty13;exact ⟨C,zp⟩),(by show kz+1≤N;omega),qA (fun c hc=>.inr (.inr (by rw [List.mem_singleton.1 hc];exact ge2))) hw13,uS _ _ _ hl13⟩
  have hkN:N=kz:=zo;have gT13:=gT12.go ratP.kp T13 (fun b hb=>k13 b (gT12.bk b hb).2.1 (fun e=>dj9 b (by subst e;exact ⟨_,_,_,rfl⟩) hb));refine zG ?_;refine zl [0,0,2,6,14,0,0,96,224,510,1023,2047,4095] rfl ?_;refine zH ?_;have hk13:∀c,c<3*lo→c≠3*n+2→h13 c=hM c:=fun c hc hn=>(k13 c zo zo).trans ((hk92 c zo zo).trans (Y9 c hc (fun e=>hn (List.mem_singleton.1 e))));have g13:GG h13 n13:=g.ext (fun c hc=>(hk13 c zo zo).trans (xr c hc)) zo;refine dC (jn _ g13 (i13.t zt) (iC3.t zt) hde hcc hcc0) ?_;rintro _ h14 n14 ⟨b14,a14,l14,c14,d14,e14,f14,g14,rfl,i14,j14⟩ y14 x14;have i14:IW h14 n14 b14 a14 l14 c14 (tS N a s).num:=i14;have j14:IW h14 n14 d14 e14 f14 g14 (denZ (tS N a s)):=j14;refine zH ?_;refine dMs [.bool b14,.slice a14 l14 c14,.bool d14,.slice e14 f14 g14] ?_;intro h15 p15 x15;have h15e:∀c,c<3*n13→h15 c=h13 c:=fun c hc=>by
   have e0:h13 c=h13 c:=rfl;exact zp
  have T15:Tr n13 h13 (n14+1) h15:=zt;have i15:IW h15 (n14+1) b14 a14 l14 c14 (tS N a s).num:=i14.ext x15 zs;have j15:IW h15 (n14+1) d14 e14 f14 g14 (denZ (tS N a s)):=j14.ext x15 zs;have gT15:=gT13.go ratP.kp T15 (fun b hb=>h15e b (gT13.bk b hb).2.1);refine dGA (n0:=nr) (q:=tS N a s) [.bool b14,.slice a14 l14 c14,.bool d14,.slice e14 f14 g14] gT15 ratP.kp ⟨_,_,_,_,_,_,_,_,rfl,i15,j15⟩ (yy p15 R2) (by rw [List.length_map,List.length_range];omega) zo (fun W hW=>by (repeat (first|rfl|(refine zk1 rfl ?_)|(refine zgd zo hW ?_)))) ?_;intro v' h16 W16 hW16 g16 T16 E16 K16 F16;obtain ⟨aT,rfl⟩:=g16.shape (L:=s+1) (by rw [List.length_append,List.length_map,List.length_range];rfl);refine zH ?_;refine dSx (n0:=nr) [.int .i64 (N:Int),.slice (some ⟨be,0,none⟩) (s*N+N) (s*N+N),.slice aT (s+1) (s+1)] ((E16.e _ zo).trans ((h15e _ zo).trans q13)) ?_;intro h17 p17 o17;refine zG ?_;have nS:¬BkOf (.slice aS s s) be:=dj9 be ⟨_,_,_,rfl⟩;have hb13:=o13.1;have hk17:∀c,c<3*lo→c≠3*n+2→h17 c=hM c:=fun c hc hn=>(o17.1 c hn).trans ((E16.e c hc).trans ((h15e c zo).trans (hk13 c hc hn)));refine ⟨trivial,hk17 l zo zo,fun hZ e2 L2=>⟨⟨e2.trans hlr,_,_,_,(L2.1 _ zo).trans p17,?_,?_,?_⟩,zo,fun c hc hn=>?_,fun c hc=>?_,List.mem_cons_self ..⟩⟩
  ·have T:Tr n13 h13 (n14+1+1) hZ:=Tr.l L2 (Tr.s o17 (T15.trans T16));obtain ⟨C,hC⟩:=ty13;have eb:hZ be=h13 be:=(L2.1 be zo).trans ((o17.1 be zo).trans ((K16 be zo nS).trans (h15e be hb13)));exact ((o13.go intP.kp T eb).gr intP.kp ⟨C,eb.trans hC⟩ ge1 ge2 fA).as (by rw [←hkN,zed])
  ·exact (g16.go ratP.kp (Tr.l L2 (Tr.s o17 (Tr.refl _ _))) (fun b hb=>(L2.1 b (by have:=F16 b hb;omega)).trans (o17.1 b (by have:=F16 b hb;omega)))).as (by rw [List.range_succ,List.map_append];rfl)
  ·rintro b ⟨_,_,_,e⟩ hb;injection e with e
   injection e with e
   injection e with e _ _
   subst e;have:=F16 be hb;omega
  ·have h1:c≠l:=fun e=>hn (.inr (.inl e));have h2:c≠3*n+2:=fun e=>hn (.inl e);have h3:c<3*lo:=Nat.lt_of_not_le fun h=>hn (.inr (.inr h));exact (L2.1 c h1).trans ((hk17 c h3 h2).trans (L1.1 c h1))
  rcases List.mem_cons.1 hc with rfl|hc
  ·exact .inl (.inr (.inl rfl))
  exact .inl (qA (fun c hc=>.inl (List.mem_singleton.1 hc)) (qA (fun c hc=>.inr (.inr (hW16 c hc))) hw13) c hc)
 rintro _ h' n' w' ⟨⟨hl',vE,vS,tyT,qT,gE,gS,dj⟩,hn',hf',hw'⟩;refine ⟨hl',hf' _ zo (hW _ zo zo zo),fun h2 hh2=>?_⟩;have q52:=(hh2 (3*(n+1)+2) zo zo).trans ((hf' _ zo (hW _ zo zo zo)).trans q5);have xh2:Ext n h h2:=fun c hc=>(hh2 c zo zo).trans ((hf' c zo (hW c zo zo zo)).trans (xh c hc));have hwn:addW n w' []=[]:=yc fun c hc=>by
  rcases (hw' c hc).1 with h|h|h<;>omega
 have T2:Tr n' h' n' h2:=⟨Nat.le_refl _,fun c _=>by
  by_cases h1:c=l
  ·subst h1;exact .inr ⟨_,hl'.trans bl0,.inr rfl⟩
  ·by_cases h2:c=3*(n+1+1+2)+2
   ·subst h2;exact .inr ⟨_,(hf' _ zo (hW _ zo zo zo)).trans bd0,.inr rfl⟩
   ·exact .inl (hh2 c h1 h2)⟩
 obtain ⟨be,rfl,ge1,ge2,oE,_⟩:=gE.or wu (show N*N≠0 from Nat.mul_ne_zero zo zo);obtain ⟨bs,rfl,gs1,gs2,oS,_⟩:=gS.or (L:=N) (by rw [List.length_map,List.length_range]) zo;have hbs:be≠bs:=fun e=>dj be ⟨_,_,_,rfl⟩ ⟨_,_,_,by rw [e]⟩;rw [mw,hwn];refine zG ?_;refine zq ?_;exact ⟨_,be,bs,rfl,⟨_,(hh2 _ zo zo).trans qT⟩,oE.go intP.kp T2 (hh2 _ zo zo),oS.go ratP.kp T2 (hh2 _ zo zo),zo,hbs,zo,zo,zo,zo⟩
end
end
section
structure EL (h:HF)(n b0 bt be bs:Nat)(N st:Nat)(T:Nat→Nat→Int)(s:Nat→Rat)(bf:Int)(vL vD:Value):Prop where
 e:∃sb ab lb cb ty,h b0=some (.row [.int .i64 (N:Int),.int .i64 (st:Int),.pointer (some ⟨bt,0,none⟩),.bool sb,.slice ab lb cb,vL,vD] ty)∧IW h n sb ab lb cb bf
 t:∃ty,h bt=some (.row [.int .i64 (N:Int),.slice (some ⟨be,0,none⟩) (N*N) (N*N),.slice (some ⟨bs,0,none⟩) N N] ty)
 z:OZ h n be (tabL N T)
 s:OR 4 ratP h n bs ((List.range N).map s)
 o:bt<b0∧b0<3*n∧be≠bs∧be≠bt∧be≠b0∧bs≠bt∧bs≠b0
 u:nu vL=true∧nu vD=true
theorem EL.ext {h h':HF}{n n' b0 bt be bs N st:Nat}{T:Nat→Nat→Int}{s:Nat→Rat}{bf:Int}{vL vD:Value}(E:EL h n b0 bt be bs N st T s bf vL vD)(x:Ext n h h')(hn:n≤n'):EL h' n' b0 bt be bs N st T s bf vL vD:=by
 obtain ⟨⟨sb,ab,lb,cb,ty,e1,e2⟩,⟨ty2,t1⟩,z,s,o,u⟩:=E;exact ⟨⟨sb,ab,lb,cb,ty,(x _ o.2.1).trans e1,e2.ext x hn⟩,⟨ty2,(x _ zo).trans t1⟩,z.ext intP.kp x hn,s.ext ratP.kp x hn,zo,u⟩
theorem EL.x {h h':HF}{n n' b0 bt be bs N st:Nat}{T:Nat→Nat→Int}{s:Nat→Rat}{bf:Int}{vL vD:Value}(E:EL h n b0 bt be bs N st T s bf vL vD)(t:Tx n h n' h'):EL h' n' b0 bt be bs N st T s bf vL vD:=E.ext t.2 t.1
theorem EL.at {h:HF}{n b0 bt be bs N st i:Nat}{T:Nat→Nat→Int}{s:Nat→Rat}{bf:Int}{vL vD:Value}(E:EL h n b0 bt be bs N st T s bf vL vD)(hi:i<N):∃b a l c d e f g,At h bs (0+i*4) [.bool b,.slice a l c,.bool d,.slice e f g]∧IW h n b a l c (s i).num∧IW h n d e f g (denZ (s i)):=by
 obtain ⟨c,⟨b,a,l,k,d,e,f,g,rfl,i1,j1⟩,_,t⟩:=E.s.get (j:=i) (d:=s i) (by rw [List.getElem?_map,List.getElem?_range hi];rfl) (Nat.zero_add (i*4));exact ⟨b,a,l,k,d,e,f,g,t,i1,j1⟩
section
variable {h:HF}{n b0 bt be bs N st:Nat}{T:Nat→Nat→Int}{s:Nat→Rat}{bf:Int}{vL vD:Value}
theorem atX (k:Nat)(g:GG h n)(E:EL h n b0 bt be bs N st T s bf vL vD){i j:Nat}(hi:i<N)(hj:j<N)(hN:N≤3)(hT:(T i j).natAbs<BW)(hbb:bf.natAbs<BW)(hbf:bf≠0){a b:Nat}(s1:Sz a (Rat.divInt (T i j) bf))(s2:Sz b (s i))(hab:a+b≤64):CX (cal (k+12)) 164 [.pointer (some ⟨b0,0,none⟩),.int .i64 (i:Int),.int .i64 (j:Int)] h n (QV (Rat.divInt (T i j) bf/s i)):=by
 obtain ⟨sb,ab,lb,cb,ty,hE,ib⟩:=E.e;obtain ⟨ty2,hT2⟩:=E.t;obtain ⟨o1,o2,_⟩:=E.o;have hbe:=E.z.1;have hbs:=E.s.1;obtain ⟨b4,a4,l4,c4,t4,i4⟩:=E.z.el hi hj;obtain ⟨b5,a5,l5,c5,d5,e5,f5,g5,t5,i5,j5⟩:=E.at hi;refine zk (fn:=Tryz.f164) R4 ?_;refine zG ?_;refine sA ?_;intro h1 p1 x1;refine zG ?_;refine zl [0,1,3,7,0,31,0,127,255,0,512,1536,3584,8191,0,16384,49152,114688,245760,507904,1032192,0,4177920,8372224,16777215,33554431] rfl ?_;refine zH ?_;refine dC (rowX _ ((x1 bt zo).trans hT2) hi hN) ?_;rintro _ h2 n2 rfl y2 x2;refine zH ?_;refine dI rfl hj ?_;refine dL t4 hbe 0 ?_;refine zH ?_;refine dC (jn _ (g.x zx) (i4.x zx) (ib.x zx) hT hbb hbf) ?_;rintro _ h3 n3 ⟨b3,a3,l3,c3,d3,e3,f3,g3,rfl,i3,j3⟩ y3 x3;refine zH ?_;refine dI rfl hi ?_;refine dL t5 hbs 0 ?_;refine dC (divQ _ (g.x zx) i3 j3 (i5.x zx) (j5.x zx) s1 s2 hab) ?_;rintro _ h6 n6 ⟨b6,a6,l6,c6,d6,e6,f6,g6,rfl,i6,j6⟩ y6 x6;refine dS [.bool b6,.slice a6 l6 c6,.bool d6,.slice e6 f6 g6] ?_;intro h7 p7 o7;refine zq ?_;exact ⟨_,_,_,_,_,_,_,_,rfl,i6.t zt,j6.t zt⟩
theorem zd4 (k:Nat)(E:EL h n b0 bt be bs N st T s bf vL vD)(hst:st<N)(hN:N≤3):VF (cal (k+2)) 165 [.pointer (some ⟨b0,0,none⟩)] h n fun v=>(∃i:Nat,st<i∧i<N∧T i st≠0∧v=.tuple #[.int .i64 (i:Int),.bool true])∨((∀i,st<i→i<N→T i st=0)∧v=.tuple #[.int .i64 0,.bool false]):=by
 obtain ⟨sb,ab,lb,cb,ty,hE,ib⟩:=E.e;obtain ⟨ty2,hT2⟩:=E.t;obtain ⟨o1,o2,_⟩:=E.o;have hbe:=E.z.1;refine zw (fn:=Tryz.f165) R4 ?_;refine zG ?_;refine sF (α:=Nat) (fun z=>[(0,.pointer (some ⟨b0,0,none⟩)),(2,.int .i64 0),(3,.bool false),(4,.int .i64 (z:Int))]) (fun z h' n' w'=>w'=[]∧n≤n'∧Ext n h h'∧st+1≤z∧z≤N∧∀a,st<a→a<z→T a st=0) (fun z=>N-z) (st+1) ⟨rfl,Nat.le_refl _,Ext.refl _ _,Nat.le_refl _,hst,fun a h1 h2=>by omega⟩ ?_;rintro i t h1 n1 _ ⟨rfl,y1,x1,hi1,hi2,hz⟩;have hi2:i≤N:=hi2;have hi1:st+1≤i:=hi1;have y1:n≤n1:=y1;refine zG ?_;by_cases q:(i:Int)<(N:Int)
 ·have hi:i<N:=zo;obtain ⟨b4,a4,l4,c4,t4,i4⟩:=E.z.el hi hst;refine zG ?_;refine zl [0,1,3,7,0,31,0,64,192,448,1023,2047,4095,8191] rfl ?_;refine zH ?_;refine dC (rowX _ ((x1 bt zo).trans hT2) hi hN) ?_;rintro _ h2 n2 rfl y2 x2;refine zH ?_;refine dI rfl hst ?_;refine dL t4 hbe 0 ?_;refine dC (xH _ (i4.x zx)) ?_;rintro _ h3 n3 ⟨b3,rfl,bq3⟩ y3 x3;rcases bvs bq3 with ⟨rfl,q3⟩|⟨rfl,q3⟩
  ·refine zH ?_;refine zf ?_;exact .inl ⟨i,hi1,hi,q3,rfl⟩
  refine zH ?_;refine zG ?_;exact sK (i+1) ⟨rfl,zo,fun c hc=>(x3 c zo).trans ((x2 c zo).trans (x1 c hc)),zo,by show i+1≤N;omega,fun a h1 h2=>by
   have h2:a<i+1:=h2;rcases Nat.lt_or_ge a i with h3|h3
   ·exact hz a h1 h3
   ·rw [show a=i by omega];exact q3⟩
 refine zf ?_;exact .inr ⟨fun a h1 h2=>hz a h1 zo,rfl⟩
end
end
section
def advU (T:Nat→Nat→Int)(p:Nat)(bf:Int)(i:Nat):Nat→Nat→Int:=fun a b=>if p<a∧a<i then (T p p*T a b-T a p*T p b).tdiv bf else T a b
theorem ba {T:Nat→Nat→Int}{p:Nat}{bf:Int}:advU T p bf (p+1)=T:=by
 funext a b;unfold advU;rw [if_neg zo]
theorem vg {T:Nat→Nat→Int}{p i a b:Nat}{bf:Int}(h:a≤p∨i≤a):advU T p bf i a b=T a b:=by
 unfold advU;rw [if_neg zo]
theorem zc1 {N:Nat}{T:Nat→Nat→Int}{p i:Nat}{bf:Int}(hi:p<i):tabL N (rowU (advU T p bf i) i p bf N)=tabL N (advU T p bf (i+1)):=by
 refine nI fun a b ha hb=>?_;unfold rowU;rw [vg (a:=p) (.inl (Nat.le_refl _)),vg (a:=i) (.inr (Nat.le_refl _)),vg (a:=i) (.inr (Nat.le_refl _)),vg (a:=p) (.inl (Nat.le_refl _))];by_cases h:a=i
 ·subst h;rw [if_pos ⟨rfl,hb⟩];unfold advU;rw [if_pos ⟨hi,Nat.lt_succ_self _⟩]
 rw [if_neg (fun h2=>h h2.1)];unfold advU;by_cases h2:p<a∧a<i
 ·rw [if_pos h2,if_pos zo]
 rw [if_neg h2,if_neg zo]
theorem zfl {N:Nat}{T:Nat→Nat→Int}{p:Nat}{bf:Int}:tabL N (advU T p bf N)=tabL N (yq T p bf):=by
 refine nI fun a b ha hb=>?_;unfold advU yq;by_cases h:p<a
 ·rw [if_pos ⟨h,ha⟩,if_pos h]
 rw [if_neg (fun h2=>h h2.1),if_neg h]
theorem zfm {N:Nat}{T:Nat→Nat→Int}{p i:Nat}{bf:Int}(hb:∀a c,a<N→c<N→(T a c).natAbs<BW)(hx:∀i j,p<i→i<N→j<N→(T p p*T i j-T i p*T p j).natAbs<BW):∀a c,a<N→c<N→(advU T p bf i a c).natAbs<BW:=by
 intro a c ha hc;unfold advU;split
 ·rename_i h;exact wB (hx a c h.1 ha hc)
 exact hb a c ha hc
section
variable {h:HF}{n b0 bt be bs N p:Nat}{T:Nat→Nat→Int}{s:Nat→Rat}{bf:Int}{vL vD:Value}
theorem mC (k:Nat)(E:EL h n b0 bt be bs N p T s bf vL vD)(hp:p<N)(hN:N≤3)(hbf:bf≠0)(hbb:bf.natAbs<BW)(hb:∀a c,a<N→c<N→(T a c).natAbs<BW)(hx:∀i j,p<i→i<N→j<N→(T p p*T i j-T i p*T p j).natAbs<BW):
  CF (cal (k+10)) 170 [.pointer (some ⟨b0,0,none⟩)] h n fun _ h' n' w=>n≤n'∧ExtB n [be,b0] h h'∧Tr n h n' h'∧EL h' n' b0 bt be bs N (p+1) (yq T p bf) s (T p p) vL vD∧(∀c∈w,c=be∨c=b0):=by
 obtain ⟨sb,ab,lb,cb,ty,hE,ib⟩:=E.e;obtain ⟨ty2,hT2⟩:=E.t;obtain ⟨o1,o2,o3,o4,o5,o6,o7⟩:=E.o;have hbe:=E.z.1;have hbs:=E.s.1;refine ks (fn:=Tryz.f170) R4 ?_;refine zG ?_;refine sF (α:=Nat) (fun z=>[(0,.pointer (some ⟨b0,0,none⟩)),(2,.int .i64 (p:Int)),(3,.int .i64 (z:Int))]) (fun z h' n' w'=>n≤n'∧ExtB n [be] h h'∧Tr n h n' h'∧OZ h' n' be (tabL N (advU T p bf z))∧p+1≤z∧z≤N∧∀c∈w',c=be) (fun z=>N-z) (p+1) ⟨Nat.le_refl _,ExtB.refl _ _ _,Tr.refl _ _,E.z.as (by rw [ba]),Nat.le_refl _,hp,fun c hc=>absurd hc List.not_mem_nil⟩ ?_;rintro i t h1 n1 w1 ⟨y1,x1,T1,z1,hi1,hi2,hw1⟩;have hi2:i≤N:=hi2;have hi1:p+1≤i:=hi1;have y1:n≤n1:=y1;have z1:OZ h1 n1 be (tabL N (advU T p bf i)):=z1;have T1:Tr n h n1 h1:=T1;have e1:h1 b0=_:=(x1 b0 o2 (by simp [Ne.symm o5])).trans hE;have t1:h1 bt=_:=(x1 bt zo (by simp [Ne.symm o4])).trans hT2;have ib1:=ib.t T1;refine zG ?_;by_cases q:(i:Int)<(N:Int)
 ·have hi:i<N:=zo;refine zG ?_;refine zl [0,1,3,7,0,0,0,0,128,384,896,2047] rfl ?_;refine zH ?_;have hc:=zfd k t1 ⟨zo,Ne.symm o4⟩ z1 ib1 hbf hbb hi hp zo hN (zfm hb hx) (fun j hj=>by
   rw [vg (a:=p) (.inl (Nat.le_refl _)),vg (a:=i) (.inr (Nat.le_refl _)),vg (a:=i) (.inr (Nat.le_refl _)),vg (a:=p) (.inl (Nat.le_refl _))];exact hx i j hi1 hi hj)
  refine yK _ R7 hc ?_;rintro _ h2 n2 w2 ⟨y2,x2,z2,hw2⟩;refine ⟨rfl,y2,?_⟩;rw [uU];refine zG ?_;have z3:OZ h2 n2 be (tabL N (advU T p bf (i+1))):=z2.as (zc1 hi1);obtain ⟨C,e3,q3,q4⟩:=z1.2;have T2:Tr n1 h1 n2 h2:=⟨y2,fun c hc=>by
   by_cases hcb:c=be
   ·subst hcb;exact .inr (.row q3 q4.1)
   ·exact .inl (x2 c hc (by simp [hcb]))⟩
  exact sK (i+1) ⟨zo,fun c hc hcb=>(x2 c zo hcb).trans (x1 c hc hcb),T1.trans T2,z3,zo,by show i+1≤N;omega,fun c hc=>by
   rcases xS _ _ c hc with ⟨h3,_⟩|h3
   ·exact hw2 c h3
   ·exact hw1 c h3⟩
 have hiN:i=N:=zo;subst hiN;have z2:OZ h1 n1 be (tabL i (yq T p bf)):=z1.as zfl;refine zG ?_;refine sC (rowX _ t1 hp hN) ?_;rintro _ h2 n2 rfl y2 x2;obtain ⟨b4,a4,l4,c4,t4,i4⟩:=z2.el hp hp;rw [show yq T p bf p p=T p p from oW (Nat.le_refl _)] at i4;refine zG ?_;refine sI rfl hp ?_;refine sL t4 z2.1 0 ?_;refine zG ?_;refine sSx [.int .i64 (i:Int),.int .i64 (p:Int),.pointer (some ⟨bt,0,none⟩),.bool b4,.slice a4 l4 c4,vL,vD] ((x2 b0 zo).trans e1) ?_ (hu:=(by simp only [List.all_cons,List.all_nil,E.u.1,E.u.2,Bool.and_true];rfl));intro h5 p5 o5';refine zG ?_;refine sSx [.int .i64 (i:Int),.int .i64 ((p+1:Nat):Int),.pointer (some ⟨bt,0,none⟩),.bool b4,.slice a4 l4 c4,vL,vD] p5 ?_ (hu:=(by simp only [List.all_cons,List.all_nil,E.u.1,E.u.2,Bool.and_true];rfl));intro h6 p6 o6';refine zG ?_;have hk:∀c,c<3*n1→c≠b0→h6 c=h1 c:=fun c hc hn=>(o6'.1 c hn).trans ((o5'.1 c hn).trans (x2 c hc));have hin:b0∈addW n [b0] (addW n [b0] w1):=uT o2 (by simp);have T6:Tr n1 h1 n2 h6:=zt;refine ⟨rfl,[],rfl,⟨zo,fun c hc hcb=>?_,T1.trans T6,⟨⟨_,_,_,_,_,p6,i4.t T6⟩,⟨_,(hk bt zo zo).trans t1⟩,z2.go intP.kp T6 (hk be z2.1 o5),E.s.go ratP.kp (T1.trans T6) ((hk bs zo o7).trans (x1 bs hbs (by simp [Ne.symm o3]))),zo,E.u⟩,fun c hc=>?_⟩,fun hw=>by have hw:addW n [b0] (addW n [b0] w1)=[]:=hw;rw [hw] at hin;cases hin⟩
 ·simp only [List.mem_cons,List.not_mem_nil,or_false,not_or] at hcb;exact (hk c zo hcb.2).trans (x1 c hc (by simp [hcb.1]))
 rcases xS _ _ c hc with ⟨h3,_⟩|h3
 ·exact .inr (List.mem_singleton.1 h3)
 rcases xS _ _ c h3 with ⟨h4,_⟩|h4
 ·exact .inr (List.mem_singleton.1 h4)
 exact .inl (hw1 c h4)
end
end
theorem wD {x y:Int}(hy:0<y)(hx:x.natAbs<2^m)(hy2:y.natAbs<2^m):Sz m (Rat.divInt x y):=by
 obtain ⟨h1,h2⟩:=oz (x:=x) hy;refine ⟨?_,?_⟩
 ·rw [h1];exact wB hx
 have h3:=wB (y:=((Nat.gcd x.natAbs y.natAbs:Nat):Int)) hy2;rw [←h2,Int.natAbs_natCast] at h3;exact h3
theorem uI {x:Nat}{a:Nat}(h:x<2^a)(hab:a≤b):x<2^b:=Nat.lt_of_lt_of_le h (Nat.pow_le_pow_right zd hab)
theorem qf {x y:Nat}{a c:Nat}(hx:x<2^a)(hy:y<2^b)(hc:a+b≤c):x*y<2^c:=by
 refine uI (a:=a+b) ?_ hc;rw [Nat.pow_add];exact Nat.mul_lt_mul'' hx hy
theorem gw {P:Nat}(hB:B<2^P):bndT B 1<2^(2*P+1):=by
 show 2*(B*B)<_;have h:=qf hB hB (c:=2*P) zo;rw [Nat.pow_succ];omega
theorem zjm {P:Nat}(hB:B<2^P):bndT B 2<2^(3*P+3):=by
 show 6*(B*(B*B))<_;have h:=qf hB (qf hB hB (Nat.le_refl _)) (c:=3*P) zo;rw [Nat.pow_succ,Nat.pow_succ,Nat.pow_succ];omega
structure LdZ (n P k:Nat)(T:Nat→Nat→Int)(bf:Int):Prop where
 t:∀i j,i<n→j<n→(T i j).natAbs<2^(3*P+3)
 b:bf.natAbs<2^(2*P+1)
 t1:k≤1→∀i j,i<n→j<n→(T i j).natAbs<2^(2*P+1)
 b1:k≤1→bf.natAbs<2^P
theorem LdS.z {n k P:Nat}{T0 T:Nat→Nat→Int}{bf:Int}(hn:n≤3)(h1:1≤B)(hM:∀i j,i<n→j<n→(T0 i j).natAbs≤B)(hB:B<2^P)(h:LdS n T0 k T bf)(hk:k<n):LdZ n P k T bf:=by
 obtain ⟨h2,h3,h4⟩:=h.bound hn h1 hM hk;have hk3:k=0∨k=1∨k=2:=zo;have m:=nf h1;refine ⟨fun i j hi hj=>?_,Nat.lt_of_le_of_lt h3 (gw hB),fun hk1 i j hi hj=>?_,fun hk1=>Nat.lt_of_le_of_lt (h4 hk1) hB⟩
 ·refine Nat.lt_of_le_of_lt (h2 i j hi hj) ?_;rcases hk3 with rfl|rfl|rfl
  ·exact uI hB zo
  ·exact uI (gw hB) zo
  exact zjm hB
 refine Nat.lt_of_le_of_lt (h2 i j hi hj) ?_;rcases hk3 with rfl|rfl|rfl
 ·exact uI hB zo
 ·exact gw hB
 omega
theorem ep {n P k:Nat}{T:Nat→Nat→Int}{bf:Int}(z:LdZ n P k T bf)(hP:P≤15)(hn:n≤3):∀i j,k<i→i<n→j<n→(T k k*T i j-T i k*T k j).natAbs<BW:=by
 intro i j h1 h2 h3;have hk1:k≤1:=zo;have e:∀{a b:Int},a.natAbs<2^(2*P+1)→b.natAbs<2^(2*P+1)→(a*b).natAbs<2^(4*P+2):=fun ha hb=>by
  rw [Int.natAbs_mul];exact qf ha hb zo
 have h4:=e (z.t1 hk1 k k zo zo) (z.t1 hk1 i j h2 h3);have h5:=e (z.t1 hk1 i k h2 zo) (z.t1 hk1 k j zo h3);have h6:=Int.natAbs_sub_le (T k k*T i j) (T i k*T k j);refine uK (e:=4*P+3) ?_ zo;rw [Nat.pow_succ];omega
structure LdP (n P:Nat)(D:Nat)(a0:Nat→Nat→Rat)(k:Nat)(T:Nat→Nat→Int)(bf:Int)(a:Nat→Nat→Rat):Prop where
 i:LdI n (tT n a0) (tS n a0) a0 k T bf a
 v:∃V0 V bv,(∀i j,i<n→j<n→(V0 i j).natAbs<2^P)∧LdI n V0 (fun _=>((D:Int):Rat)) a0 k V bv a
section
variable {n P D k:Nat}{a0 a:Nat→Nat→Rat}{T:Nat→Nat→Int}{bf:Int}
theorem LdP.val (hn:n≤3)(hP:1≤P)(hD:0<D)(hD2:D<2^P)(h:LdP n P D a0 k T bf a)(hk:k<n):∃V bv,LdZ n P k V bv∧0<bv∧∀i j,k≤i→i<n→k≤j→j<n→a i j=Rat.divInt (V i j) (bv*D):=by
 obtain ⟨V0,V,bv,hV,hI⟩:=h.v;have h2:2^P-1<2^P:=by have:=Nat.two_pow_pos P;omega
 have h3:1≤2^P-1:=by
  have:2^1≤2^P:=Nat.pow_le_pow_right zd hP;omega
 refine ⟨V,bv,hI.ls.z hn h3 (fun i j hi hj=>by have:=hV i j hi hj;omega) h2 hk,hI.pos,fun i j h1 h2 h3 h4=>?_⟩;rw [hI.value (D:=(D:Int)) zo (fun _=>rfl) h1 h2 h3 h4,Rat.divInt_eq_div]
theorem LdP.sz (hn:n≤3)(hP:1≤P)(hD:0<D)(hD2:D<2^P)(h:LdP n P D a0 k T bf a)(hk:k<n)(h1:k≤i)(h2:i<n)(h3:k≤j)(h4:j<n):Sz (3*P+3) (a i j)∧(k≤1→Sz (2*P+1) (a i j)):=by
 obtain ⟨V,bv,hZ,hb,e⟩:=h.val hn hP hD hD2 hk;rw [e i j h1 h2 h3 h4];have hp:0<bv*(D:Int):=Int.mul_pos hb zo;refine ⟨wD hp (hZ.t i j h2 h4) ?_,fun hk1=>wD hp (hZ.t1 hk1 i j h2 h4) ?_⟩
 ·rw [Int.natAbs_mul,Int.natAbs_natCast];exact qf hZ.b hD2 zo
 rw [Int.natAbs_mul,Int.natAbs_natCast];exact qf (hZ.b1 hk1) hD2 zo
theorem LdP.quo (hn:n≤3)(hP:1≤P)(hD:0<D)(hD2:D<2^P)(h:LdP n P D a0 k T bf a)(hk:k<n)(hp:0<a k k)(h1:k<i)(h2:i<n):Sz (2*P+1) (a i k/a k k):=by
 obtain ⟨V,bv,hZ,hb,e⟩:=h.val hn hP hD hD2 hk;have hk1:k≤1:=zo;have hd:0<bv*(D:Int):=Int.mul_pos hb zo;have hd':((bv*(D:Int):Int):Rat)≠0:=fun e=>by have:=vj.1 e;omega
 have e1:=e i k zo h2 (Nat.le_refl _) hk;have e2:=e k k (Nat.le_refl _) hk (Nat.le_refl _) hk;have hv:0<V k k:=by
  rw [e2,Rat.divInt_eq_div,Rat.div_def] at hp;have hi:(0:Rat)<((bv*(D:Int):Int):Rat):=Rat.intCast_pos.2 hd;have h5:=Rat.mul_pos hp hi;rw [Rat.mul_assoc,Rat.inv_mul_cancel _ hd',Rat.mul_one] at h5;exact Rat.intCast_pos.1 h5
 have e3:a i k/a k k=Rat.divInt (V i k) (V k k):=by
  rw [e1,e2,Rat.divInt_eq_div,Rat.divInt_eq_div,Rat.divInt_eq_div,Rat.div_def,Rat.div_def,Rat.div_def,Rat.div_def,Rat.inv_mul_rev,Rat.inv_inv];rw [Rat.mul_assoc,←Rat.mul_assoc _ _ ((V k k:Rat)⁻¹),Rat.inv_mul_cancel _ hd',Rat.one_mul]
 rw [e3];exact wD hv (hZ.t1 hk1 i k h2 hk) (hZ.t1 hk1 k k hk hk)
theorem mY (hD:0<D):∀_:Nat,(0:Rat)<((D:Int):Rat):=fun _=>Rat.intCast_pos.2 zo
theorem LdP.start (hD:0<D)(hB:B<2^P)(hf:∀i j,i<n→j<n→FN D B (a0 i j)):LdP n P D a0 0 (tT n a0) 1 a0:=by
 have hc:∀i j,∃z:Int,i<n→j<n→a0 i j*(D:Rat)=(z:Rat)∧z.natAbs≤B:=fun i j=>by
  by_cases h:i<n∧j<n
  ·obtain ⟨z,hz⟩:=hf i j h.1 h.2;exact ⟨z,fun _ _=>hz⟩
  exact ⟨0,fun h1 h2=>absurd ⟨h1,h2⟩ h⟩
 refine ⟨LdI.start bM,fun i j=>(hc i j).choose,_,_,fun i j hi hj=>Nat.lt_of_le_of_lt ((hc i j).choose_spec hi hj).2 hB,LdI.start fun i j _ hi _ hj=>?_⟩;rw [←((hc i j).choose_spec hi hj).1,Rat.mul_comm];show _=(1:Rat)*_*_;rw [Rat.one_mul,Rat.intCast_natCast]
theorem LdP.step (hn:n≤3)(hD:0<D)(h:LdP n P D a0 k T bf a)(hk:k<n)(hp:0<a k k):LdP n P D a0 (k+1) (yq T k bf) (T k k) (tU a k):=by
 obtain ⟨hi,V0,V,bv,hV,hI⟩:=h;exact ⟨hi.step hn (fun _=>nJ) hk hp,V0,_,_,hV,hI.step hn (mY hD) hk hp⟩
theorem LdP.skip (hD:0<D)(h:LdP n P D a0 k T bf a)(hk:k<n)(hz:a k k=0)(ht:∀i,k<i→i<n→T i k=0):LdP n P D a0 (k+1) T bf a:=by
 obtain ⟨hi,V0,V,bv,hV,hI⟩:=h;refine ⟨hi.skip (fun _=>nJ) hk hz ht,V0,V,bv,hV,hI.skip (mY hD) hk hz fun i h1 h2=>?_⟩;exact (uZ hI.tab hI.pos (mY hD) zo h2 (Nat.le_refl _) hk).2 ((uZ hi.tab hi.pos (fun _=>nJ) zo h2 (Nat.le_refl _) hk).1 (ht i h1 h2))
theorem LdP.at (h:LdP n P D a0 k T bf a)(h1:k≤i)(h2:i<n)(h3:k≤j)(h4:j<n):Rat.divInt (T i j) bf/tS n a0 i=a i j:=by
 have e:=h.i.tab i j h1 h2 h3 h4;have hb:(bf:Rat)≠0:=fun e=>by have:=vj.1 e;have:=h.i.pos;omega
 have hs:tS n a0 i≠0:=fun e=>by have:=nJ (N:=n) (a:=a0) (i:=i);rw [e] at this;exact absurd this zd
 have e1:=Rat.mul_inv_cancel _ hb;have e2:=Rat.mul_inv_cancel _ hs;rw [Rat.divInt_eq_div,Rat.div_def,Rat.div_def,e];generalize (bf:Rat)=x at*
 generalize x⁻¹ =x' at*
 generalize tS n a0 i=y at*
 generalize y⁻¹ =y' at*
 generalize a i j=z at*
 have e3:x*y*z*x'*y'=(x*x')*(y*y')*z:=by grind
 rw [e3,e1,e2,Rat.one_mul,Rat.one_mul]
theorem LdP.tz (h:LdP n P D a0 k T bf a)(hn:n≤3)(h1:1≤B)(hB:B<2^P)(hM:∀i j,i<n→j<n→(tT n a0 i j).natAbs≤B)(hk:k<n):LdZ n P k T bf:=h.i.ls.z hn h1 hM hB hk
end
section
variable {e ty ty':TypeId}{ik ik':IntKind}{L b b0 be bt cap j n' n0 off sz:Nat}{vD vL z:Value}{x y:Operand}{h':HF}{bf:Int}
section
variable {X:CtxF}{ops r:List Oper}{t:TF}{h:HF}{n:Nat}{w:List Nat}{Q:SV→Prop}{o:Oper}{d:Tmp}
theorem sMk {l c:Operand}(zs:List Value)(k:∀h',h' (3*n+2)=some (.row (rep L zs) e)→Ext n h h'→EO X ops r ⟨upd t d (.slice (some ⟨3*n+2,0,none⟩) L L),h',n+1,w⟩ Q)(hL:L≤1000)(hw:zh ops t o=true:=by exact rfl)(hd:o.dst=some d:=by exact rfl)(hn:zm X.nt (some d)=true:=by exact rfl)(ho:o.op=.makeSlice ty l c:=by exact rfl)(hu:X.E.und ty=some (.slice e):=by exact rfl)(hi:X.E.inf e=some (sz,bt,z):=by exact rfl)(hz:zr z=zs:=by exact rfl)(hl:evF t l=.int ik (L:Int):=by exact rfl)(hc:evF t c=.int ik' (L:Int):=by exact rfl)(hs:zs.length=sz:=by exact rfl)(hb:bt≤1000:=by exact Nat.le_of_ble_eq_true rfl):EO X ops (o::r) ⟨t,h,n,w⟩ Q:=
 wE ⟨hw,hd,hn,ho,hu,hi,hl,hc,(by rw [hz];exact hs)⟩ ⟨Nat.le_refl _,Nat.le_trans (Nat.mul_le_mul hL hb) zd,zo⟩ (k _ (by rw [←hz];exact ze _ _ _) (Ext.upd zo))
theorem sMu (a b:Nat)(hab:a*b<1000000)(k:EO X ops r ⟨upd t d (.int .i64 ((a*b:Nat):Int)),h,n,w⟩ Q)(hw:zh ops t o=true:=by exact rfl)(hd:o.dst=some d:=by exact rfl)(hn:zm X.nt (some d)=true:=by exact rfl)(ho:o.op=.binOp .mul ty x y ty':=by exact rfl)(hx:evF t x=.int .i64 (a:Int):=by exact rfl)(hy:evF t y=.int .i64 (b:Int):=by exact rfl):EO X ops (o::r) ⟨t,h,n,w⟩ Q:=by
 refine st_mul hw hd hn ho hx hy (by rw [←Int.natCast_mul];omega) ?_;rw [←Int.natCast_mul];exact k
end
section
variable {X:CtxF}{ops r:List Oper}{ms:List Nat}{i m:Nat}{t:TF}{h:HF}{n:Nat}{w:List Nat}{al ld:List (Nat×Nat)}{ef:List (Nat×HF×List Nat)}{Q:SV→Prop}{o:Oper}{d:Tmp}
theorem dMu (a b:Nat)(hab:a*b<1000000)(k:ED X ops r ms (i+1) ⟨⟨upd t d (.int .i64 ((a*b:Nat):Int)),h,n,w⟩,al,ld,ef⟩ Q)(hw:zh ops t o=true:=by exact rfl)(hd:o.dst=some d:=by exact rfl)(hn:zm X.nt (some d)=true:=by exact rfl)(ho:o.op=.binOp .mul ty x y ty':=by exact rfl)(hx:evF t x=.int .i64 (a:Int):=by exact rfl)(hy:evF t y=.int .i64 (b:Int):=by exact rfl):ED X ops (o::r) (m::ms) i ⟨⟨t,h,n,w⟩,al,ld,ef⟩ Q:=by
 refine yv hw hd hn (by rw [ho];rfl) ?_ k;rw [ho];show binE X.E .mul ty (evF t x) (evF t y)=_;rw [hx,hy];show some (Value.int .i64 (IntKind.wrap .i64 ((a:Int)*(b:Int))))=_;rw [←Int.natCast_mul,xo zo]
theorem dZn {D:Type}{P:List Value→D→HF→Nat→Prop}{a:Operand}{zs:List D}{q:D}(c:List Value)(og:OR sz P h n b zs)(kp:KP sz P)(hj:j<zs.length)(hoff:off=j*sz)(i1:P c q h n)(hnew:3*n0≤b)(k:∀h',OR sz P h' n b (zs.set j q)→Sto b h h'→ED X ops r ms (i+1) ⟨⟨t,h',n,w⟩,al,ld,(i,h,[b])::ef⟩ Q)(hw:zh ops t o=true:=by exact rfl)(hd:o.dst=none:=by exact rfl)(ho:o.op=.store ty a x:=by exact rfl)(hi:X.E.inf ty=some (sz,bt,z):=by exact rfl)(ha:evF t a=.pointer (some ⟨b,off,none⟩):=by exact rfl)(hx:zr (evF t x)=c:=by exact rfl)(h1:yN m ef=true:=by exact rfl)(h2:xI m al=true:=by exact rfl)(h3:zV m [b] ld=true:=by exact rfl)(hX:X.n0=n0:=by exact rfl):ED X ops (o::r) (m::ms) i ⟨⟨t,h,n,w⟩,al,ld,ef⟩ Q:=
 dZ c og kp hj hoff i1 (fun h' o' s' _=>by rw [xv hnew];exact k h' o' s') hw hd ho hi ha hx h1 h2 h3 hX
end
theorem EL.go {h:HF}{n bs N st:Nat}{T:Nat→Nat→Int}{s:Nat→Rat}(E:EL h n b0 bt be bs N st T s bf vL vD)(t:Tr n h n' h')(e:∀c,c=b0∨c=bt∨c=be∨c=bs→h' c=h c):EL h' n' b0 bt be bs N st T s bf vL vD:=by
 obtain ⟨⟨sb,ab,lb,cb,ty,e1,e2⟩,⟨ty2,t1⟩,z,s,o,u⟩:=E;have:=t.1;exact ⟨⟨sb,ab,lb,cb,ty,(e _ (.inl rfl)).trans e1,e2.t t⟩,⟨ty2,(e _ (.inr (.inl rfl))).trans t1⟩,z.go intP.kp t (e _ (.inr (.inr (.inl rfl)))),s.go ratP.kp t (e _ (.inr (.inr (.inr rfl)))),zo,u⟩
theorem ak (k:Nat)(h:HF)(n:Nat):CX (cal (k+3)) 168 [.int .i64 1] h n (QV 1):=by
 refine zk (fn:=Tryz.f168) R4 ?_;refine zG ?_;refine sA ?_;intro h1 p1 x1;refine zG ?_;refine sC (zag _ _ _) ?_;rintro _ h2 n2 ⟨b2,a2,l2,c2,rfl,i2⟩ y2 x2;refine sT #[.bool b2,.slice a2 l2 c2,.bool false,.slice none 0 0] ?_;refine sS [.bool b2,.slice a2 l2 c2,.bool false,.slice none 0 0] ?_;intro h3 p3 o3;refine zq ?_;exact ⟨_,_,_,_,_,_,_,_,rfl,(i2.t zt:IW _ _ _ _ _ _ 1),IW.zero _ _⟩
section
variable {N:Nat}{a:Nat→Nat→Rat}{D B m:Nat}
theorem dH (k:Nat){h:HF}{n:Nat}(g:GG h n)(hq:QS h n (.slice (some ⟨b,off,none⟩) (N*N) cap) (tabL N a))(hgb:gro b=false)(hcap:N*N≤cap)(hN:1≤N∧N≤3)(hD:0<D)(hDb:D<BW)(hd:∀i j,i<N→j<N→(a i j).den∣D)(hB:∀i j,i<N→j<N→FN D B (a i j))(hB1:1≤B)(hBb:B<BW)(hz:∀i j,i<N→j<N→Sz m (a i j))(hm:m≤64):
  CX (cal (k+14)) 163 [.slice (some ⟨b,off,none⟩) (N*N) cap,.int .i64 (N:Int)] h n fun v h' n'=>∃b0 bt be bs,v=.pointer (some ⟨b0,0,none⟩)∧EL h' n' b0 bt be bs N 0 (tT N a) (tS N a) 1 (.slice none 0 0) (.slice none 0 0)∧(3*n≤bt∧3*n≤be)∧3*n≤b0∧gro b0=false:=by
 refine zk (fn:=Tryz.f163) R4 ?_;refine zG ?_;refine sC (iP _ g hq hgb hcap hN hD hDb hd hB hB1 hBb hz hm) ?_;rintro _ h1 n1 ⟨bt,be,bs,rfl,⟨ty,hT⟩,oE,oS,o1,o2,o3,o4,o5,o6⟩ y1 x1;refine sC (zag _ _ _) ?_;rintro _ h2 n2 ⟨b2,a2,l2,c2,rfl,i2⟩ y2 x2;refine sT #[.int .i64 (N:Int),.int .i64 0,.pointer (some ⟨bt,0,none⟩),.bool b2,.slice a2 l2 c2,.slice none 0 0,.slice none 0 0] ?_;refine sB [.int .i64 (N:Int),.int .i64 0,.pointer (some ⟨bt,0,none⟩),.bool b2,.slice a2 l2 c2,.slice none 0 0,.slice none 0 0] ?_;intro h3 p3 x3;refine zq ?_;have hbe:=oE.1;have hbs:=oS.1;exact ⟨_,bt,be,bs,rfl,⟨⟨_,_,_,_,_,p3,i2.t zt⟩,⟨_,zp⟩,oE.xx intP.kp zx,oS.xx ratP.kp zx,zo,⟨rfl,rfl⟩⟩,⟨o5,o6⟩,zo,yz _⟩
end
end
section
variable {L b bt cap j l len off sz:Nat}{ty ty':TypeId}{x y:Operand}{z:Value}{a:Option Addr}{q:Rat}
section
variable {X:CtxF}{n0:Nat}{ops r:List Oper}{ms:List Nat}{i m:Nat}{t:TF}{h:HF}{n:Nat}{w:List Nat}{Q:SV→Prop}{o:Oper}{d:Tmp}
theorem sZ {D:Type}{P:List Value→D→HF→Nat→Prop}{a:Operand}{zs:List D}{q:D}(c:List Value)(og:OR sz P h n b zs)(kp:KP sz P)(hj:j<zs.length)(hoff:off=j*sz)(i1:P c q h n)(k:∀h',OR sz P h' n b (zs.set j q)→Sto b h h'→EO X ops r ⟨t,h',n,addW n0 [b] w⟩ Q)(hw:zh ops t o=true:=by exact rfl)(hd:o.dst=none:=by exact rfl)(ho:o.op=.store ty a x:=by exact rfl)(hi:X.E.inf ty=some (sz,bt,z):=by exact rfl)(ha:evF t a=.pointer (some ⟨b,off,none⟩):=by exact rfl)(hx:zr (evF t x)=c:=by exact rfl)(hX:X.n0=n0:=by exact rfl):EO X ops (o::r) ⟨t,h,n,w⟩ Q:=by
 have og':=og;obtain ⟨hb,C,e,y1,y2,y3⟩:=og;have hlen:=y3.len;obtain ⟨c1,c2,c3⟩:=kp.c i1;have hsz:j*sz+sz≤zs.length*sz:=by
  have:=Nat.mul_le_mul_right sz (show j+1≤zs.length from hj);rw [Nat.add_mul,Nat.one_mul] at this;exact this
 subst hoff;rw [qY hw (by rw [hd];rfl) (by rw [ho];rfl) (by rw [ho];exact xA hi ha (by rw [hx];exact c1) (by rw [hx];exact c3) y1 zo),hd,hx,hX];have s:=og'.set (h':=upd h b (some (.row (zn C (j*sz) c) e))) kp y1 hj i1 (ze _ _ _) (fun c hc=>zj hc);exact k _ s.1 s.2
theorem sZn {D:Type}{P:List Value→D→HF→Nat→Prop}{a:Operand}{zs:List D}{q:D}(c:List Value)(og:OR sz P h n b zs)(kp:KP sz P)(hj:j<zs.length)(hoff:off=j*sz)(i1:P c q h n)(hnew:3*n0≤b)(k:∀h',OR sz P h' n b (zs.set j q)→Sto b h h'→EO X ops r ⟨t,h',n,w⟩ Q)(hw:zh ops t o=true:=by exact rfl)(hd:o.dst=none:=by exact rfl)(ho:o.op=.store ty a x:=by exact rfl)(hi:X.E.inf ty=some (sz,bt,z):=by exact rfl)(ha:evF t a=.pointer (some ⟨b,off,none⟩):=by exact rfl)(hx:zr (evF t x)=c:=by exact rfl)(hX:X.n0=n0:=by exact rfl):EO X ops (o::r) ⟨t,h,n,w⟩ Q:=
 sZ c og kp hj hoff i1 (fun h' o' s'=>by rw [xv hnew];exact k h' o' s') hw hd ho hi ha hx hX
end
section
variable {X:CtxF}{ops r:List Oper}{t:TF}{h:HF}{n:Nat}{w:List Nat}{Q:SV→Prop}{o:Oper}{d:Tmp}
theorem sQ {a b:List UInt8}(v:Bool)(hv:(a==b)=v)(k:EO X ops r ⟨upd t d (.bool v),h,n,w⟩ Q)(hw:zh ops t o=true:=by exact rfl)(hd:o.dst=some d:=by exact rfl)(hn:zm X.nt (some d)=true:=by exact rfl)(ho:o.op=.binOp .eql ty x y ty':=by exact rfl)(hx:evF t x=.string ⟨⟨a⟩⟩:=by exact rfl)(hy:evF t y=.string ⟨⟨b⟩⟩:=by exact rfl):EO X ops (o::r) ⟨t,h,n,w⟩ Q:=
 zA (v:=.bool v) ⟨hw,hd,hn,(by rw [ho];rfl),(by rw [ho];show binE X.E .eql ty (evF t x) (evF t y)=_;rw [hx,hy];show some (Value.bool (a==b))=_;rw [hv])⟩ k
theorem sQn {a b:List UInt8}(v:Bool)(hv:(a==b)=v)(k:EO X ops r ⟨upd t d (.bool (!v)),h,n,w⟩ Q)(hw:zh ops t o=true:=by exact rfl)(hd:o.dst=some d:=by exact rfl)(hn:zm X.nt (some d)=true:=by exact rfl)(ho:o.op=.binOp .neq ty x y ty':=by exact rfl)(hx:evF t x=.string ⟨⟨a⟩⟩:=by exact rfl)(hy:evF t y=.string ⟨⟨b⟩⟩:=by exact rfl):EO X ops (o::r) ⟨t,h,n,w⟩ Q:=
 zA (v:=.bool (!v)) ⟨hw,hd,hn,(by rw [ho];rfl),(by rw [ho];show binE X.E .neq ty (evF t x) (evF t y)=_;rw [hx,hy];show some (Value.bool (!(a==b)))=_;rw [hv])⟩ k
end
section
variable {X:CtxF}{ops r:List Oper}{ms:List Nat}{i m:Nat}{t:TF}{h:HF}{n:Nat}{w:List Nat}{al ld:List (Nat×Nat)}{ef:List (Nat×HF×List Nat)}{Q:SV→Prop}{o:Oper}{d:Tmp}
theorem dQn {a b:List UInt8}(v:Bool)(hv:(a==b)=v)(k:ED X ops r ms (i+1) ⟨⟨upd t d (.bool (!v)),h,n,w⟩,al,ld,ef⟩ Q)(hw:zh ops t o=true:=by exact rfl)(hd:o.dst=some d:=by exact rfl)(hn:zm X.nt (some d)=true:=by exact rfl)(ho:o.op=.binOp .neq ty x y ty':=by exact rfl)(hx:evF t x=.string ⟨⟨a⟩⟩:=by exact rfl)(hy:evF t y=.string ⟨⟨b⟩⟩:=by exact rfl):ED X ops (o::r) (m::ms) i ⟨⟨t,h,n,w⟩,al,ld,ef⟩ Q:=
 yv (v:=.bool (!v)) hw hd hn (by rw [ho];rfl) (by rw [ho];show binE X.E .neq ty (evF t x) (evF t y)=_;rw [hx,hy];show some (Value.bool (!(a==b)))=_;rw [hv]) k
end
def strP (c:List Value)(s:List UInt8)(_:HF)(_:Nat):Prop:=c=[.string ⟨⟨s⟩⟩]
theorem strP.kp:KP 1 strP:=⟨fun e _=>e,fun e=>by cases e;exact ⟨rfl,rfl,rfl⟩⟩
theorem Rec.strsE {C:List Value}{ss:List (List UInt8)}{h:HF}{n:Nat}(r:Rec 1 (fun c s=>strP c s h n) C ss):C=strs ss:=by
 induction r with
 |nil=>rfl
 |cons h1 h2 h3 ih=>rw [ih,h2];rfl
theorem Rec.ofStrs (ss:List (List UInt8))(h:HF)(n:Nat):Rec 1 (fun c s=>strP c s h n) (strs ss) ss:=by
 induction ss with
 |nil=>exact .nil
 |cons s ss ih=>exact .cons (c:=[.string ⟨⟨s⟩⟩]) rfl rfl ih
abbrev OT (h:HF)(n b:Nat)(ss:List (List UInt8)):Prop:=OR 1 strP h n b ss
theorem OT.sl {h:HF}{n:Nat}{ss:List (List UInt8)}(o:OT h n b ss)(hl:len=ss.length)(hc:len≤cap):Sl h n 1 (.slice (some ⟨b,0,none⟩) len cap) (strs ss):=by
 obtain ⟨C,s,r⟩:=OR.sl o hl hc;exact r.strsE▸s
theorem OT.row {h:HF}{n:Nat}{ss:List (List UInt8)}(o:OT h n b ss):∃e,h b=some (.row (strs ss) e):=by
 obtain ⟨_,C,e,h1,_,r⟩:=o;exact ⟨e,r.strsE▸h1⟩
theorem zhj (k:Nat){h:HF}{n:Nat}(g:GG h n){b d:Bool}{e:Option Addr}{c f g1:Nat}(i:IW h n b a l c q.num)(j:IW h n d e f g1 (denZ q)){m:Nat}(hq:Sz m q)(hm:m≤64):CX (cal (k+10)) 89 [.agg #[.bool b,.slice a l c,.bool d,.slice e f g1]] h n fun v _ _=>v=.string ⟨⟨ratT q⟩⟩:=(kV k g.1 g.2 i j hq hm).cx
theorem gX (k:Nat){h:HF}{n:Nat}(g:GG h n){qs:List Rat}(iq:QS h n (.slice a L cap) qs)(hL:L≤1000){m:Nat}(hz:∀q∈qs,Sz m q)(hm:m≤64):
  CX (cal (k+11)) 140 [.slice a L cap] h n fun v h' n'=>∃b ss,v=.slice (some ⟨b,0,none⟩) L L∧3*n≤b∧OT h' n' b ss∧ss.length=L:=by
 have lq:=iq.len;refine zk (fn:=Tryz.f140) R4 ?_;refine zG ?_;refine sMk (L:=L) [.string ⟨⟨[]⟩⟩] ?_ hL;intro h1 p1 x1;refine zG ?_;have o1:OT h1 (n+1) (3*n+2) (List.replicate L []):=OR.fill zo p1 strP.kp rfl;obtain ⟨B,hB⟩:∃B,B=3*n+2:=⟨_,rfl⟩;rw [←hB] at o1 ⊢;clear p1;refine sF (α:=Nat×List (List UInt8)) (fun z=>[(2,.slice none 0 0),(3,.slice (some ⟨B,0,none⟩) L L),(9,.slice a L cap),(10,.int .i64 (L:Int)),(11,.int .i64 (z.1:Int))])
  (fun z h' n' w'=>w'=[]∧n+1≤n'∧Ext n h h'∧OT h' n' B z.2∧z.2.length=L∧z.1≤L) (fun z=>L-z.1) (0,List.replicate L []) ⟨rfl,Nat.le_refl _,x1,o1,List.length_replicate,Nat.zero_le _⟩ ?_
 rintro ⟨j,ss⟩ t h2 n2 _ ⟨rfl,y2,X2,o2,l2,hj⟩;have y2:n+1≤n2:=y2;have o2:OT h2 n2 B ss:=o2;have l2:ss.length=L:=l2;have hj:j≤L:=hj;refine zG ?_;by_cases q2:(j:Int)<(L:Int)
 ·refine zG ?_;obtain ⟨d3,g3⟩:∃d,(qs)[j]?=some d:=⟨_,List.getElem?_eq_getElem zo⟩;obtain ⟨k3,u3,b3,a3,l3,c3,d3',e3,f3,w3,e3',m3,r3,t3,i3,j3⟩:=QS.at iq g3;refine sI e3' r3 ?_;refine sL t3 m3 0 ?_;refine sA ?_;intro h4 p4 x4;refine zG ?_;refine sS [.bool b3,.slice a3 l3 c3,.bool d3',.slice e3 f3 w3] ?_;intro h5 p5 o5;refine zG ?_;refine sC (zhj _ (g.x zx) (i3.x zx) (j3.x zx) (hz _ (List.mem_of_getElem? g3)) hm) ?_;rintro _ h6 n6 rfl y6 x6;refine sI (j:=j) rfl zo ?_;have o6:OT h6 n6 B ss:=o2.xx strP.kp zx;refine sZn (n0:=n) (j:=j) (q:=ratT d3) [.string ⟨⟨ratT d3⟩⟩] o6 strP.kp zo (show (0:Nat)+j*1=j*1 by omega) rfl zo ?_;intro h7 o7 s7;refine zG ?_;exact sK (j+1,ss.set j (ratT d3)) ⟨rfl,zo,fun c hc=>(s7.1 c zo).trans ((show h6 c=h2 c by
   have e0:h2 c=h2 c:=rfl;exact zp).trans (X2 c hc)),o7,by rw [List.length_set];exact l2,by show j+1≤L;omega⟩
 refine zG ?_;refine zq ?_;exact ⟨_,_,rfl,zo,o2,l2⟩
end
section
variable {q:Rat}{h:HF}{b cap n off:Nat}
theorem bQ:Sz 60 1:=by
 have h:2^1≤2^60:=Nat.pow_le_pow_right zd zd;refine ⟨?_,?_⟩
 ·show 1<_;omega
 show 1<_;omega
theorem iL (h:q.num<0):q<0:=by
 rw [Rat.lt_iff];show q.num*((1:Nat):Int)<0*(q.den:Int);rw [Int.zero_mul];omega
theorem lg (h:0<q.num):0<q:=by
 rw [Rat.lt_iff];show 0*(q.den:Int)<q.num*((1:Nat):Int);rw [Int.zero_mul];omega
theorem bP:Sz 60 0:=Sz.zero _ zd
section
variable {N:Nat}{a0:Nat→Nat→Rat}{D B P:Nat}
theorem zi3 (k0:Nat)(g:GG h n)(hq:QS h n (.slice (some ⟨b,off,none⟩) (N*N) cap) (tabL N a0))(hgb:gro b=false)(hcap:N*N≤cap)(hN:1≤N∧N≤3)(hP1:1≤P)(hPP:P≤15)(hD:0<D)(hD2:D<2^P)(hd:∀i j,i<N→j<N→(a0 i j).den∣D)(hB:∀i j,i<N→j<N→FN D B (a0 i j))(hB1:1≤B)(hB2:B<2^P):
  CX (cal (k0+15)) 139 [.slice (some ⟨b,off,none⟩) (N*N) cap,.int .i64 (N:Int)] h n fun v h' n'=>∃b0 ok,v=.tuple #[.pointer (some ⟨b0,0,none⟩),.bool ok]∧(ok=true↔psdA N N 0 a0)∧(ok=true→∃bl bd ls ds x1 x2 x3 x4 x5 ty,h' b0=some (.row [x1,x2,x3,x4,x5,.slice (some ⟨bl,0,none⟩) (N*N) (N*N),.slice (some ⟨bd,0,none⟩) N N] ty)∧b0<3*n'∧3*n≤b0∧OR 4 ratP h' n' bl ls∧OR 4 ratP h' n' bd ds∧ls.length=N*N∧ds.length=N∧(∀q∈ls,Sz 60 q)∧∀q∈ds,Sz 60 q):=by
 have h9:=sq9 hN.2;have hBW:B<BW:=uK hB2 zo;have hDW:D<BW:=uK hD2 zo;have hz:∀i j,i<N→j<N→Sz P (a0 i j):=fun i j hi hj=>by
  obtain ⟨z,hz,hzb⟩:=hB i j hi hj;have hd':((D:Int):Rat)≠0:=na hD;have e:a0 i j=Rat.divInt z D:=by
   rw [Rat.divInt_eq_div,Rat.div_def,←hz,←Rat.intCast_natCast,Rat.mul_assoc,Rat.mul_inv_cancel _ hd',Rat.mul_one]
  rw [e];exact wD zo (Nat.lt_of_le_of_lt hzb hB2) (by rw [Int.natAbs_natCast];exact hD2)
 have hsS:∀i,i<N→Sz P (tS N a0 i):=fun i hi=>wD (by have:=oZ (f:=nfi N a0 i) (m:=N);unfold cci;omega) (by rw [Int.natAbs_natCast];exact Nat.lt_of_le_of_lt (zb8 (hd i · hi) hD) hD2) (by rw [Int.natAbs_natCast];exact Nat.lt_of_le_of_lt (zg3 (hd i · hi) hD (hB i · hi) hB1) hB2);have htM:∀i j,i<N→j<N→(tT N a0 i j).natAbs≤B:=fun i j hi hj=>zj8 (hd i · hi) hD (hB i · hi) hj;refine zk (fn:=Tryz.f139) R4 ?_;refine zG ?_;refine sC (dH _ g hq hgb hcap hN hD hDW hd hB hB1 hBW hz zo) ?_;rintro _ h1 n1 ⟨b0,bt,be,bs,rfl,E1,o1,o2,o3⟩ y1 x1;obtain ⟨sb,ab,lb,cb,ty,hE,ib⟩:=E1.e;obtain ⟨ty2,hT2⟩:=E1.t;obtain ⟨oo1,oo2,oo3,oo4,oo5,oo6,oo7⟩:=E1.o;have hbe:=E1.z.1;have hbs:=E1.s.1;have kk1:ratP [.bool false,.slice none 0 0,.bool false,.slice none 0 0] 0=ratP [.bool false,.slice none 0 0,.bool false,.slice none 0 0] 0:=rfl;refine zG ?_;refine sMu N N zo ?_;refine sMk (L:=N*N) [.bool false,.slice none 0 0,.bool false,.slice none 0 0] ?_ zo;intro h2 p2 x2;refine zG ?_;refine sS [.int .i64 (N:Int),.int .i64 0,.pointer (some ⟨bt,0,none⟩),.bool sb,.slice ab lb cb,.slice (some ⟨3*n1+2,0,none⟩) (N*N) (N*N),.slice none 0 0] ?_;intro h3 p3 o3';refine zG ?_;refine sMk (L:=N) [.bool false,.slice none 0 0,.bool false,.slice none 0 0] ?_ zo;intro h4 p4 x4;refine zG ?_;refine sS [.int .i64 (N:Int),.int .i64 0,.pointer (some ⟨bt,0,none⟩),.bool sb,.slice ab lb cb,.slice (some ⟨3*n1+2,0,none⟩) (N*N) (N*N),.slice (some ⟨3*(n1+1)+2,0,none⟩) N N] ?_;intro h5 p5 o5';refine zG ?_;obtain ⟨bl,hbl⟩:∃b,b=3*n1+2:=⟨_,rfl⟩;obtain ⟨bd,hbd⟩:∃b,b=3*(n1+1)+2:=⟨_,rfl⟩;have zq0:∀(h:HF) (n:Nat),ratP [.bool false,.slice none 0 0,.bool false,.slice none 0 0] 0 h n:=fun h n=>⟨_,_,_,_,_,_,_,_,rfl,IW.zero _ _,IW.zero _ _⟩;have oL5:OR 4 ratP h5 (n1+1+1) bl (List.replicate (N*N) 0):=by
  obtain ⟨e,he⟩:∃e,h5 bl=some (.row (rep (N*N) [.bool false,.slice none 0 0,.bool false,.slice none 0 0]) e):=⟨_,by rw [hbl];exact zp⟩;exact OR.fill zo he ratP.kp (zq0 _ _)
 have oD5:OR 4 ratP h5 (n1+1+1) bd (List.replicate N 0):=by
  obtain ⟨e,he⟩:∃e,h5 bd=some (.row (rep N [.bool false,.slice none 0 0,.bool false,.slice none 0 0]) e):=⟨_,by rw [hbd];exact zp⟩;exact OR.fill zo he ratP.kp (zq0 _ _)
 rw [←hbl,←hbd] at p5;have ib5:IW h5 (n1+1+1) sb ab lb cb 1:=ib.t zt;have E5:EL h5 (n1+1+1) b0 bt be bs N 0 (tT N a0) (tS N a0) 1 (.slice (some ⟨bl,0,none⟩) (N*N) (N*N)) (.slice (some ⟨bd,0,none⟩) N N):=⟨⟨_,_,_,_,_,p5,ib5⟩,⟨_,zp⟩,E1.z.go intP.kp zt (by
  have e0:h1 be=h1 be:=rfl;exact zp),E1.s.go ratP.kp zt (by
  have e0:h1 bs=h1 bs:=rfl;exact zp),zo,⟨rfl,rfl⟩⟩
 have X5:Ext n h h5:=(zx:Tx n h (n1+1+1) h5).2;rw [←hbl,←hbd];clear p2 p3 p4 p5 o3' o5' x2 x4;refine sF (α:=Nat×(Nat→Nat→Int)×Int×(Nat→Nat→Rat)×List Rat×List Rat) (fun z=>[(1,.int .i64 (N:Int)),(4,.pointer none),(5,.bool false),(6,.pointer (some ⟨b0,0,none⟩)),(7,.bool true),(28,.int .i64 (N:Int)),(29,.int .i64 (z.1:Int))])
  (fun z h' n' w'=>w'=[]∧n1+1+1≤n'∧Ext n h h'∧EL h' n' b0 bt be bs N z.1 z.2.1 (tS N a0) z.2.2.1 (.slice (some ⟨bl,0,none⟩) (N*N) (N*N)) (.slice (some ⟨bd,0,none⟩) N N)∧LdP N P D a0 z.1 z.2.1 z.2.2.1 z.2.2.2.1∧OR 4 ratP h' n' bl z.2.2.2.2.1∧OR 4 ratP h' n' bd z.2.2.2.2.2∧z.2.2.2.2.1.length=N*N∧z.2.2.2.2.2.length=N∧(∀q∈z.2.2.2.2.1,Sz 60 q)∧(∀q∈z.2.2.2.2.2,Sz 60 q)∧z.1≤N)
  (fun z=>N-z.1) (0,tT N a0,1,a0,List.replicate (N*N) 0,List.replicate N 0) ⟨rfl,Nat.le_refl _,X5,E5,LdP.start hD hB2 hB,oL5,oD5,List.length_replicate,List.length_replicate,fun q hq=>by rw [List.eq_of_mem_replicate hq];exact bP,fun q hq=>by rw [List.eq_of_mem_replicate hq];exact bP,Nat.zero_le _⟩ ?_
 rintro ⟨k,T,bf,a,ls,ds⟩ t h10 n10 _ ⟨rfl,y10,X10,E,hP,oL,oD,lL,lD,sL,sD,hk⟩;have y10:n1+1+1≤n10:=y10;have X10:Ext n h h10:=X10;have E:EL h10 n10 b0 bt be bs N k T (tS N a0) bf (.slice (some ⟨bl,0,none⟩) (N*N) (N*N)) (.slice (some ⟨bd,0,none⟩) N N):=E;have hP:LdP N P D a0 k T bf a:=hP;have oL:OR 4 ratP h10 n10 bl ls:=oL;have oD:OR 4 ratP h10 n10 bd ds:=oD;have lL:ls.length=N*N:=lL;have lD:ds.length=N:=lD;have sL:∀q∈ls,Sz 60 q:=sL;have sD:∀q∈ds,Sz 60 q:=sD;have hk:k≤N:=hk;have g10:GG h10 n10:=g.ext X10 zo;obtain ⟨sb3,ab3,lb3,cb3,ty3,hE3,ib3⟩:=E.e;refine zG ?_;by_cases qk:(k:Int)<(N:Int)
 ·have hkN:k<N:=zo;have hkk:=tK hkN hkN;have hZ:LdZ N P k T bf:=hP.tz hN.2 hB1 hB2 htM hkN;have hTB:∀i j,i<N→j<N→(T i j).natAbs<BW:=fun i j hi hj=>uK (hZ.t i j hi hj) zo;have hbB:bf.natAbs<BW:=uK hZ.b zo;have hbp:=hP.i.pos;have hb0:bf≠0:=zo;have hsz1:∀i j,i<N→j<N→Sz (3*P+3) (Rat.divInt (T i j) bf):=fun i j hi hj=>wD hbp (hZ.t i j hi hj) (uI hZ.b zo);have hs4:3*P+3+P≤64:=zo;have szk:=(hP.sz hN.2 hP1 hD hD2 hkN (Nat.le_refl _) hkN (Nat.le_refl _) hkN).1;refine zG ?_;refine sC (atX _ g10 E hkN hkN hN.2 (hTB k k hkN hkN) hbB hb0 (hsz1 k k hkN hkN) (hsS k hkN) hs4) ?_;rintro _ h12 n12 ⟨b12,a12,l12,c12,d12,e12,f12,g12,rfl,i12,j12⟩ y12 x12;rw [hP.at (Nat.le_refl _) hkN (Nat.le_refl _) hkN] at i12 j12;refine sA ?_;intro h13 p13 x13;refine sS [.bool b12,.slice a12 l12 c12,.bool d12,.slice e12 f12 g12] ?_;intro h14 p14 o14;refine zG ?_;refine sC (zd4 _ (E.x zx) hkN hN.2).cx ?_;rintro v h15 n15 hv y15 x15;rcases hv with ⟨i,hi1,hi2,hTi,rfl⟩|⟨hT0,rfl⟩
  ·refine zG ?_;refine sC (zkg _ (i12.t zt) (j12.t zt)) ?_;rintro _ h16 n16 ⟨s16,rfl,q16⟩ y16 x16;rcases q16 with ⟨rfl,q16⟩|⟨rfl,q16⟩|⟨rfl,q16⟩
   ·refine zG ?_;refine zq ?_;exact ⟨_,_,rfl,⟨fun hq=>(by cases hq),fun hq=>absurd hq (hP.i.neg hkN (iL q16))⟩,fun hq=>(by cases hq)⟩
   ·have hak0:a k k=0:=Rat.num_eq_zero.1 q16;refine zG ?_;refine sC (sa _ (i12.t zt) (j12.t zt)) ?_;rintro _ h17 n17 ⟨b17,rfl,bq17⟩ y17 x17;rcases bvs bq17 with ⟨rfl,q17⟩|⟨rfl,_⟩
    ·exact absurd hak0 q17
    refine zG ?_;refine zq ?_;exact ⟨_,_,rfl,⟨fun hq=>(by cases hq),fun hq=>absurd hq (hP.i.found (fun _=>nJ) hkN hak0 hi1 hi2 hTi)⟩,fun hq=>(by cases hq)⟩
   have hak:0<a k k:=lg q16;refine zG ?_;refine sC (sa _ (i12.t zt) (j12.t zt)) ?_;rintro _ h17 n17 ⟨b17,rfl,bq17⟩ y17 x17;rcases bvs bq17 with ⟨rfl,_⟩|⟨rfl,q17⟩
   rotate_left
   ·exact absurd q17 (fun e=>by rw [e] at hak;exact absurd hak zd)
   refine zG ?_;refine zl [0,1,3,7,0,0,48,0,240,0,1023,2047] rfl ?_;refine zH ?_;refine dMu k N zo ?_;refine zH ?_;refine dC (ak _ _ _) ?_;rintro _ h40 n40 ⟨b40,a40,l40,c40,d40,e40,f40,g40,rfl,i40,j40⟩ y40 x40;refine dI (j:=k*N+k) rfl hkk ?_;refine dZn (n0:=n) (j:=k*N+k) [.bool b40,.slice a40 l40 c40,.bool d40,.slice e40 f40 g40] (oL.xx ratP.kp zx) ratP.kp zo (Nat.zero_add _) ⟨_,_,_,_,_,_,_,_,rfl,i40,j40⟩ zo ?_;intro h41 oL41 s41;refine zG ?_;refine zl [0,1,3,7,0,0,63,127] rfl ?_;refine zH ?_;refine dI rfl hkN ?_;have oD41:OR 4 ratP h41 n40 bd ds:=oD.go ratP.kp zt (by
    have e0:h10 bd=h10 bd:=rfl;exact zp)
   refine dZn (n0:=n) (j:=k) [.bool b12,.slice a12 l12 c12,.bool d12,.slice e12 f12 g12] oD41 ratP.kp zo (Nat.zero_add _) ⟨_,_,_,_,_,_,_,_,rfl,i12.t zt,j12.t zt⟩ zo ?_;intro h42 oD42 s42;refine zG ?_;refine sC (sa _ (i12.t zt) (j12.t zt)) ?_;rintro _ h43 n43 ⟨b43,rfl,bq43⟩ y43 x43;have E43:EL h43 n43 b0 bt be bs N k T (tS N a0) bf (.slice (some ⟨bl,0,none⟩) (N*N) (N*N)) (.slice (some ⟨bd,0,none⟩) N N):=E.go zt (fun c hc=>by
    have e0:h10 c=h10 c:=rfl;have hc3:c<3*n10:=by rcases hc with rfl|rfl|rfl|rfl<;>omega
    have hcl:c≠bl∧c≠bd:=by rcases hc with rfl|rfl|rfl|rfl<;>omega
    exact zp)
   have oL43:OR 4 ratP h43 n43 bl (ls.set (k*N+k) 1):=oL41.go ratP.kp zt (by
    have e0:h41 bl=h41 bl:=rfl;exact zp)
   have oD43:OR 4 ratP h43 n43 bd (ds.set k (a k k)):=oD42.xx ratP.kp zx;have sL43:∀q∈ls.set (k*N+k) 1,Sz 60 q:=fun q hq=>by
    rcases List.mem_or_eq_of_mem_set hq with hq|rfl
    ·exact sL q hq
    exact bQ
   have sD43:∀q∈ds.set k (a k k),Sz 60 q:=fun q hq=>by
    rcases List.mem_or_eq_of_mem_set hq with hq|rfl
    ·exact sD q hq
    exact szk.mono zo
   have i43:IW h43 n43 b12 a12 l12 c12 (a k k).num:=i12.t zt;have j43:IW h43 n43 d12 e12 f12 g12 (denZ (a k k)):=j12.t zt;obtain ⟨e43,p43⟩:∃e,h43 (3*n12+2)=some (.row [.bool b12,.slice a12 l12 c12,.bool d12,.slice e12 f12 g12] e):=⟨_,zp⟩;have X43:∀c,c<3*n→h43 c=h c:=fun c hc=>(show h43 c=h10 c by
    have e0:h10 c=h10 c:=rfl;exact zp).trans (X10 c hc)
   rcases bvs bq43 with ⟨rfl,_⟩|⟨rfl,q43⟩
   rotate_left
   ·exact absurd q43 (fun e=>by rw [e] at hak;exact absurd hak zd)
   refine zG ?_;refine sF (α:=Nat×List Rat) (fun z=>[(1,.int .i64 (N:Int)),(4,.pointer none),(5,.bool false),(6,.pointer (some ⟨b0,0,none⟩)),(7,.bool true),(8,.int .i64 (k:Int)),(9,.pointer (some ⟨3*n12+2,0,none⟩)),(12,.int .i64 (z.1:Int)),(28,.int .i64 (N:Int)),(29,.int .i64 (k:Int))])
    (fun z h' n' w'=>w'=[]∧n43≤n'∧ExtB n43 [bl] h43 h'∧Tr n43 h43 n' h'∧OR 4 ratP h' n' bl z.2∧z.2.length=N*N∧(∀q∈z.2,Sz 60 q)∧k+1≤z.1∧z.1≤N) (fun z=>N-z.1) (k+1,ls.set (k*N+k) 1) ⟨rfl,Nat.le_refl _,ExtB.refl _ _ _,Tr.refl _ _,oL43,by rw [List.length_set];exact lL,sL43,Nat.le_refl _,hkN⟩ ?_
   rintro ⟨i,ls2⟩ t h50 n50 _ ⟨rfl,y50,Y50,T50,oL50,lL50,sL50,hi1,hi2⟩;have y50:n43≤n50:=y50;have hi1:k+1≤i:=hi1;have hi2:i≤N:=hi2;have oL50:OR 4 ratP h50 n50 bl ls2:=oL50;have lL50:ls2.length=N*N:=lL50;have sL50:∀q∈ls2,Sz 60 q:=sL50;have T50:Tr n43 h43 n50 h50:=T50;have E50:EL h50 n50 b0 bt be bs N k T (tS N a0) bf (.slice (some ⟨bl,0,none⟩) (N*N) (N*N)) (.slice (some ⟨bd,0,none⟩) N N):=E43.go T50 (fun c hc=>Y50 c (by rcases hc with rfl|rfl|rfl|rfl<;>omega) (by rcases hc with rfl|rfl|rfl|rfl<;>(simp only [List.mem_singleton];omega)));obtain ⟨sb5,ab5,lb5,cb5,ty5,hE5,ib5⟩:=E50.e;have g50:GG h50 n50:=g.ext (fun c hc=>(Y50 c zo (by simp only [List.mem_singleton];omega)).trans (X43 c hc)) zo;have i51:IW h50 n50 b12 a12 l12 c12 (a k k).num:=i43.t T50;have j51:IW h50 n50 d12 e12 f12 g12 (denZ (a k k)):=j43.t T50;have p51:h50 (3*n12+2)=some (.row [.bool b12,.slice a12 l12 c12,.bool d12,.slice e12 f12 g12] _):=(Y50 _ zo (by simp only [List.mem_singleton];omega)).trans (show h43 (3*n12+2)=_ from zp);refine zG ?_;by_cases qi:(i:Int)<(N:Int)
   ·have hiN:i<N:=zo;have hik:=nW hiN;refine zG ?_;refine zl [0,1,3,7,0,0,48,0,240,0,0,0,3584,0,15872,32767,65535] rfl ?_;refine zH ?_;refine dMu i N zo ?_;refine zH ?_;refine dC (atX _ g50 E50 hiN hkN hN.2 (hTB i k hiN hkN) hbB hb0 (hsz1 i k hiN hkN) (hsS i hiN) hs4) ?_;rintro _ h52 n52 ⟨b52,a52,l52,c52,d52,e52,f52,g52,rfl,i52,j52⟩ y52 x52;rw [hP.at zo hiN (Nat.le_refl _) hkN] at i52 j52;refine zH ?_;refine dC (divQ _ (g50.x zx) i52 j52 (i51.t zt) (j51.t zt) ((hP.sz hN.2 hP1 hD hD2 hkN zo hiN (Nat.le_refl _) hkN).2 zo) ((hP.sz hN.2 hP1 hD hD2 hkN (Nat.le_refl _) hkN (Nat.le_refl _) hkN).2 zo) zo) ?_;rintro _ h53 n53 ⟨b53,a53,l53,c53,d53,e53,f53,g53,rfl,i53,j53⟩ y53 x53;refine dI (j:=i*N+k) rfl (show i*N+k<N*N by omega) ?_;refine dZn (n0:=n) (j:=i*N+k) [.bool b53,.slice a53 l53 c53,.bool d53,.slice e53 f53 g53] (oL50.xx ratP.kp zx) ratP.kp zo (Nat.zero_add _) ⟨_,_,_,_,_,_,_,_,rfl,i53,j53⟩ zo ?_;intro h54 o54 s54;refine zG ?_;exact sK (i+1,ls2.set (i*N+k) (a i k/a k k)) ⟨rfl,zo,zy,T50.trans zt,o54,by rw [List.length_set];exact lL50,fun q hq=>(by
     rcases List.mem_or_eq_of_mem_set hq with hq|rfl
     ·exact sL50 q hq
     ·exact (hP.quo hN.2 hP1 hD hD2 hkN hak hi1 hiN).mono zo),zo,by show i+1≤N;omega⟩
   refine zG ?_;refine zu _ R5 (mC _ E50 hkN hN.2 hb0 hbB hTB (ep hZ hPP hN.2)) ?_;rintro _ h55 n55 w55 ⟨y55,x55,T55,E55,hw55⟩;rw [mw,yc (fun c hc=>by rcases hw55 c hc with rfl|rfl<;>omega)];refine zG ?_;have hk55:∀c,c<3*n50→c≠be→c≠b0→h55 c=h50 c:=fun c hc h1 h2=>x55 c hc (by simp only [List.mem_cons,List.not_mem_nil,or_false,not_or];exact ⟨h1,h2⟩);have hbl50:=oL50.1;exact sK (k+1,yq T k bf,T k k,tU a k,ls2,ds.set k (a k k)) ⟨rfl,zo,fun c hc=>(hk55 c zo zo zo).trans ((Y50 c zo (by simp only [List.mem_singleton];omega)).trans (X43 c hc)),E55,hP.step hN.2 hD hkN hak,oL50.go ratP.kp T55 (hk55 bl hbl50 zo zo),oD43.go ratP.kp (T50.trans T55) ((hk55 bd zo zo zo).trans (Y50 bd zo (by simp only [List.mem_singleton];omega))),lL50,by rw [List.length_set];exact lD,sL50,sD43,by show k+1≤N;omega⟩
  refine zG ?_;refine sC (zkg _ (i12.t zt) (j12.t zt)) ?_;rintro _ h16 n16 ⟨s16,rfl,q16⟩ y16 x16;rcases q16 with ⟨rfl,q16⟩|⟨rfl,q16⟩|⟨rfl,q16⟩
  ·refine zG ?_;refine zq ?_;exact ⟨_,_,rfl,⟨fun hq=>(by cases hq),fun hq=>absurd hq (hP.i.neg hkN (iL q16))⟩,fun hq=>(by cases hq)⟩
  ·have hak0:a k k=0:=Rat.num_eq_zero.1 q16;refine zG ?_;refine sC (sa _ (i12.t zt) (j12.t zt)) ?_;rintro _ h17 n17 ⟨b17,rfl,bq17⟩ y17 x17;rcases bvs bq17 with ⟨rfl,q17⟩|⟨rfl,_⟩
   ·exact absurd hak0 q17
   refine zG ?_;refine zl [0,1,3,7,0,0,48,0,240,0,1023,2047] rfl ?_;refine zH ?_;refine dMu k N zo ?_;refine zH ?_;refine dC (ak _ _ _) ?_;rintro _ h40 n40 ⟨b40,a40,l40,c40,d40,e40,f40,g40,rfl,i40,j40⟩ y40 x40;refine dI (j:=k*N+k) rfl hkk ?_;refine dZn (n0:=n) (j:=k*N+k) [.bool b40,.slice a40 l40 c40,.bool d40,.slice e40 f40 g40] (oL.xx ratP.kp zx) ratP.kp zo (Nat.zero_add _) ⟨_,_,_,_,_,_,_,_,rfl,i40,j40⟩ zo ?_;intro h41 oL41 s41;refine zG ?_;refine zl [0,1,3,7,0,0,63,127] rfl ?_;refine zH ?_;refine dI rfl hkN ?_;have oD41:OR 4 ratP h41 n40 bd ds:=oD.go ratP.kp zt (by
    have e0:h10 bd=h10 bd:=rfl;exact zp)
   refine dZn (n0:=n) (j:=k) [.bool b12,.slice a12 l12 c12,.bool d12,.slice e12 f12 g12] oD41 ratP.kp zo (Nat.zero_add _) ⟨_,_,_,_,_,_,_,_,rfl,i12.t zt,j12.t zt⟩ zo ?_;intro h42 oD42 s42;refine zG ?_;refine sC (sa _ (i12.t zt) (j12.t zt)) ?_;rintro _ h43 n43 ⟨b43,rfl,bq43⟩ y43 x43;have E43:EL h43 n43 b0 bt be bs N k T (tS N a0) bf (.slice (some ⟨bl,0,none⟩) (N*N) (N*N)) (.slice (some ⟨bd,0,none⟩) N N):=E.go zt (fun c hc=>by
    have e0:h10 c=h10 c:=rfl;have hc3:c<3*n10:=by rcases hc with rfl|rfl|rfl|rfl<;>omega
    have hcl:c≠bl∧c≠bd:=by rcases hc with rfl|rfl|rfl|rfl<;>omega
    exact zp)
   have oL43:OR 4 ratP h43 n43 bl (ls.set (k*N+k) 1):=oL41.go ratP.kp zt (by
    have e0:h41 bl=h41 bl:=rfl;exact zp)
   have oD43:OR 4 ratP h43 n43 bd (ds.set k (a k k)):=oD42.xx ratP.kp zx;have sL43:∀q∈ls.set (k*N+k) 1,Sz 60 q:=fun q hq=>by
    rcases List.mem_or_eq_of_mem_set hq with hq|rfl
    ·exact sL q hq
    exact bQ
   have sD43:∀q∈ds.set k (a k k),Sz 60 q:=fun q hq=>by
    rcases List.mem_or_eq_of_mem_set hq with hq|rfl
    ·exact sD q hq
    exact szk.mono zo
   have i43:IW h43 n43 b12 a12 l12 c12 (a k k).num:=i12.t zt;have j43:IW h43 n43 d12 e12 f12 g12 (denZ (a k k)):=j12.t zt;obtain ⟨e43,p43⟩:∃e,h43 (3*n12+2)=some (.row [.bool b12,.slice a12 l12 c12,.bool d12,.slice e12 f12 g12] e):=⟨_,zp⟩;have X43:∀c,c<3*n→h43 c=h c:=fun c hc=>(show h43 c=h10 c by
    have e0:h10 c=h10 c:=rfl;exact zp).trans (X10 c hc)
   rcases bvs bq43 with ⟨rfl,q43⟩|⟨rfl,_⟩
   ·exact absurd hak0 q43
   obtain ⟨sb5,ab5,lb5,cb5,ty5,hE5,ib5⟩:=E43.e;refine zG ?_;refine sSn (n0:=n) [.int .i64 (N:Int),.int .i64 ((k+1:Nat):Int),.pointer (some ⟨bt,0,none⟩),.bool sb5,.slice ab5 lb5 cb5,.slice (some ⟨bl,0,none⟩) (N*N) (N*N),.slice (some ⟨bd,0,none⟩) N N] ?_;intro h44 p44 o44;refine zG ?_;have hbe5:=E43.z.1;have hbs5:=E43.s.1;obtain ⟨ty6,hT6⟩:=E43.t;have E44:EL h44 n43 b0 bt be bs N (k+1) T (tS N a0) bf (.slice (some ⟨bl,0,none⟩) (N*N) (N*N)) (.slice (some ⟨bd,0,none⟩) N N):=⟨⟨_,_,_,_,_,p44,ib5.t zt⟩,⟨_,(o44.1 bt zo).trans hT6⟩,E43.z.go intP.kp zt (o44.1 be zo),E43.s.go ratP.kp zt (o44.1 bs zo),zo,⟨rfl,rfl⟩⟩;exact sK (k+1,T,bf,a,ls.set (k*N+k) 1,ds.set k (a k k)) ⟨rfl,zo,fun c hc=>(o44.1 c zo).trans (X43 c hc),E44,hP.skip hD hkN hak0 hT0,oL43.go ratP.kp zt (o44.1 bl zo),oD43.go ratP.kp zt (o44.1 bd zo),by rw [List.length_set];exact lL,by rw [List.length_set];exact lD,sL43,sD43,by show k+1≤N;omega⟩
  have hak:0<a k k:=lg q16;refine zG ?_;refine sC (sa _ (i12.t zt) (j12.t zt)) ?_;rintro _ h17 n17 ⟨b17,rfl,bq17⟩ y17 x17;rcases bvs bq17 with ⟨rfl,_⟩|⟨rfl,q17⟩
  rotate_left
  ·exact absurd q17 (fun e=>by rw [e] at hak;exact absurd hak zd)
  refine zG ?_;refine zl [0,1,3,7,0,0,48,0,240,0,1023,2047] rfl ?_;refine zH ?_;refine dMu k N zo ?_;refine zH ?_;refine dC (ak _ _ _) ?_;rintro _ h40 n40 ⟨b40,a40,l40,c40,d40,e40,f40,g40,rfl,i40,j40⟩ y40 x40;refine dI (j:=k*N+k) rfl hkk ?_;refine dZn (n0:=n) (j:=k*N+k) [.bool b40,.slice a40 l40 c40,.bool d40,.slice e40 f40 g40] (oL.xx ratP.kp zx) ratP.kp zo (Nat.zero_add _) ⟨_,_,_,_,_,_,_,_,rfl,i40,j40⟩ zo ?_;intro h41 oL41 s41;refine zG ?_;refine zl [0,1,3,7,0,0,63,127] rfl ?_;refine zH ?_;refine dI rfl hkN ?_;have oD41:OR 4 ratP h41 n40 bd ds:=oD.go ratP.kp zt (by
   have e0:h10 bd=h10 bd:=rfl;exact zp)
  refine dZn (n0:=n) (j:=k) [.bool b12,.slice a12 l12 c12,.bool d12,.slice e12 f12 g12] oD41 ratP.kp zo (Nat.zero_add _) ⟨_,_,_,_,_,_,_,_,rfl,i12.t zt,j12.t zt⟩ zo ?_;intro h42 oD42 s42;refine zG ?_;refine sC (sa _ (i12.t zt) (j12.t zt)) ?_;rintro _ h43 n43 ⟨b43,rfl,bq43⟩ y43 x43;have E43:EL h43 n43 b0 bt be bs N k T (tS N a0) bf (.slice (some ⟨bl,0,none⟩) (N*N) (N*N)) (.slice (some ⟨bd,0,none⟩) N N):=E.go zt (fun c hc=>by
   have e0:h10 c=h10 c:=rfl;have hc3:c<3*n10:=by rcases hc with rfl|rfl|rfl|rfl<;>omega
   have hcl:c≠bl∧c≠bd:=by rcases hc with rfl|rfl|rfl|rfl<;>omega
   exact zp)
  have oL43:OR 4 ratP h43 n43 bl (ls.set (k*N+k) 1):=oL41.go ratP.kp zt (by
   have e0:h41 bl=h41 bl:=rfl;exact zp)
  have oD43:OR 4 ratP h43 n43 bd (ds.set k (a k k)):=oD42.xx ratP.kp zx;have sL43:∀q∈ls.set (k*N+k) 1,Sz 60 q:=fun q hq=>by
   rcases List.mem_or_eq_of_mem_set hq with hq|rfl
   ·exact sL q hq
   exact bQ
  have sD43:∀q∈ds.set k (a k k),Sz 60 q:=fun q hq=>by
   rcases List.mem_or_eq_of_mem_set hq with hq|rfl
   ·exact sD q hq
   exact szk.mono zo
  have i43:IW h43 n43 b12 a12 l12 c12 (a k k).num:=i12.t zt;have j43:IW h43 n43 d12 e12 f12 g12 (denZ (a k k)):=j12.t zt;obtain ⟨e43,p43⟩:∃e,h43 (3*n12+2)=some (.row [.bool b12,.slice a12 l12 c12,.bool d12,.slice e12 f12 g12] e):=⟨_,zp⟩;have X43:∀c,c<3*n→h43 c=h c:=fun c hc=>(show h43 c=h10 c by
   have e0:h10 c=h10 c:=rfl;exact zp).trans (X10 c hc)
  rcases bvs bq43 with ⟨rfl,_⟩|⟨rfl,q43⟩
  rotate_left
  ·exact absurd q43 (fun e=>by rw [e] at hak;exact absurd hak zd)
  refine zG ?_;refine sF (α:=Nat×List Rat) (fun z=>[(1,.int .i64 (N:Int)),(4,.pointer none),(5,.bool false),(6,.pointer (some ⟨b0,0,none⟩)),(7,.bool true),(8,.int .i64 (k:Int)),(9,.pointer (some ⟨3*n12+2,0,none⟩)),(12,.int .i64 (z.1:Int)),(28,.int .i64 (N:Int)),(29,.int .i64 (k:Int))])
   (fun z h' n' w'=>w'=[]∧n43≤n'∧ExtB n43 [bl] h43 h'∧Tr n43 h43 n' h'∧OR 4 ratP h' n' bl z.2∧z.2.length=N*N∧(∀q∈z.2,Sz 60 q)∧k+1≤z.1∧z.1≤N) (fun z=>N-z.1) (k+1,ls.set (k*N+k) 1) ⟨rfl,Nat.le_refl _,ExtB.refl _ _ _,Tr.refl _ _,oL43,by rw [List.length_set];exact lL,sL43,Nat.le_refl _,hkN⟩ ?_
  rintro ⟨i,ls2⟩ t h50 n50 _ ⟨rfl,y50,Y50,T50,oL50,lL50,sL50,hi1,hi2⟩;have y50:n43≤n50:=y50;have hi1:k+1≤i:=hi1;have hi2:i≤N:=hi2;have oL50:OR 4 ratP h50 n50 bl ls2:=oL50;have lL50:ls2.length=N*N:=lL50;have sL50:∀q∈ls2,Sz 60 q:=sL50;have T50:Tr n43 h43 n50 h50:=T50;have E50:EL h50 n50 b0 bt be bs N k T (tS N a0) bf (.slice (some ⟨bl,0,none⟩) (N*N) (N*N)) (.slice (some ⟨bd,0,none⟩) N N):=E43.go T50 (fun c hc=>Y50 c (by rcases hc with rfl|rfl|rfl|rfl<;>omega) (by rcases hc with rfl|rfl|rfl|rfl<;>(simp only [List.mem_singleton];omega)));obtain ⟨sb5,ab5,lb5,cb5,ty5,hE5,ib5⟩:=E50.e;have g50:GG h50 n50:=g.ext (fun c hc=>(Y50 c zo (by simp only [List.mem_singleton];omega)).trans (X43 c hc)) zo;have i51:IW h50 n50 b12 a12 l12 c12 (a k k).num:=i43.t T50;have j51:IW h50 n50 d12 e12 f12 g12 (denZ (a k k)):=j43.t T50;have p51:h50 (3*n12+2)=some (.row [.bool b12,.slice a12 l12 c12,.bool d12,.slice e12 f12 g12] _):=(Y50 _ zo (by simp only [List.mem_singleton];omega)).trans (show h43 (3*n12+2)=_ from zp);refine zG ?_;by_cases qi:(i:Int)<(N:Int)
  ·have hiN:i<N:=zo;have hik:=nW hiN;refine zG ?_;refine zl [0,1,3,7,0,0,48,0,240,0,0,0,3584,0,15872,32767,65535] rfl ?_;refine zH ?_;refine dMu i N zo ?_;refine zH ?_;refine dC (atX _ g50 E50 hiN hkN hN.2 (hTB i k hiN hkN) hbB hb0 (hsz1 i k hiN hkN) (hsS i hiN) hs4) ?_;rintro _ h52 n52 ⟨b52,a52,l52,c52,d52,e52,f52,g52,rfl,i52,j52⟩ y52 x52;rw [hP.at zo hiN (Nat.le_refl _) hkN] at i52 j52;refine zH ?_;refine dC (divQ _ (g50.x zx) i52 j52 (i51.t zt) (j51.t zt) ((hP.sz hN.2 hP1 hD hD2 hkN zo hiN (Nat.le_refl _) hkN).2 zo) ((hP.sz hN.2 hP1 hD hD2 hkN (Nat.le_refl _) hkN (Nat.le_refl _) hkN).2 zo) zo) ?_;rintro _ h53 n53 ⟨b53,a53,l53,c53,d53,e53,f53,g53,rfl,i53,j53⟩ y53 x53;refine dI (j:=i*N+k) rfl (show i*N+k<N*N by omega) ?_;refine dZn (n0:=n) (j:=i*N+k) [.bool b53,.slice a53 l53 c53,.bool d53,.slice e53 f53 g53] (oL50.xx ratP.kp zx) ratP.kp zo (Nat.zero_add _) ⟨_,_,_,_,_,_,_,_,rfl,i53,j53⟩ zo ?_;intro h54 o54 s54;refine zG ?_;exact sK (i+1,ls2.set (i*N+k) (a i k/a k k)) ⟨rfl,zo,zy,T50.trans zt,o54,by rw [List.length_set];exact lL50,fun q hq=>(by
    rcases List.mem_or_eq_of_mem_set hq with hq|rfl
    ·exact sL50 q hq
    ·exact (hP.quo hN.2 hP1 hD hD2 hkN hak hi1 hiN).mono zo),zo,by show i+1≤N;omega⟩
  refine zG ?_;refine zu _ R5 (mC _ E50 hkN hN.2 hb0 hbB hTB (ep hZ hPP hN.2)) ?_;rintro _ h55 n55 w55 ⟨y55,x55,T55,E55,hw55⟩;rw [mw,yc (fun c hc=>by rcases hw55 c hc with rfl|rfl<;>omega)];refine zG ?_;have hk55:∀c,c<3*n50→c≠be→c≠b0→h55 c=h50 c:=fun c hc h1 h2=>x55 c hc (by simp only [List.mem_cons,List.not_mem_nil,or_false,not_or];exact ⟨h1,h2⟩);have hbl50:=oL50.1;exact sK (k+1,yq T k bf,T k k,tU a k,ls2,ds.set k (a k k)) ⟨rfl,zo,fun c hc=>(hk55 c zo zo zo).trans ((Y50 c zo (by simp only [List.mem_singleton];omega)).trans (X43 c hc)),E55,hP.step hN.2 hD hkN hak,oL50.go ratP.kp T55 (hk55 bl hbl50 zo zo),oD43.go ratP.kp (T50.trans T55) ((hk55 bd zo zo zo).trans (Y50 bd zo (by simp only [List.mem_singleton];omega))),lL50,by rw [List.length_set];exact lD,sL50,sD43,by show k+1≤N;omega⟩
 have hkN:k=N:=zo;refine zG ?_;refine zq ?_;exact ⟨_,_,rfl,⟨fun _=>hP.i.done hkN,fun _=>rfl⟩,fun _=>⟨bl,bd,ls,ds,_,_,_,_,_,_,hE3,zo,o2,oL,oD,lL,lD,sL,sD⟩⟩
end
end
section
end
def inB (x:Rat)(lo hi:List UInt8):Prop:=(lo=[]∨z0 lo≤x)∧(hi=[]∨x≤z0 hi)
def ao (m:Rat)(lo hi:List UInt8):Prop:=(0<m.num→lo≠[])∧(m.num<0→hi≠[])
def hS {α β:Type}(R:α→β→Prop)(ds:List α)(xs:List β):Prop:=∀(j:Nat) d q,ds[j]?=some d→xs[j]?=some q→R d q
def hT {α β:Type}(R:α→β→Prop)(ds:List α)(xs:List β)(j:Nat):Prop:=∀i,i<j→∀d q,ds[i]?=some d→xs[i]?=some q→R d q
section
variable {α β:Type}{R:α→β→Prop}{ds:List α}{ms:List β}{j:Nat}{d:α}{m:β}
end
abbrev okS (ds:List SideD)(ms:List Rat):Prop:=hS (fun d m=>ao m d.lo d.hi) ds ms
abbrev okT (ds:List SideD)(ms:List Rat)(j:Nat):Prop:=hT (fun d m=>ao m d.lo d.hi) ds ms j
abbrev inS (ds:List SideD)(xs:List Rat):Prop:=hS (fun d q=>inB q d.lo d.hi) ds xs
abbrev inT (ds:List SideD)(xs:List Rat)(j:Nat):Prop:=hT (fun d q=>inB q d.lo d.hi) ds xs j
def rowH (P:Rat→List UInt8→List UInt8→Prop)(xs:List Rat)(d:SideD):Prop:=P (dotR d.A (xs.take d.A.length)) d.lo d.hi
abbrev rowIn (xs:List Rat)(d:SideD):Prop:=rowH inB xs d
noncomputable def colQ (rs:List SideD)(ms:List Rat)(c:Rat)(j:Nat):Nat→Rat
 |0=>c
 |i+1=>colQ rs ms c j i+((rs[i]?.bind fun d=>d.A[j]?).getD 0)*ms[i]?.getD 0
noncomputable def zms (rs:List SideD)(ms cs:List Rat)(i j:Nat):List Rat:=cs.mapIdx fun k c=>colQ rs ms c k (if k<j then i+1 else i)
section
variable {rs:List SideD}{ms cs:List Rat}{i j:Nat}
end
section
variable {X:CtxF}{ops r:List Oper}{ms:List Nat}{i m:Nat}{t:TF}{h:HF}{n:Nat}{w:List Nat}{al ld:List (Nat×Nat)}{ef:List (Nat×HF×List Nat)}{Q:SV→Prop}{o:Oper}{d:Tmp}
end
section
end
section
end
section
end
section
end
section
end
section
end
section
open Classical in
open Classical in
open Classical in
section
variable {p:LPD}{S R C:List (List UInt8)}
open Classical in
open Classical in
end
end
section
structure SR (s:List UInt8)(x y:Int):Prop where
 e1:x=(z0 s).num
 e2:y=((z0 s).den:Int)
 b1: -1000000000<x∧x<1000000000
 b2:0<y∧y<1000000000
theorem mul9 {a b:Int}(ha: -1000000000<a∧a<1000000000)(hb: -1000000000<b∧b<1000000000): -1000000000000000000≤a*b∧a*b≤1000000000000000000:=by
 have h:(a*b).natAbs≤1000000000*1000000000:=by
  rw [Int.natAbs_mul];exact Nat.mul_le_mul zo zo
 omega
theorem zid {a b:Int}(ha:0<a∧a<1000000000)(hb:0<b∧b<1000000000):0<a*b∧a*b≤1000000000000000000:=⟨Int.mul_pos ha.1 hb.1,(mul9 ⟨zo,ha.2⟩ ⟨zo,hb.2⟩).2⟩
theorem oG (k:Nat){h:HF}{n:Nat}(g:GG h n){N D:Int}(hN: -9000000000000000000≤N∧N≤9000000000000000000)(hD:0<D∧D≤9000000000000000000):CX (cal (k+6)) 86 [.int .i64 N,.int .i64 D] h n fun v _ _=>v=.string ⟨⟨ratT (Rat.divInt N D)⟩⟩:=by
 obtain ⟨d,rfl⟩:∃d:Nat,D=(d:Int):=⟨D.toNat,zo⟩;exact (gh k g.1 g.2 hN ⟨zo,zo⟩).cx
theorem SR.add {a b:List UInt8}{x y u v:Int}(p:SR a x y)(q:SR b u v):Rat.divInt (x*v+u*y) (y*v)=z0 a+z0 b:=by
 rw [p.e1,p.e2,q.e1,q.e2,Rat.add_def',←Rat.divInt_ofNat,Int.natCast_mul]
theorem SR.mul {a b:List UInt8}{x y u v:Int}(p:SR a x y)(q:SR b u v):Rat.divInt (x*u) (y*v)=z0 a*z0 b:=by
 rw [p.e1,p.e2,q.e1,q.e2,Rat.mul_def',←Rat.divInt_ofNat,Int.natCast_mul]
end
section
theorem strs_len1 (l:List (List UInt8)):(strs l).length=l.length*1:=by simp [strs]
theorem ones_strs (l:List (List UInt8)):ones (strs l)=true:=by
 induction l with
 |nil=>rfl
 |cons e l ih=>exact ih
end
section
end
section
end
section
end
section
def zme (r:RowD):Prop:=r.A.length≤7∧(∀s∈r.A,(s.length:Int)≤8)∧∀s∈[r.lo,r.hi],(s.length:Int)≤8
structure SmlP (p:LPD):Prop where
 n1:p.obj.length≤5
 n2:p.rows.length≤6
 n3:p.lower.length≤7
 n4:p.upper.length≤7
 ob:∀s∈p.obj,(s.length:Int)≤8
 lw:∀s∈p.lower,(s.length:Int)≤8
 up:∀s∈p.upper,(s.length:Int)≤8
 rw:∀r∈p.rows,zme r
section
variable {X:CtxF}{ops r:List Oper}{t:TF}{h:HF}{n:Nat}{w:List Nat}{Q:SV→Prop}{o:Oper}{d:Tmp}
end
section
variable {X:CtxF}{ops r:List Oper}{ms:List Nat}{i m:Nat}{t:TF}{h:HF}{n:Nat}{w:List Nat}{al ld:List (Nat×Nat)}{ef:List (Nat×HF×List Nat)}{Q:SV→Prop}{o:Oper}{d:Tmp}
end
end
section
section
variable {x y:Rat}{p q r:Nat}
theorem zX (x:Rat):z0 (ratT x)=x:=rp rfl
end
noncomputable def cq (p:LPD)(R C:List (List UInt8))(j i:Nat):Rat:=colQ (zhv p) (R.map z0) (((C.map z0)[j]?).getD 0) j i
noncomputable def sq (p:LPD)(R C X:List (List UInt8))(j:Nat):Rat:=dotR ((zms (zhv p) (R.map z0) (C.map z0) (zhv p).length 0).take j) ((X.map z0).take j)
section
variable {p:LPD}{R C X:List (List UInt8)}{i j:Nat}
theorem rY:ratT 0=[48]:=rfl
end
end
section
variable {q:Rat}{B D L cap n':Nat}{s:List UInt8}{h':HF}{v:Value}
theorem wp (h:Sz 8 q):(ratT q).length<11:=by
 have key:∀V,V<2^8→(decT V).length≤3:=fun V hV=>by
  unfold decT;split
  ·decide
  rw [List.length_map,ke];exact wc 3 V (Nat.lt_of_lt_of_le hV (by decide+kernel))
 have h1:=key _ h.1;have h2:=key _ h.2;unfold Go.Proofs.YtfajmfoofmienaaGreatDoor.ratT;simp only [List.length_append];split<;>split<;>simp<;>omega
theorem zki (k:Nat)(h:HF)(n:Nat){N:Nat}{a:Option Addr}{c:Nat}(hN:1≤N∧N≤3):VF (cal (k+1)) 200 [.agg #[.int .i64 (N:Int),.int .i64 (N:Int),.slice a (N*N) c]] h n fun v=>v=.bool true:=by
 have h9:=sq9 hN.2;refine zw (fn:=Tryz.f200) R4 ?_;refine zG ?_;refine sB [.int .i64 (N:Int),.int .i64 (N:Int),.slice a (N*N) c] ?_;intro h1 p1 x1;refine zG ?_;refine sMu N N zo ?_;refine zG ?_;refine zf ?_;rfl
theorem gR {N:Nat}{a:Nat→Nat→Rat}:((tabL N a).map ratT).map z0=tabL N a:=by
 rw [List.map_map,show z0 ∘ ratT=id from funext zX,List.map_id]
theorem FN.den {x:Rat}(h:FN D B x):x.den∣D:=by
 obtain ⟨z,hz,_⟩:=h;have h1:x.num*(D:Int)=z*(x.den:Int):=by
  apply Rat.intCast_inj.1;rw [Rat.intCast_mul,Rat.intCast_mul,←hz,←te x,Rat.intCast_natCast,Rat.intCast_natCast,Rat.mul_assoc,Rat.mul_assoc,Rat.mul_comm (x.den:Rat)]
 have h2:x.num.natAbs*D=z.natAbs*x.den:=by
  have:=congrArg Int.natAbs h1;rwa [Int.natAbs_mul,Int.natAbs_mul,Int.natAbs_natCast,Int.natAbs_natCast] at this
 exact (Nat.Coprime.symm x.reduced).dvd_of_dvd_mul_left ⟨z.natAbs,by rw [h2,Nat.mul_comm]⟩
theorem FN.sz {P:Nat}(h:FN D B q)(hD:0<D)(hD2:D<2^P)(hB2:B<2^P):Sz P q:=by
 obtain ⟨z,hz,hzb⟩:=h;have hd':((D:Int):Rat)≠0:=na hD;have e:q=Rat.divInt z D:=by
  rw [Rat.divInt_eq_div,Rat.div_def,←hz,←Rat.intCast_natCast,Rat.mul_assoc,Rat.mul_inv_cancel _ hd',Rat.mul_one]
 rw [e];exact wD zo (Nat.lt_of_le_of_lt hzb hB2) (by rw [Int.natAbs_natCast];exact hD2)
section
variable {N P:Nat}{a:Nat→Nat→Rat}{h:HF}{n:Nat}{aE:Option Addr}{cE:Nat}
theorem gU (hs:s∈(tabL N a).map ratT):∃i j,i<N∧j<N∧s=ratT (a i j):=by
 obtain ⟨q,hq,rfl⟩:=List.mem_map.1 hs;obtain ⟨m,hm,rfl⟩:=List.mem_map.1 hq;have hm:=List.mem_range.1 hm;have hN:0<N:=by
  rcases Nat.eq_zero_or_pos N with rfl|h
  ·simp at hm
  exact h
 exact ⟨_,_,Nat.div_lt_of_lt_mul hm,Nat.mod_lt _ hN,rfl⟩
theorem zko (k:Nat)(g:GG h n)(hN:1≤N∧N≤3)(s:Sl h n 1 (.slice aE (N*N) cE) (strs ((tabL N a).map ratT)))(hP:∀i j,i<N→j<N→Sz P (a i j))(hP2:P≤4):
  CX (cal (k+11)) 162 [.agg #[.int .i64 (N:Int),.int .i64 (N:Int),.slice aE (N*N) cE]] h n fun v h' n'=>∃a' l' c',v=.tuple #[.slice a' l' c',.bool true]∧QSL n h' n' (.slice a' l' c') (tabL N a):=by
 refine zk (fn:=Tryz.f162) R4 ?_;refine zG ?_;refine sB [.int .i64 (N:Int),.int .i64 (N:Int),.slice aE (N*N) cE] ?_;intro h1 p1 x1;refine zG ?_;refine sC (zki _ _ _ hN).cx ?_;rintro _ h2 n2 rfl y2 x2;refine zG ?_;have s2:Sl h2 n2 1 (.slice aE (N*N) cE) (strs ((tabL N a).map ratT)):=s.ext (zx:Tx n h n2 h2).2 zo;refine sC (zd1 _ (g.x zx) s2 (fun s hs=>by
  obtain ⟨i,j,hi,hj,rfl⟩:=gU hs;exact Nat.lt_of_lt_of_le (wp ((hP i j hi hj).mono zo)) zd) (by rw [List.length_map,yO];have:=sq9 hN.2;omega)) ?_
 rintro _ h3 n3 ⟨a',l',c',ok,rfl,hok,hq⟩ y3 x3;have ht:ok=true:=hok.2 (fun s hs=>by
  obtain ⟨q,_,rfl⟩:=List.mem_map.1 hs;exact ⟨q,rfl⟩)
 subst ht;have hq:=hq rfl;rw [gR] at hq;refine zG ?_;refine zq ?_;exact ⟨_,_,_,rfl,hq.1,fun ad len cap e=>by have:=hq.2 ad len cap e;exact ⟨zo,this.2⟩⟩
theorem fH (k:Nat)(g:GG h n)(hN:1≤N∧N≤3)(s:Sl h n 1 (.slice aE (N*N) cE) (strs ((tabL N a).map ratT)))(hP:∀i j,i<N→j<N→Sz P (a i j))(hP2:P≤4)(hs:∀i j,i<N→j<N→a i j=a j i):
  CX (cal (k+12)) 138 [.agg #[.int .i64 (N:Int),.int .i64 (N:Int),.slice aE (N*N) cE]] h n fun v h' n'=>∃a' l' c',v=.tuple #[.slice a' l' c',.int .i64 0]∧QSL n h' n' (.slice a' l' c') (tabL N a):=by
 have h9:=sq9 hN.2;refine zk (fn:=Tryz.f138) R4 ?_;refine zG ?_;refine sB [.int .i64 (N:Int),.int .i64 (N:Int),.slice aE (N*N) cE] ?_;intro h1 p1 x1;refine zG ?_;refine sC (zko _ (g.x zx) hN (s.ext (zx:Tx n h _ h1).2 zo) hP hP2) ?_;rintro _ h2 n2 ⟨a2,l2,c2,rfl,q2⟩ y2 x2;refine zG ?_;have s2:Sl h2 n2 1 (.slice aE (N*N) cE) (strs ((tabL N a).map ratT)):=s.ext (zx:Tx n h n2 h2).2 zo;refine sF (α:=Nat) (fun z=>[(1,.pointer (some ⟨3*n+2,0,none⟩)),(4,.slice a2 l2 c2),(21,.int .i64 (N:Int)),(22,.int .i64 (z:Int))])
  (fun z h' n' w'=>w'=[]∧h2=h'∧n2=n'∧z≤N) (fun z=>N-z) 0 ⟨rfl,rfl,rfl,Nat.zero_le _⟩ ?_
 rintro i t _ _ _ ⟨rfl,rfl,rfl,hi⟩;have hi:i≤N:=hi;refine zG ?_;by_cases qi:(i:Int)<(N:Int)
 ·have hiN:i<N:=zo;refine zG ?_;refine sF (α:=Nat) (fun z=>[(1,.pointer (some ⟨3*n+2,0,none⟩)),(4,.slice a2 l2 c2),(6,.int .i64 (i:Int)),(21,.int .i64 (N:Int)),(22,.int .i64 (i:Int)),(25,.int .i64 (i:Int)),(26,.int .i64 (z:Int))])
   (fun z h' n' w'=>w'=[]∧h2=h'∧n2=n'∧z≤i) (fun z=>i-z) 0 ⟨rfl,rfl,rfl,Nat.zero_le _⟩ ?_
  rintro j t _ _ _ ⟨rfl,rfl,rfl,hj⟩;have hj:j≤i:=hj;refine zG ?_;by_cases qj:(j:Int)<(i:Int)
  ·have hjN:j<N:=zo;have e1:=tK hiN hjN;have e2:=tK hjN hiN;obtain ⟨b3,o3,e3,m3,r3,t3⟩:=xp (s:=ratT (a i j)) s2 (by rw [List.getElem?_map,wo hiN hjN];rfl);obtain ⟨b4,o4,e4,m4,r4,t4⟩:=xp (s:=ratT (a i j)) s2 (j:=j*N+i) (by rw [List.getElem?_map,wo hjN hiN,hs j i hjN hiN];rfl);refine zG ?_;refine zl [0,1,0,0,8,28,0,124,255,511,0,1024,0,0,8192,28672,0,126976,261120,523264,1048575] rfl ?_;refine zH ?_;refine dMu i N zo ?_;refine zH ?_;refine dI (j:=i*N+j) e3 e1 ?_;refine dL t3 m3 0 ?_;refine zH ?_;refine dMu j N zo ?_;refine zH ?_;refine dI (j:=j*N+i) e4 e2 ?_;refine dL t4 m4 0 ?_;refine dQn true (beq_self_eq_true _) ?_;refine zH ?_;refine zG ?_;exact sK (j+1) ⟨rfl,rfl,rfl,by show j+1≤i;omega⟩
  refine zG ?_;exact sK (i+1) ⟨rfl,rfl,rfl,by show i+1≤N;omega⟩
 refine zG ?_;refine zq ?_;exact ⟨_,_,_,rfl,q2.1,fun ad len cap e=>by have:=q2.2 ad len cap e;exact ⟨zo,this.2⟩⟩
theorem zi1 (k:Nat)(g:GG h n)(hN:1≤N∧N≤3)(s:Sl h n 1 (.slice aE (N*N) cE) (strs ((tabL N a).map ratT)))(hs:∀i j,i<N→j<N→a i j=a j i)(hP1:1≤P)(hPP:P≤4)(hD:0<D)(hD2:D<2^P)(hd:∀i j,i<N→j<N→(a i j).den∣D)(hB:∀i j,i<N→j<N→FN D B (a i j))(hB1:1≤B)(hB2:B<2^P):
  CX (cal (k+16)) 93 [.agg #[.int .i64 (N:Int),.int .i64 (N:Int),.slice aE (N*N) cE]] h n fun v _ _=>∃x1 x2 x3 x4 x5 x6 x7 x8 ok,v=.tuple #[.agg #[.int .i64 x1,.int .i64 x2,.slice x3 x4 x5,.slice x6 x7 x8],.bool ok,.int .i64 0]∧(ok=true↔psdA N N 0 a):=by
 have h9:=sq9 hN.2;have h1N:1≤N*N:=Nat.mul_pos hN.1 hN.1;have hz:∀i j,i<N→j<N→Sz P (a i j):=fun i j hi hj=>FN.sz (hB i j hi hj) hD hD2 hB2;refine zk (fn:=Tryz.f93) R4 ?_;refine zG ?_;refine sB [.int .i64 (N:Int),.int .i64 (N:Int),.slice aE (N*N) cE] ?_;intro h1 p1 x1;refine sA ?_;intro h2 p2 x2;refine zG ?_;refine sC (fH _ (g.x zx) hN (s.ext (zx:Tx n h _ h2).2 zo) hz hPP hs) ?_;rintro _ h3 n3 ⟨a3,l3,c3,rfl,q3⟩ y3 x3;have l3e:=q3.1.len;rw [yO] at l3e;subst l3e;obtain ⟨cells,sl,rc⟩:=q3.1;obtain ⟨b3,o3,xb,cs,rfl,hb3,hx3,hc3,hcap3,hle3,he3⟩:=sl.inv zo;have hg3:=(q3.2 _ _ _ rfl).2;refine zG ?_;refine sC (zi3 _ (g.x zx) ((q3.1.ext (Ext.refl _ _) (Nat.le_refl _)).ext (zx:Tx n3 h3 _ _).2 zo) hg3 hcap3 hN hP1 zo hD hD2 hd hB hB1 hB2) ?_;rintro _ h4 n4 ⟨b0,ok,rfl,hok,hfac⟩ y4 x4;cases ok with
 |false=>
  refine zG ?_;refine sT #[.int .i64 0,.int .i64 0,.slice none 0 0,.slice none 0 0] ?_;refine zG ?_;refine sS [.int .i64 0,.int .i64 0,.slice none 0 0,.slice none 0 0] ?_;intro h5 p5 o5;refine zG ?_;refine zq ?_;exact ⟨_,_,_,_,_,_,_,_,_,rfl,hok⟩
 |true=>
  obtain ⟨bl,bd,ls,ds,z1,z2,z3,z4,z5,ty,hE,hb0,hn0,oL,oD,lL,lD,sL,sD⟩:=hfac rfl;refine zG ?_;refine zl [0,1,0,4,0,16,48,112,240,511,0,2047] rfl ?_;refine zH ?_;refine dC (gX _ (g.x zx) ((OR.sl oL lL.symm (Nat.le_refl _)).ext' ratP.stay (zx:Tx n4 h4 _ _).2 zo) zo sL zo) ?_;rintro _ h5 n5 ⟨b5,ss5,rfl,o5,t5,l5⟩ y5 x5;refine dT #[.int .i64 (N:Int),.int .i64 (N:Int),.slice (some ⟨b5,0,none⟩) (N*N) (N*N)] ?_;refine zH ?_;refine dB [.int .i64 0,.int .i64 0,.slice none 0 0] ?_;intro h6 p6 x6;refine dS [.int .i64 (N:Int),.int .i64 (N:Int),.slice (some ⟨b5,0,none⟩) (N*N) (N*N)] ?_;intro h7 p7 o7;refine zG ?_;refine zl [0,0,2,6,14,30,63,127,255,511] rfl ?_;refine zH ?_;refine dC (gX _ (g.x zx) ((OR.sl oD lD.symm (Nat.le_refl _)).ext' ratP.stay (zx:Tx n4 h4 _ _).2 zo) zo sD zo) ?_;rintro _ h8 n8 ⟨b8,ss8,rfl,o8,t8,l8⟩ y8 x8;refine dT #[.int .i64 (N:Int),.int .i64 (N:Int),.slice (some ⟨b5,0,none⟩) (N*N) (N*N),.slice (some ⟨b8,0,none⟩) N N] ?_;refine zH ?_;refine dS [.int .i64 (N:Int),.int .i64 (N:Int),.slice (some ⟨b5,0,none⟩) (N*N) (N*N),.slice (some ⟨b8,0,none⟩) N N] ?_;intro h9 p9 o9;refine zG ?_;refine zq ?_;exact ⟨_,_,_,_,_,_,_,_,_,rfl,hok⟩
end
structure MD where
 n:Nat
 a:Option Addr
 c:Nat
def mdP (c:List Value)(d:MD)(_:HF)(_:Nat):Prop:=c=[.int .i64 (d.n:Int),.int .i64 (d.n:Int),.slice d.a (d.n*d.n) d.c]
theorem mdP.stay:Stay mdP:=⟨fun _ _ _ _ _ _ e _ _=>e⟩
theorem mdP.kp:KP 3 mdP:=⟨fun e _=>e,fun e=>by cases e;exact ⟨rfl,rfl,rfl⟩⟩
structure MS (h:HF)(n:Nat)(v:Value)(ds:List MD)(M:Nat→Nat→Nat→Rat):Prop where
 r:RS 3 mdP h n v ds
 t:∀(k:Nat) (d:MD),ds[k]?=some d→Sl h n 1 (.slice d.a (d.n*d.n) d.c) (strs ((tabL d.n (M k)).map ratT))
theorem MS.ext {h:HF}{n:Nat}{ds:List MD}{M:Nat→Nat→Nat→Rat}(m:MS h n v ds M)(x:Ext n h h')(hn:n≤n'):MS h' n' v ds M:=⟨m.r.ext' mdP.stay x hn,fun k d hd=>(m.t k d hd).ext x hn⟩
structure MOk (P D B:Nat)(ds:List MD)(M:Nat→Nat→Nat→Rat):Prop where
 hn:∀(k:Nat) (d:MD),ds[k]?=some d→1≤d.n∧d.n≤3
 hs:∀(k:Nat) (d:MD),ds[k]?=some d→∀i j,i<d.n→j<d.n→M k i j=M k j i
 P1:1≤P
 P2:P≤4
 D0:0<D
 D2:D<2^P
 hB:∀(k:Nat) (d:MD),ds[k]?=some d→∀i j,i<d.n→j<d.n→FN D B (M k i j)
 B1:1≤B
 B2:B<2^P
theorem zmc (k:Nat){h:HF}{n:Nat}(g:GG h n){a:Option Addr}{ds:List MD}{M:Nat→Nat→Nat→Rat}(m:MS h n (.slice a L cap) ds M){P:Nat}(o:MOk P D B ds M)(hl:ds.length<1000000):
  VF (cal (k+17)) 51 [.slice a L cap] h n fun v=>∃ok,v=.tuple #[.bool ok,.int .i64 0]∧(ok=true↔∀k d,ds[k]?=some d→psdA d.n d.n 0 (M k)):=by
 have lm:L=ds.length:=m.r.len' zd;refine zw (fn:=Tryz.f51) R4 ?_;refine zG ?_;refine sF (α:=Nat) (fun z=>[(9,.slice a L cap),(10,.int .i64 (L:Int)),(11,.int .i64 (z:Int))])
  (fun z h' n' w'=>w'=[]∧n≤n'∧Ext n h h'∧z≤L∧∀k d,k<z→ds[k]?=some d→psdA d.n d.n 0 (M k)) (fun z=>L-z) 0 ⟨rfl,Nat.le_refl _,Ext.refl _ _,Nat.zero_le _,fun k d hk=>absurd hk (Nat.not_lt_zero _)⟩ ?_
 rintro j t h1 n1 _ ⟨rfl,y1,x1,hj,hall⟩;have y1:n≤n1:=y1;have x1:Ext n h h1:=x1;have hj:j≤L:=hj;have hall:∀k d,k<j→ds[k]?=some d→psdA d.n d.n 0 (M k):=hall;refine zG ?_;by_cases qj:(j:Int)<(L:Int)
 ·refine zG ?_;obtain ⟨d,hd⟩:∃d,ds[j]?=some d:=⟨_,List.getElem?_eq_getElem zo⟩;obtain ⟨b2,o2,c2,e2,m2,r2,t2,_,f2⟩:=RS.at' zd (m.ext x1 y1).r hd;have f2:c2=[.int .i64 (d.n:Int),.int .i64 (d.n:Int),.slice d.a (d.n*d.n) d.c]:=f2;subst f2;refine sI e2 r2 ?_;refine sL t2 m2 0 ?_;refine sA ?_;intro h3 p3 x3;refine zG ?_;refine sS [.int .i64 (d.n:Int),.int .i64 (d.n:Int),.slice d.a (d.n*d.n) d.c] ?_;intro h4 p4 o4;refine zG ?_;refine sC (zi1 _ (g.x zx) (o.hn _ _ hd) ((m.t _ _ hd).ext (zx:Tx n h _ _).2 zo) (o.hs _ _ hd) o.P1 o.P2 o.D0 o.D2 (fun i j hi hj=>(o.hB _ _ hd i j hi hj).den) (o.hB _ _ hd) o.B1 o.B2) ?_;rintro _ h5 n5 ⟨v1,v2,v3,v4,v5,v6,v7,v8,ok,rfl,hok⟩ y5 x5;refine zG ?_;refine sA ?_;intro h6 p6 x6;refine zG ?_;refine sS [.int .i64 v1,.int .i64 v2,.slice v3 v4 v5,.slice v6 v7 v8] ?_;intro h7 p7 o7;cases ok with
  |false=>
   refine zG ?_;refine zf ?_;exact ⟨_,rfl,fun h=>(by cases h),fun h=>absurd (hok.2 (h _ _ hd)) (by simp)⟩
  |true=>
   refine zG ?_;exact sK (j+1) ⟨rfl,zo,(zx:Tx n h _ _).2,by show j+1≤L;omega,fun k d' hk hd'=>by
    rcases Nat.lt_or_ge k j with hk2|hk2
    ·exact hall k d' hk2 hd'
    ·have:k=j:=by have:k<j+1:=hk;omega
     subst this;rw [hd] at hd';cases hd';exact hok.1 rfl⟩
 refine zG ?_;refine zf ?_;exact ⟨_,rfl,fun _ k d hd=>hall k d (by have:=(List.getElem?_eq_some_iff.1 hd).1;omega) hd,fun _=>rfl⟩
end
section
variable {b cap j k len sz:Nat}{c cells:List Value}{a:Option Addr}
def EntF (Ns:List Nat)(e:Ent):Prop:=∃k N i j:Nat,∃v:Rat,e=⟨(k:Int),(i:Int),(j:Int),ratT v⟩∧Ns[k]?=some N∧i≤j∧j<N∧Sz 2 v∧∃x:Int,v=(x:Rat)∧ -2≤x∧x≤2
theorem fi (q:Rat):(ratT q==[48])=decide (q=0):=by
 by_cases h:q=0
 ·subst h;rfl
 rw [decide_eq_false h];cases hb:(ratT q==[48]) with
 |false=>rfl
 |true=>exact absurd (rk ((eq_of_beq hb).trans rY.symm)) h
def mds (Ns bs:List Nat):List MD:=List.zipWith (fun N b=>⟨N,some ⟨b,0,none⟩,N*N⟩) Ns bs
structure MW (h:HF)(n bm:Nat)(Ns bs:List Nat)(M:Nat→Nat→Nat→Rat):Prop where
 r:OR 3 mdP h n bm (mds Ns bs)
 e:∀k N b,Ns[k]?=some N→bs[k]?=some b→OT h n b ((tabL N (M k)).map ratT)
 l:bs.length=Ns.length
 d:bs.Nodup
 m:bm∉bs
section
variable {h h':HF}{n n' bm:Nat}{Ns bs:List Nat}{M M':Nat→Nat→Nat→Rat}
theorem zig {d:MD}(hd:(mds Ns bs)[k]?=some d):∃N b,Ns[k]?=some N∧bs[k]?=some b∧d=⟨N,some ⟨b,0,none⟩,N*N⟩:=by
 unfold mds at hd;rw [List.getElem?_zipWith] at hd;cases h1:Ns[k]? with
 |none=>rw [h1] at hd;simp at hd
 |some N=>
  cases h2:bs[k]? with
  |none=>rw [h1,h2] at hd;simp at hd
  |some b=>rw [h1,h2] at hd;exact ⟨N,b,rfl,rfl,by simpa using hd.symm⟩
theorem iT (h:bs.length=Ns.length):(mds Ns bs).length=Ns.length:=by unfold mds;rw [List.length_zipWith];omega
end
theorem At.keep {h h':HF}{o:Nat}(a:At h b o c)(e:h' b=h b):At h' b o c:=by
 obtain ⟨y,cs,h1,h2,h3,h4⟩:=a.ex;exact ⟨y,cs,e.trans h1,h2,h3,h4⟩
theorem mR {h:HF}{n:Nat}(r:Sl h n sz (.slice a len cap) cells)(hc:(cells.drop (j*sz)).take sz=c)(hl:c.length=sz)(hs:0<sz):∃b off,a=some ⟨b,off,none⟩∧b<3*n∧j<len∧At h b (off+j*sz) c:=by
 have h1:j*sz+sz≤cells.length:=by
  rw [←hc,List.length_take,List.length_drop] at hl;omega
 obtain ⟨_,_,_,e,hl2⟩:=r.len;injection e with e1 e2 e3
 subst e2;have hj:j<len:=by
  rw [hl2,←Nat.succ_mul] at h1;exact Nat.le_of_mul_le_mul_right h1 hs
 obtain ⟨b,off,x,cs,rfl,hb,hx,hcs,hcap,hle,he⟩:=r.inv zo;refine ⟨b,off,rfl,hb,hj,⟨x,cs,hx,hcs,zo,?_⟩⟩;rw [hl,←hc,←he,List.drop_take,List.take_take,List.drop_drop,Nat.min_eq_left zo]
def entP (c:List Value)(e:Ent)(_:HF)(_:Nat):Prop:=c=entC e
theorem Rec.ofEnts (E:List Ent)(h:HF)(n:Nat):Rec 4 (fun c e=>entP c e h n) (ents E) E:=by
 induction E with
 |nil=>exact .nil
 |cons e E ih=>exact .cons (c:=entC e) rfl rfl ih
theorem mn {h:HF}{n:Nat}{E:List Ent}{e:Ent}(r:Sl h n 4 (.slice a len cap) (ents E))(hj:E[j]?=some e):∃b off,a=some ⟨b,off,none⟩∧b<3*n∧j<len∧At h b (off+j*4) (entC e):=by
 obtain ⟨b,off,c,h1,h2,h3,h4,_,rfl⟩:=RS.at' (P:=entP) zd ⟨_,r,Rec.ofEnts E h n⟩ hj;exact ⟨b,off,h1,h2,h3,h4⟩
theorem zfh (k:Nat)(h:HF)(n:Nat)(a:Option Addr)(l c:Nat):CX (cal (k+1)) 84 [.slice a l c] h n fun u h' n'=>u=.func (.func 121) #[] #[.pointer (some ⟨3*n+2,0,none⟩)]∧n'=n+1∧∃e,h' (3*n+2)=some (.row [.slice a l c] e):=by
 refine zk (fn:=Tryz.f84) R4 ?_;refine zG ?_;refine sB [.slice a l c] ?_;intro h1 p1 x1;refine zA (v:=.nilFunc) R5 ?_;refine zG ?_;refine zA (v:=.func (.func 121) #[] #[.pointer (some ⟨3*n+2,0,none⟩)]) ⟨rfl,rfl,rfl,rfl,?_⟩ ?_
 ·show some (Value.func (.func _) (Array.map (evF _) #[]) (Array.map (evF _) #[.tmp 1]))=_;simp only [List.map_toArray,List.map_cons,List.map_nil];rfl
 refine zA (v:=.func (.func 121) #[] #[.pointer (some ⟨3*n+2,0,none⟩)]) R5 ?_;refine zq ?_;exact ⟨rfl,rfl,⟨_,zp⟩⟩
end
section
variable {D D1 D2 B B1 B2:Nat}{x y:Rat}
theorem FN.mono (h:FN D B x)(hB:B≤B1):FN D B1 x:=by
 obtain ⟨z,hz,hb⟩:=h;exact ⟨z,hz,Nat.le_trans hb hB⟩
theorem FN.add (h:FN D B1 x)(g:FN D B2 y):FN D (B1+B2) (x+y):=by
 obtain ⟨z,hz,hb⟩:=h;obtain ⟨u,hu,hc⟩:=g;exact ⟨z+u,by rw [Rat.add_mul,hz,hu,Rat.intCast_add],zo⟩
theorem FN.mul (h:FN D1 B1 x)(g:FN D2 B2 y):FN (D1*D2) (B1*B2) (x*y):=by
 obtain ⟨z,hz,hb⟩:=h;obtain ⟨u,hu,hc⟩:=g;refine ⟨z*u,?_,by rw [Int.natAbs_mul];exact Nat.mul_le_mul hb hc⟩;rw [Rat.natCast_mul,Rat.mul_assoc,←Rat.mul_assoc y,Rat.mul_comm y,Rat.mul_assoc,←Rat.mul_assoc,hz,hu,Rat.intCast_mul]
theorem FN.int (z:Int)(h:z.natAbs≤B):FN 1 B (z:Rat):=⟨z,by rw [show ((1:Nat):Rat)=1 from rfl,Rat.mul_one],h⟩
theorem FN.up (h:FN D B x)(k:Nat):FN (k*D) (k*B) x:=by
 obtain ⟨z,hz,hb⟩:=h;refine ⟨(k:Int)*z,?_,by rw [Int.natAbs_mul,Int.natAbs_natCast];exact Nat.mul_le_mul_left _ hb⟩;rw [Rat.natCast_mul,←Rat.mul_assoc,Rat.mul_comm x,Rat.mul_assoc,hz,Rat.intCast_mul,Rat.intCast_natCast]
theorem FN.zero (D B:Nat):FN D B 0:=⟨0,by rw [Rat.zero_mul];rfl,Nat.zero_le _⟩
end
def eqEs (p:Sdp)(m:Nat):List Ent:=((p.eqs[m]?).map (·.es)).getD []
def eqRh (p:Sdp)(m:Nat):List UInt8:=((p.eqs[m]?).map (·.rhs)).getD [48]
def dimN (p:Sdp):List Nat:=p.blocks.map Int.toNat
theorem jW {x:Int}(h: -2≤x∧x≤2):Sz 2 (x:Rat):=by
 refine ⟨?_,?_⟩
 ·rw [Rat.num_intCast];show x.natAbs<4;omega
 rw [Rat.den_intCast];decide
theorem EntOk.f {p:Sdp}{e:Ent}(h:EntOk p.blocks e):EntF (dimN p) e:=by
 obtain ⟨⟨b1,b2⟩,⟨r1,r2⟩,hc,x,x1,x2,_,hv⟩:=h;have hk:e.b.toNat<p.blocks.length:=zo;have hd:=hc _ (List.getElem?_eq_getElem hk);refine ⟨e.b.toNat,(p.blocks[e.b.toNat]'hk).toNat,e.r.toNat,e.c.toNat,(x:Rat),?_,?_,zo,zo,jW ⟨x1,x2⟩,x,rfl,x1,x2⟩
 ·cases e;simp only at*
  rw [hv,Int.toNat_of_nonneg b1,Int.toNat_of_nonneg r1,Int.toNat_of_nonneg zo]
 unfold dimN;rw [List.getElem?_map,List.getElem?_eq_getElem hk];rfl
structure SlB (p:Sdp)(ys:List Rat)(K:Nat):Prop where
 y:∀q∈ys,Sz 133 q
 yl:(2^133)^ys.length≤K
 o:∀e∈p.obj,EntF (dimN p) e
 ol:p.obj.length≤256
 e:∀q∈p.eqs,∀e∈q.es,EntF (dimN p) e
 el:∀q∈p.eqs,q.es.length≤256
 of:∀s∈p.objFree,xU 2 s
 f:∀q∈p.eqs,∀s∈q.fr,xU 2 s
 r:∀q∈p.eqs,xU 4 q.rhs
section
variable {p:Sdp}{ys:List Rat}{K:Nat}(b:SlB p ys K)
include b
end
section
variable {p:Sdp}{ys:List Rat}{K:Nat}(b:SlB p ys K)(hK:K≤2^532)
include b hK
end
noncomputable def fm (M:Nat→Nat→Nat→Rat):List Ent→Rat
 |[]=>0
 |e::E=>z0 e.v*M e.b.toNat e.r.toNat e.c.toNat+fm M E
theorem zbk (M:Nat→Nat→Nat→Rat)(P Q:List Ent):fm M (P++Q)=fm M P+fm M Q:=by
 induction P with
 |nil=>show fm M Q=0+fm M Q;rw [Rat.zero_add]
 |cons e P ih=>show z0 e.v*_+fm M (P++Q)=z0 e.v*_+fm M P+fm M Q;rw [ih,Rat.add_assoc]
theorem zbi (M:Nat→Nat→Nat→Rat)(P:List Ent)(k i j:Nat)(v:Rat):fm M (P++[⟨(k:Int),(i:Int),(j:Int),ratT v⟩])=fm M P+v*M k i j:=by
 rw [zbk];show fm M P+(z0 (ratT v)*M k i j+0)=_;rw [zX,Rat.add_zero]
noncomputable def dt (S:List (List UInt8))(us:List Rat):Nat→Rat
 |0=>0
 |j+1=>dt S us j+z0 ((S[j]?).getD [48])*(us[j]?).getD 0
theorem zi5 {s:Rat}{u:Rat}(h1:S[j]?=some (ratT s))(h2:us[j]?=some u):dt S us (j+1)=dt S us j+s*u:=by
 show dt S us j+z0 ((S[j]?).getD [48])*(us[j]?).getD 0=_;rw [h1,h2];show dt S us j+z0 (ratT s)*u=_;rw [zX]
def EntD (Ns:List Nat)(e:Ent):Prop:=∃k N i j:Nat,∃v:Rat,e=⟨(k:Int),(i:Int),(j:Int),ratT v⟩∧Ns[k]?=some N∧i≤j∧j<N∧FN 1 2 v
theorem EntF.d {e:Ent}(h:EntF Ns e):EntD Ns e:=by
 obtain ⟨k,N,i,j,v,h1,h2,h3,h4,_,x,rfl,h5,h6⟩:=h;exact ⟨k,N,i,j,_,h1,h2,h3,h4,FN.int x zo⟩
theorem zbj {M:Nat→Nat→Nat→Rat}(hM:∀k i j,FN 1 B (M k i j)):∀{E:List Ent},(∀e∈E,EntD Ns e)→FN 1 (2*B*E.length) (fm M E):=by
 intro E;induction E with
 |nil=>intro _;exact FN.zero _ _
 |cons e E ih=>
  intro h;obtain ⟨k,N,i,j,v,rfl,_,_,_,hv⟩:=h e List.mem_cons_self;have h1:=hv.mul (hM k i j);have h2:=ih fun x hx=>h x (List.mem_cons_of_mem _ hx);have h3:FN 1 (2*B+2*B*E.length) (v*M k i j+fm M E):=h1.add h2;have e1:fm M (⟨(k:Int),(i:Int),(j:Int),ratT v⟩::E)=v*M k i j+fm M E:=by
   show z0 (ratT v)*M k i j+fm M E=_;rw [zX]
  rw [e1];refine h3.mono ?_;rw [List.length_cons,Nat.mul_succ];omega
theorem zbv (hS:∀s∈S,xU 2 s)(hu:∀u∈us,FN D B u)(j:Nat):FN D (2*B*j) (dt S us j):=by
 induction j with
 |zero=>exact FN.zero _ _
 |succ j ih=>
  have h1:FN 1 2 (z0 ((S[j]?).getD [48])):=by
   cases h:S[j]? with
   |none=>exact FN.mono (B:=0) (by show FN 1 0 (z0 [48]);rw [←rY,zX];exact FN.zero _ _) zd
   |some s=>
    obtain ⟨x,h1,h2,h3⟩:=hS s (List.mem_of_getElem? h);show FN 1 2 (z0 s);rw [h3,zX];exact FN.int x zo
  have h2:FN D B ((us[j]?).getD 0):=by
   cases h:us[j]? with
   |none=>exact FN.zero _ _
   |some u=>exact hu u (List.mem_of_getElem? h)
  have h3:=h1.mul h2;rw [Nat.one_mul] at h3;exact (ih.add h3).mono (by rw [Nat.mul_succ];omega)
section
theorem tY (k:Nat){h:HF}{n:Nat}{a:Option Addr}{len cap:Nat}{S:List (List UInt8)}(hs:Sl h n 1 (.slice a len cap) (strs S))(hl:∀s∈S,s.length<11)(hb:S.length<1000000):VF (cal (k+8)) 100 [.slice a len cap] h n fun v=>∃b:Bool,v=.bool b∧(b=true↔∀s∈S,xz s):=by
 refine zw (fn:=Tryz.f100) R4 ?_;refine zN ?_;refine sh ?_;repeat refine zR ?_
 refine zu _ R5 (zh6 k hs hl hb) ?_;rintro _ h1 n1 _ ⟨rfl,hn1,hx1,a',l',c',ok,rfl,hok⟩;refine sh ?_;refine sh ?_;exact retF _ rfl (zi rfl) R2 ⟨ok,rfl,hok⟩
end
section
theorem kT {q:Rat}:ratT q=[48]↔q.num=0:=by
 constructor
 ·intro h;obtain ⟨h1,h2⟩:=vy q;rw [h] at h1 h2;have hb:yx [48]=[48]:=rfl;rw [hb] at h2;obtain ⟨g1,g2,g3⟩:=yZ q.num.natAbs;cases hd:decT q.num.natAbs with
  |nil=>exact absurd hd g3
  |cons b r=>
   rw [hd] at h2 g2;simp only [List.cons_append,List.cons.injEq] at h2;have hr:r=[]:=(List.append_eq_nil_iff.1 h2.2.symm).1;rw [←h2.1,hr] at g2;have:dval [48]=0:=rfl;omega
 intro h;have hq:q=0:=Rat.num_eq_zero.1 h;subst hq;rfl
def Fits (B:List Int)(e:Ent):Prop:=(0≤e.b∧e.b<B.length)∧(0≤e.r∧e.r≤e.c)∧∀d,B[e.b.toNat]?=some d→e.c<d
def EntV (B:List Int)(E:List Ent)(j:Nat)(e:Ent):Prop:=Fits B e∧(∀f,0<j→E[j-1]?=some f→ltE f e)∧xz e.v∧e.v≠[48]
def zc2 (B:List Int)(E:List Ent):Prop:=∀j e,E[j]?=some e→EntV B E j e
theorem zik (k:Nat)(h:HF)(n:Nat)(e f:Ent):VF (cal (k+1)) 174 [.agg (entC e).toArray,.agg (entC f).toArray] h n fun v=>∃b:Bool,v=.bool b∧(b=true↔ltE e f):=by
 refine zw (fn:=Tryz.f174) R4 ?_;refine zN ?_;refine xy (cs:=entC e) R5 ?_;refine xy (cs:=entC f) R5 ?_;generalize hh:upd (upd h (3*n+2) _) (3*(n+1)+2) _=h1;have he:∃ty,h1 (3*n+2)=some (.row (entC e) ty):=⟨_,by rw [←hh,zj zo,ze]⟩;have hf:∃ty,h1 (3*(n+1)+2)=some (.row (entC f) ty):=⟨_,by rw [←hh,ze]⟩;obtain ⟨t1,he⟩:=he;obtain ⟨t2,hf⟩:=hf;refine sh ?_;by_cases hb:e.b=f.b
 ·repeat (first|refine zg R6 he R2 ?_|refine zg R6 hf R2 ?_|refine zR ?_)
  refine zN ?_;refine Za ?_;by_cases hr:e.r<f.r
  ·repeat (first|refine zg R6 he R2 ?_|refine zg R6 hf R2 ?_|refine zR ?_)
   refine zN ?_;exact retF _ rfl (zi rfl) R2 ⟨_,rfl,by unfold ltE ltP;simp;omega⟩
  by_cases hr2:e.r=f.r
  ·by_cases hc:e.c<f.c
   ·repeat (first|refine zg R6 he R2 ?_|refine zg R6 hf R2 ?_|refine zR ?_)
    refine zN ?_;exact retF _ rfl (zi rfl) R2 ⟨_,rfl,by unfold ltE ltP;simp;omega⟩
   repeat (first|refine zg R6 he R2 ?_|refine zg R6 hf R2 ?_|refine zR ?_)
   refine zN ?_;exact retF _ rfl (zi rfl) R2 ⟨_,rfl,by unfold ltE ltP;simp;omega⟩
  repeat (first|refine zg R6 he R2 ?_|refine zg R6 hf R2 ?_|refine zR ?_)
  refine zN ?_;exact retF _ rfl (zi rfl) R2 ⟨_,rfl,by unfold ltE ltP;simp;omega⟩
 repeat (first|refine zg R6 he R2 ?_|refine zg R6 hf R2 ?_|refine zR ?_)
 refine zN ?_;refine Zb ?_;by_cases hlt:e.b<f.b
 ·repeat (first|refine zg R6 he R2 ?_|refine zg R6 hf R2 ?_|refine zR ?_)
  refine zN ?_;exact retF _ rfl (zi rfl) R2 ⟨_,rfl,by unfold ltE ltP;simp;omega⟩
 repeat (first|refine zg R6 he R2 ?_|refine zg R6 hf R2 ?_|refine zR ?_)
 refine zN ?_;exact retF _ rfl (zi rfl) R2 ⟨_,rfl,by unfold ltE ltP;simp;omega⟩
end
section
variable {len:Nat}{sz:Nat}{qs:List Eqn}
theorem EqR.get {ce:List Value}(e:EqR h n ce qs):∀{j:Nat} {q:Eqn},qs[j]?=some q→∃ve vf,(ce.drop (j*3)).take 3=[ve,vf,.string ⟨⟨q.rhs⟩⟩]∧Sl h n 4 ve (ents q.es)∧Sl h n 1 vf (strs q.fr):=by
 induction e with
 |nil=>intro j q hq;simp at hq
 |cons h1 h2 h3 ih=>
  intro j q hq;cases j with
  |zero=>simp at hq;subst hq;exact ⟨_,_,rfl,h1,h2⟩
  |succ j=>
   obtain ⟨ve,vf,g1,g2,g3⟩:=ih (j:=j) (q:=q) (by simpa using hq);refine ⟨ve,vf,?_,g2,g3⟩;rw [←g1,show (j+1)*3=3+j*3 from zo,←List.drop_drop];rfl
theorem Sl.lenEq (s:Sl h n sz (.slice a len cap) c)(hsz:0<sz)(hc:c.length=m*sz):len=m:=by
 obtain ⟨a',len',cap',e,hl⟩:=s.len;injection e with e1 e2 e3
 subst e2;exact Nat.eq_of_mul_eq_mul_right hsz (hl.symm.trans hc)
theorem zc7 (k:Nat)(hG:GK.G h){p:Sdp}{F least:Nat}(hF:F≤100)(hn:20≤n)(hp:SdpR h n vB vO vF vE p)(hok:SdpOk F least p):VF (cal (k+3)) 42 [.agg #[vB,.int .i64 (p.free:Int),vO,vF,vE]] h n fun v=>v=.bool true:=by
 refine zw (fn:=Tryz.f42) R4 ?_;obtain ⟨hB,hO,hFr,ce,hE,hEq⟩:=hp;obtain ⟨aB,lB,cB,rfl,_⟩:=hB.len;obtain ⟨aO,lO,cO,rfl,_⟩:=hO.len;obtain ⟨aF,lF,cF,rfl,_⟩:=hFr.len;obtain ⟨aE,lE,cE,rfl,_⟩:=hE.len;have hlB:=hB.lenEq (m:=p.blocks.length) zo (by simp [i64s]);have hlO:=hO.lenEq (m:=p.obj.length) zo (yQ _);have hlF:=hFr.lenEq (m:=p.objFree.length) zo (by simp [strs]);have hlE:=hE.lenEq (m:=p.eqs.length) zo hEq.len;subst hlB hlO hlF hlE;have hbl:=hok.bl;have hfr:=hok.free;have hofl:=hok.ofl;have heql:=hok.eql;refine zN ?_;refine xy (cs:=[.slice aB p.blocks.length cB,.int .i64 (p.free:Int),.slice aO p.obj.length cO,.slice aF p.objFree.length cF,.slice aE p.eqs.length cE]) R5 ?_;generalize hh:upd h (3*n+2) _=h1;have hx1:Ext n h h1:=by rw [←hh];exact Ext.upd zo
 have hr1:∃ty,h1 (3*n+2)=some (.row [.slice aB p.blocks.length cB,.int .i64 (p.free:Int),.slice aO p.obj.length cO,.slice aF p.objFree.length cF,.slice aE p.eqs.length cE] ty):=⟨_,by rw [←hh,ze]⟩;obtain ⟨ty1,hr1⟩:=hr1;have hG1:GK.G h1:=sw hG hx1 hn;refine sh ?_;repeat refine zR ?_
 refine zg R6 hr1 (v:=.slice aB p.blocks.length cB) R2 ?_;repeat refine zR ?_
 refine zg R6 hr1 (v:=.slice aB p.blocks.length cB) R2 ?_;repeat refine zR ?_
 refine zg R6 hr1 (v:=.int .i64 (p.free:Int)) R2 ?_;repeat refine zR ?_
 refine zg R6 hr1 (v:=.int .i64 (p.free:Int)) R2 ?_;repeat refine zR ?_
 refine zg R6 hr1 (v:=.slice aE p.eqs.length cE) R2 ?_;refine sh ?_;refine Za ?_;repeat refine zR ?_
 refine zg R6 hr1 (v:=.slice aB p.blocks.length cB) R2 ?_;refine sh ?_;refine zQ (α:=Nat) (fun j=>[(1,.pointer (some ⟨3*n+2,0,none⟩)),(34,.slice aB p.blocks.length cB),(35,.int .i64 (p.blocks.length:Int)),(36,.int .i64 (j:Int))]) (fun j h' n' w=>h1=h'∧n'=n+1∧w=[]∧j≤p.blocks.length) (fun j=>p.blocks.length-j) 0 ⟨rfl,rfl,rfl,rfl,trivial⟩ ⟨rfl,rfl,rfl,Nat.zero_le _⟩ (by show p.blocks.length-0<LL;unfold LL;omega) ?_;rintro j t _ _ _ ⟨rfl,rfl,rfl,hj⟩;refine zN ?_;by_cases hjB:j≠p.blocks.length
 ·obtain ⟨d,hd⟩:∃d,p.blocks[j]?=some d:=⟨p.blocks[j]'zo,List.getElem?_eq_getElem zo⟩;have hd3:=hok.b3 d (List.mem_of_getElem? hd);obtain ⟨bB,oB,xB,csB,rfl,hbB,hxB,hcB,hcapB,hleB,heB⟩:=hB.inv zo;have hcell:csB[oB+j]?=some (.int .i64 d):=yX heB (by rw [i64s,List.getElem?_map,hd];rfl);have hxB1:h1 bB=some xB:=by rw [hx1 bB hbB];exact hxB
  refine sh ?_;refine Zb ?_;refine yR R8 zo ?_;refine zg R6 hxB1 (v:=.int .i64 d) ⟨hcB,(by rw [←hcell];congr 1;omega)⟩ ?_;refine sh ?_;refine sh ?_;refine Za ?_;refine sh ?_;exact goOn (j+1) (by show p.blocks.length-(j+1)<p.blocks.length-j;omega) ⟨rfl,rfl,rfl,by show Value.int .i64 _=Value.int .i64 _;congr 1,trivial⟩ ⟨rfl,rfl,rfl,by show j+1≤p.blocks.length;omega⟩
 have hjB:j=p.blocks.length:=Classical.not_not.1 hjB;have hsmall:∀{s:List UInt8},xU 2 s→GK.isSmall s=true:=fun hs=>mQ zo hs;have hB1:=hB.ext hx1 (Nat.le_succ n);have hO1:=hO.ext hx1 (Nat.le_succ n);have hF1:=hFr.ext hx1 (Nat.le_succ n);have hE1:=hE.ext hx1 (Nat.le_succ n);have hEq1:=hEq.ext hx1 (Nat.le_succ n);refine sh ?_;refine Za ?_;repeat refine zR ?_
 refine zg R6 hr1 (v:=.slice aF p.objFree.length cF) R2 ?_;repeat refine zR ?_
 refine zg R6 hr1 (v:=.int .i64 (p.free:Int)) R2 ?_;repeat refine zR ?_
 refine zg R6 hr1 (v:=.slice aO p.obj.length cO) R2 ?_;repeat refine zR ?_
 refine zg R6 hr1 (v:=.slice aB p.blocks.length cB) R2 ?_;refine z8 _ R5 (qD k hG1 zo hO1 hB1 hok.obj.ok hok.obj.asc (by have:=hok.objl;omega)) ?_;rintro _ rfl;repeat refine zR ?_
 refine zg R6 hr1 (v:=.slice aF p.objFree.length cF) R2 ?_;refine z8 _ R5 (md k hG1 zo hF1 (fun s hs=>hsmall (hok.ofs s hs)) zo) ?_;rintro _ rfl;refine sh ?_;refine Za ?_;repeat refine zR ?_
 refine zg R6 hr1 (v:=.slice aE p.eqs.length cE) R2 ?_;refine sh ?_;refine zQ (α:=Nat) (fun j=>[(1,.pointer (some ⟨3*n+2,0,none⟩)),(68,.slice aE p.eqs.length cE),(69,.int .i64 (p.eqs.length:Int)),(70,.int .i64 (j:Int))]) (fun j h' n' w=>Ext (n+1) h1 h'∧n+1≤n'∧w=[]∧j≤p.eqs.length) (fun j=>p.eqs.length-j) 0 ⟨rfl,rfl,rfl,rfl,trivial⟩ ⟨Ext.refl _ _,Nat.le_refl _,rfl,Nat.zero_le _⟩ (by show p.eqs.length-0<LL;unfold LL;omega) ?_;rintro i t h2 n2 _ ⟨hx2,hn2,rfl,hi⟩;refine zN ?_;by_cases hiE:i=p.eqs.length
 ·refine sh ?_;refine Za ?_;refine sh ?_;exact retF _ rfl (zi rfl) R2 rfl
 obtain ⟨q,hq⟩:∃q,p.eqs[i]?=some q:=⟨p.eqs[i]'zo,List.getElem?_eq_getElem zo⟩;obtain ⟨q1,q2,q3,q4,q5⟩:=hok.eqo q (List.mem_of_getElem? hq);obtain ⟨ve,vf,hce,hve,hvf⟩:=hEq1.get hq;obtain ⟨ae,le,cce,rfl,_⟩:=hve.len;obtain ⟨af,lf,ccf,rfl,_⟩:=hvf.len;have hle:=hve.lenEq (m:=q.es.length) zo (yQ _);have hlf:=hvf.lenEq (m:=q.fr.length) zo (by simp [strs]);subst hle hlf;obtain ⟨bE,oE,xE,csE,rfl,hbE,hxE,hcE,hcapE,hleE,heE⟩:=hE1.inv zo;have hcell:(csE.drop (oE+i*3)).take 3=[.slice ae q.es.length cce,.slice af q.fr.length ccf,.string ⟨⟨q.rhs⟩⟩]:=by rw [uF heE zo,hce]
 have hxE2:h2 bE=some xE:=by rw [hx2 bE hbE];exact hxE
 refine sh ?_;refine Zb ?_;refine yR R8 zo ?_;refine zI (v:=.agg #[.slice ae q.es.length cce,.slice af q.fr.length ccf,.string ⟨⟨q.rhs⟩⟩]) R5 (zB R2 hxE2 hcE zo (by rw [←hcell];congr 2<;>omega)) ?_;refine zT R5 ?_;refine zv [.slice ae q.es.length cce,.slice af q.fr.length ccf,.string ⟨⟨q.rhs⟩⟩] R7 rfl (ze _ _ _) rfl (by show 3*n≤3*n2+2;omega) ?_;rw [yH];generalize hh:upd h2 (3*n2+2) _=h3;have hp3:∃ty,h3 (3*n2+2)=some (.row [.slice ae q.es.length cce,.slice af q.fr.length ccf,.string ⟨⟨q.rhs⟩⟩] ty):=⟨_,by rw [←hh,ze]⟩;obtain ⟨ty3,hp3⟩:=hp3;have hx3:Ext n2 h2 h3:=by rw [←hh];exact Ext.upd zo
 have hx13:Ext (n+1) h1 h3:=hx2.trans hx3 hn2;have hr3:h3 (3*n+2)=some (.row [.slice aB p.blocks.length cB,.int .i64 (p.free:Int),.slice aO p.obj.length cO,.slice aF p.objFree.length cF,.slice (some ⟨bE,oE,none⟩) p.eqs.length cE] ty1):=by rw [hx13 _ zo];exact hr1
 have hG3:GK.G h3:=sw hG1 hx13 zo;refine Ze ?_;refine zg R6 hp3 (v:=.slice af q.fr.length ccf) R2 ?_;repeat refine zR ?_
 refine zg R6 hr3 (v:=.int .i64 (p.free:Int)) R2 ?_;repeat refine zR ?_
 refine zg R6 hp3 (v:=.slice ae q.es.length cce) R2 ?_;repeat refine zR ?_
 refine zg R6 hr3 (v:=.slice aB p.blocks.length cB) R2 ?_;refine z8 _ R5 (qD k hG3 zo (hve.ext hx13 zo) (hB1.ext hx13 zo) q1.ok q1.asc zo) ?_;rintro _ rfl;repeat refine zR ?_
 refine zg R6 hp3 (v:=.slice af q.fr.length ccf) R2 ?_;refine z8 _ R5 (md k hG3 zo (hvf.ext hx13 zo) (fun s hs=>hsmall (q4 s hs)) zo) ?_;rintro _ rfl;repeat refine zR ?_
 refine zg R6 hp3 (v:=.string ⟨⟨q.rhs⟩⟩) R2 ?_;refine z8 _ R5 (wS (k+1) hG3 _ (mQ zo q5)) ?_;rintro _ rfl;refine sh ?_;refine Za ?_;refine sh ?_;exact goOn (i+1) (by show p.eqs.length-(i+1)<p.eqs.length-i;omega) ⟨rfl,rfl,rfl,by show Value.int .i64 _=Value.int .i64 _;congr 1,trivial⟩ ⟨hx13,by show n+1≤n2+1;omega,rfl,by show i+1≤p.eqs.length;omega⟩
end
section
theorem fF (k:Nat){h:HF}{n:Nat}{aE aB:Option Addr}{lE cE lB cB:Nat}{E:List Ent}{B:List Int}(hE:Sl h n 4 (.slice aE lE cE) (ents E))(hB:Sl h n 1 (.slice aB lB cB) (i64s B))(hl:∀e∈E,e.v.length<11)(hb:E.length<1000000∧B.length<1000000):VF (cal (k+7)) 142 [.slice aB lB cB,.slice aE lE cE] h n fun v=>∃b:Bool,v=.bool b∧(b=true↔zc2 B E):=by
 refine zw (fn:=Tryz.f142) R4 ?_;have hlE:lE=E.length:=by
  obtain ⟨a',len',cap',e,hl⟩:=hE.len;injection e with e1 e2 e3
  rw [yQ] at hl;omega
 have hlB:lB=B.length:=by
  obtain ⟨a',len',cap',e,hl⟩:=hB.len;injection e with e1 e2 e3
  simp [i64s] at hl;omega
 subst hlE hlB;refine zN ?_;refine sh ?_;refine sh ?_;refine zQ (α:=Nat) (fun j=>[(0,.slice aB B.length cB),(1,.slice aE E.length cE),(9,.slice aE E.length cE),(10,.int .i64 (E.length:Int)),(11,.int .i64 (j:Int))]) (fun j h' n' w=>Ext n h h'∧n≤n'∧w=[]∧j≤E.length∧∀i e,i<j→E[i]?=some e→EntV B E i e) (fun j=>E.length-j) 0 ⟨rfl,rfl,rfl,rfl,rfl,trivial⟩ ⟨Ext.refl _ _,Nat.le_refl _,rfl,Nat.zero_le _,fun i e hi=>absurd hi (Nat.not_lt_zero i)⟩ (by show E.length-0<LL;unfold LL;omega) ?_;rintro j t h1 n1 _ ⟨hx1,hn1,rfl,hj,hall⟩;refine zN ?_;by_cases hjE:j=E.length
 ·refine sh ?_;refine Za ?_;refine sh ?_;exact retF _ rfl (zi rfl) R2 ⟨true,rfl,fun _ i e hi=>hall i e (by have:=(List.getElem?_eq_some_iff.1 hi).1;omega) hi,fun _=>rfl⟩
 obtain ⟨e,he'⟩:∃e,E[j]?=some e:=⟨E[j]'zo,List.getElem?_eq_getElem zo⟩;have hmem:e∈E:=List.mem_of_getElem? he';obtain ⟨bE,oE,xE,csE,rfl,hbE,hxE,hcE,hcapE,hleE,heE⟩:=hE.inv zo;have hcell:(csE.drop (oE+j*4)).take 4=entC e:=by rw [uF heE zo,kb he']
 have hxE1:h1 bE=some xE:=by rw [hx1 bE hbE];exact hxE
 refine sh ?_;refine Zb ?_;repeat refine zR ?_
 refine yR R8 zo ?_;refine zI (v:=.agg (entC e).toArray) R5 (zB R2 hxE1 hcE zo (by rw [←hcell];congr 2<;>omega)) ?_;refine zT R5 ?_;repeat refine zR ?_
 refine zv (entC e) R7 rfl (ze _ _ _) rfl (by show 3*n≤3*n1+2;omega) ?_;rw [yH];generalize hh:upd h1 (3*n1+2) _=h2;have hp2:∃ty,h2 (3*n1+2)=some (.row (entC e) ty):=⟨_,by rw [←hh,ze]⟩;obtain ⟨ty2,hp2⟩:=hp2;have hx2:Ext n1 h1 h2:=by rw [←hh];exact Ext.upd zo
 clear hh;have hxE2:h2 bE=some xE:=by rw [hx2 bE zo];exact hxE1
 simp only [yL,xN,zO,xD];refine yo (α:=Bool) (fun z=>[(0,.slice aB B.length cB),(1,.slice (some ⟨bE,oE,none⟩) E.length cE),(6,.pointer (some ⟨3*n1+2,0,none⟩)),(9,.slice (some ⟨bE,oE,none⟩) E.length cE),(10,.int .i64 (E.length:Int)),(11,.int .i64 (j:Int)),(61,.bool z)]) (fun z h' n' w=>h2=h'∧n'=n1+1∧w=[]∧(z=false↔Fits B e∧∀f,0<j→E[j-1]?=some f→ltE f e)) ?_ ?_
 ·refine zl [0,1,3,7,15,31,15,79,255,511,1023,2047,4095,8191,16383,32767,65535,131071,65535,327679,1048575,2097151,4194303,8388607,16777215,8388607,8388607,75497471,243269631,511705087,1073741823,2147483647,4294967295,8589934591,17179869183,34359738367,68719476735,68719476735,206158430207,549755813887,1099511627775,68719476735,4398046511103,8796093022207,17592186044415,35184372088831] rfl ?_;by_cases q1:e.b<0
  ·repeat (first|refine zL R6 (zF rfl hp2 R2) R2 ?_|refine zD ?_)
   refine zN ?_;exact zK true ⟨rfl,rfl,rfl,rfl,rfl,rfl,rfl,trivial⟩ ⟨rfl,rfl,rfl,by simp only [Bool.true_eq_false,false_iff];rintro ⟨⟨⟨g1,g2⟩,g3,g4⟩,g5⟩;omega⟩
  by_cases q2:(B.length:Int)≤e.b
  ·repeat (first|refine zL R6 (zF rfl hp2 R2) R2 ?_|refine zD ?_)
   refine zN ?_;exact zK true ⟨rfl,rfl,rfl,rfl,rfl,rfl,rfl,trivial⟩ ⟨rfl,rfl,rfl,by simp only [Bool.true_eq_false,false_iff];rintro ⟨⟨⟨g1,g2⟩,g3,g4⟩,g5⟩;omega⟩
  by_cases q3:e.r<0
  ·repeat (first|refine zL R6 (zF rfl hp2 R2) R2 ?_|refine zD ?_)
   refine zN ?_;exact zK true ⟨rfl,rfl,rfl,rfl,rfl,rfl,rfl,trivial⟩ ⟨rfl,rfl,rfl,by simp only [Bool.true_eq_false,false_iff];rintro ⟨⟨⟨g1,g2⟩,g3,g4⟩,g5⟩;omega⟩
  by_cases q4:e.c<e.r
  ·repeat (first|refine zL R6 (zF rfl hp2 R2) R2 ?_|refine zD ?_)
   refine zN ?_;exact zK true ⟨rfl,rfl,rfl,rfl,rfl,rfl,rfl,trivial⟩ ⟨rfl,rfl,rfl,by simp only [Bool.true_eq_false,false_iff];rintro ⟨⟨⟨g1,g2⟩,g3,g4⟩,g5⟩;omega⟩
  obtain ⟨bB,oB,xB,csB,rfl,hbB,hxB,hcB,hcapB,hleB,heB⟩:=hB.inv zo;have hxB2:h2 bB=some xB:=by rw [hx2 bB zo,hx1 bB hbB];exact hxB
  obtain ⟨dd,hdd⟩:∃d,B[e.b.toNat]?=some d:=⟨B[e.b.toNat]'zo,List.getElem?_eq_getElem zo⟩;have hcellB:csB[oB+e.b.toNat]?=some (.int .i64 dd):=yX heB (by rw [i64s,List.getElem?_map,hdd];rfl);repeat (first|refine zL R6 (zF rfl hp2 R2) R2 ?_|refine zD ?_)
  refine jv R8 zo ?_;refine zL R6 (zF rfl hxB2 (v:=.int .i64 dd) ⟨hcB,(by rw [←hcellB];congr 1;omega)⟩) R2 ?_;by_cases q5:dd≤e.c
  ·repeat (first|refine zL R6 (zF rfl hp2 R2) R2 ?_|refine zD ?_)
   refine zN ?_;exact zK true ⟨rfl,rfl,rfl,rfl,rfl,rfl,rfl,trivial⟩ ⟨rfl,rfl,rfl,by simp only [Bool.true_eq_false,false_iff];rintro ⟨⟨⟨g1,g2⟩,g3,g4⟩,g5⟩;have:=g4 dd hdd;omega⟩
  have hfits:Fits B e:=⟨zo,zo,fun d hd=>by rw [hdd] at hd;injection hd with hd;omega⟩;by_cases hj0:j=0
  ·repeat (first|refine zL R6 (zF rfl hp2 R2) R2 ?_|refine zD ?_)
   refine zN ?_;exact zK false ⟨rfl,rfl,rfl,rfl,rfl,rfl,rfl,trivial⟩ ⟨rfl,rfl,rfl,fun _=>⟨hfits,fun f h0=>by omega⟩,fun _=>rfl⟩
  obtain ⟨f,hf'⟩:∃f,E[j-1]?=some f:=⟨E[j-1]'zo,List.getElem?_eq_getElem zo⟩;have hcellf:(csE.drop (oE+(j-1)*4)).take 4=entC f:=by rw [uF heE zo,kb hf']
  repeat refine zD ?_
  refine jv R8 zo ?_;refine zL (v:=.agg (entC f).toArray) R6 (zB R2 hxE2 hcE zo (by rw [←hcellf];congr 2<;>omega)) R2 ?_;refine zL (v:=.agg (entC e).toArray) R6 (zB R2 hp2 rfl zb rfl) R2 ?_;refine ju _ R7 (zik (k+5) h2 (n1+1) f e) ?_;rintro _ ⟨b,rfl,hbb⟩;cases b with
  |true=>
   repeat refine zD ?_
   refine zN ?_;exact zK false ⟨rfl,rfl,rfl,rfl,rfl,rfl,rfl,trivial⟩ ⟨rfl,rfl,rfl,fun _=>⟨hfits,fun f' _ hf2=>by rw [hf'] at hf2;injection hf2 with hf2;subst hf2;exact hbb.1 rfl⟩,fun _=>rfl⟩
  |false=>
   repeat refine zD ?_
   refine zN ?_;exact zK true ⟨rfl,rfl,rfl,rfl,rfl,rfl,rfl,trivial⟩ ⟨rfl,rfl,rfl,by simp only [Bool.true_eq_false,false_iff];rintro ⟨_,g5⟩;exact absurd (hbb.2 (g5 f zo hf')) (by simp)⟩
 rintro z t _ _ _ ⟨rfl,rfl,rfl,hz⟩;cases z with
 |true=>
  refine Zb ?_;refine sh ?_;exact retF _ rfl (zi rfl) R2 ⟨false,rfl,fun h=>absurd h (by simp),fun hV=>absurd (hz.2 ⟨(hV j e he').1,(hV j e he').2.1⟩) (by simp)⟩
 |false=>
 refine Za ?_;have hgeo:=hz.1 rfl;repeat refine zR ?_
 refine zg R6 hp2 (v:=.string ⟨⟨e.v⟩⟩) R2 ?_;refine zu _ R5 (iz k _ _ e.v (hl e hmem)) ?_;rintro _ h3 n3 _ ⟨rfl,hn3,hx3,u1,u2,v1,v2,q,ln,ld,ok,rfl,rq,hl1,hl2,f1,f2,hok1,hok2⟩;repeat refine zR ?_
 refine zT R5 ?_;refine zv [u1,u2,v1,v2] R7 rq.ones (ze _ _ _) rfl (by show 3*n≤_;omega) ?_;rw [yH];generalize hh:upd h3 (3*n3+2) _=h4;have hx4:Ext n3 h3 h4:=by rw [←hh];exact Ext.upd zo
 have hp6:∃e,h4 (3*n3+2)=some (.row [u1,u2,v1,v2] e):=⟨_,by rw [←hh,ze]⟩;clear hh;obtain ⟨e6,hp6⟩:=hp6;have rq4:=rq.ext hx4 zs;refine sh ?_;cases ok with
 |false=>
  refine sh ?_;refine Zb ?_;refine sh ?_;exact retF _ rfl (zi rfl) R2 ⟨false,rfl,fun h=>absurd h (by simp),fun hV=>hok2 (hV j e he').2.2.1⟩
 |true=>
 repeat refine zR ?_
 refine zI (v:=.agg #[u1,u2,v1,v2]) R5 (zB R2 hp6 rfl zb rfl) ?_;refine z8 _ R5 (mU (k+4) rq4) ?_;rintro _ rfl;have hq:=hok1 rfl;by_cases hq0:q.num=0
 ·rw [hq0];refine sh ?_;refine Zb ?_;refine sh ?_;exact retF _ rfl (zi rfl) R2 ⟨false,rfl,fun h=>absurd h (by simp),fun hV=>absurd (by rw [←hq];exact kT.2 hq0) (hV j e he').2.2.2⟩
 have hsg:¬q.num.sign=0:=fun e=>hq0 (Int.sign_eq_zero_iff_zero.1 e);refine sh ?_;refine Za ?_;refine sh ?_;refine goOn (j+1) (by show E.length-(j+1)<E.length-j;omega) ⟨rfl,rfl,rfl,rfl,by show Value.int .i64 _=Value.int .i64 _;congr 1,trivial⟩ ⟨fun b hb=>(hx4 b zo).trans ((hx3 b zo).trans ((hx2 b zo).trans (hx1 b hb))),by show n≤n3+1;omega,rfl,by show j+1≤E.length;omega,fun i e' hi he2=>?_⟩;by_cases hij:i<j
 ·exact hall i e' hij he2
 have:i=j:=zo;subst this;rw [he'] at he2;injection he2 with he2
 subst he2;exact ⟨hgeo.1,hgeo.2,⟨q,hq⟩,fun e0=>hq0 (kT.1 (hq.trans e0))⟩
end
section
structure SdpB (p:Sdp):Prop where
 bl:p.blocks.length<1000000
 ol:p.obj.length<1000000
 fl:p.objFree.length<1000000
 el:p.eqs.length<1000000
 os:∀e∈p.obj,e.v.length<11
 fs:∀s∈p.objFree,s.length<11
 qs:∀q∈p.eqs,q.es.length<1000000∧q.fr.length<999999∧(∀e∈q.es,e.v.length<11)∧∀s∈q.rhs::q.fr,s.length<11
structure SdpV (p:Sdp)(fr:Int):Prop where
 bl:1≤p.blocks.length∧p.blocks.length≤64
 free:0≤fr∧fr≤512
 el:p.eqs.length≤512
 b:∀d∈p.blocks,1≤d∧d≤32
 obj:zc2 p.blocks p.obj
 ofl:(p.objFree.length:Int)=fr
 ofs:∀s∈p.objFree,xz s
 eqs:∀q∈p.eqs,zc2 p.blocks q.es∧(q.fr.length:Int)=fr∧∀s∈q.rhs::q.fr,xz s
theorem gC {E:Env}{h:HF}{n:Nat}{sT e e':TypeId}{size bytes m b L:Nat}{z x:Value}{old new:List Value}(hu:E.und sT=some (.slice e))(hi:E.inf e=some (size,bytes,z))(hz:(zr z).length=size)(h1:1≤size∧1≤bytes)(hx:argS h size x m new)(hb:(L+m)*bytes≤1099511627776)(hg:gro b=false)(hrow:h b=some (.row old e'))(hbn:b<3*n)(ho:old.length=L*size)(hl:new.length=m*size):
  ∃v' h' n',yk E h n sT (.slice (some ⟨b,0,none⟩) L L) x=some (.val v' h' n' [])∧n≤n'∧Ext n h h'∧Sl h' n' size v' (old++new)∧∃a,v'=.slice a (L+m) (L+m):=by
 obtain ⟨hl',hc⟩:=hx;have c1:Nat.ble ((L+m)*bytes) 1099511627776=true:=Nat.ble_eq_true_of_le hb;have c2:Nat.beq (zr z).length size=true:=by rw [hz];exact Nat.beq_refl _
 have c3:Nat.ble 1 size=true:=Nat.ble_eq_true_of_le h1.1;have c4:Nat.ble 1 bytes=true:=Nat.ble_eq_true_of_le h1.2;have hold:(argS h size (.slice (some ⟨b,0,none⟩) L L) L old):=yy hrow ⟨rfl,ho⟩;by_cases hm:m=0
 ·subst hm;have hn0:new=[]:=List.length_eq_zero_iff.1 (by rw [hl];simp);subst hn0;have c5:Nat.ble (L+0) L=true:=Nat.ble_eq_true_of_le (Nat.le_refl _);refine ⟨.slice (some ⟨b,0,none⟩) (L+0) L,h,n,?_,Nat.le_refl _,Ext.refl _ _,?_,_,rfl⟩
  ·simp only [yk,hu,hi,hl',hc,c1,c2,c3,c4,c5,Bool.and_self,wZ]
  rw [List.append_nil];exact .at_ hbn hrow rfl (Nat.le_refl _) (by show 0+L*size≤old.length;omega) (by rw [List.drop_zero,List.take_of_length_le (by show old.length≤L*size;omega)])
 have c5:Nat.ble (L+m) L=false:=by
  cases hb:Nat.ble (L+m) L with
  |false=>rfl
  |true=>have:=Nat.le_of_ble_eq_true hb;omega
 refine ⟨.slice (some ⟨3*n+1,0,none⟩) (L+m) (L+m),_,n+1,?_,Nat.le_succ _,Ext.upd (b:=3*n+1) (x:=some (.row (old++new) e)) zo,.at_ zo (ze _ _ _) rfl (Nat.le_refl _) ?_ ?_,_,rfl⟩
 ·simp only [yk,hu,hi,hl',hc,c1,c2,c3,c4,c5,hold.2,Bool.and_self,lR,hg]
 ·rw [List.length_append,ho,hl,Nat.add_mul];omega
 rw [List.drop_zero,List.take_of_length_le (by rw [List.length_append,ho,hl,Nat.add_mul];omega)]
theorem zix (b:Nat):gro (3*b+2)=false:=by
 unfold gro;rw [show (3*b+2)%3=2 from zo];rfl
theorem iw (k:Nat){h:HF}{n:Nat}{vB vO vF vE:Value}{p:Sdp}{fr:Int}(hp:SdpR h n vB vO vF vE p)(hok:SdpB p):VF (cal (k+9)) 99 [.agg #[vB,.int .i64 fr,vO,vF,vE]] h n fun v=>∃b:Bool,v=.bool b∧(b=true↔SdpV p fr):=by
 refine zw (fn:=Tryz.f99) R4 ?_;obtain ⟨hB,hO,hFr,ce,hE,hEq⟩:=hp;obtain ⟨aB,lB,cB,rfl,_⟩:=hB.len;obtain ⟨aO,lO,cO,rfl,_⟩:=hO.len;obtain ⟨aF,lF,cF,rfl,_⟩:=hFr.len;obtain ⟨aE,lE,cE,rfl,_⟩:=hE.len;have hlB:=hB.lenEq (m:=p.blocks.length) zo (by simp [i64s]);have hlO:=hO.lenEq (m:=p.obj.length) zo (yQ _);have hlF:=hFr.lenEq (m:=p.objFree.length) zo (by simp [strs]);have hlE:=hE.lenEq (m:=p.eqs.length) zo hEq.len;subst hlB hlO hlF hlE;have hbl:=hok.bl;have hol:=hok.ol;have hfl:=hok.fl;have heql:=hok.el;refine zN ?_;refine xy (cs:=[.slice aB p.blocks.length cB,.int .i64 fr,.slice aO p.obj.length cO,.slice aF p.objFree.length cF,.slice aE p.eqs.length cE]) R5 ?_;generalize hh:upd h (3*n+2) _=h1;have hx1:Ext n h h1:=by rw [←hh];exact Ext.upd zo
 have hr1:∃ty,h1 (3*n+2)=some (.row [.slice aB p.blocks.length cB,.int .i64 fr,.slice aO p.obj.length cO,.slice aF p.objFree.length cF,.slice aE p.eqs.length cE] ty):=⟨_,by rw [←hh,ze]⟩;obtain ⟨ty1,hr1⟩:=hr1;clear hh;repeat refine zR ?_
 simp only [yL,xN,zO,xD];refine yo (α:=Bool) (fun z=>[(1,.pointer (some ⟨3*n+2,0,none⟩)),(32,.bool z)]) (fun z h' n' w=>h1=h'∧n'=n+1∧w=[]∧(z=false↔(1≤p.blocks.length∧p.blocks.length≤64)∧(0≤fr∧fr≤512)∧p.eqs.length≤512)) ?_ ?_
 ·refine zN ?_;by_cases q1:p.blocks.length<1
  ·repeat (first|refine zg R6 hr1 R2 ?_|refine zR ?_)
   refine zN ?_;exact zK true ⟨rfl,rfl,trivial⟩ ⟨rfl,rfl,rfl,by simp only [Bool.true_eq_false,false_iff];omega⟩
  by_cases q2:64<p.blocks.length
  ·repeat (first|refine zg R6 hr1 R2 ?_|refine zR ?_)
   refine zN ?_;exact zK true ⟨rfl,rfl,trivial⟩ ⟨rfl,rfl,rfl,by simp only [Bool.true_eq_false,false_iff];omega⟩
  by_cases q3:fr<0
  ·repeat (first|refine zg R6 hr1 R2 ?_|refine zR ?_)
   refine zN ?_;exact zK true ⟨rfl,rfl,trivial⟩ ⟨rfl,rfl,rfl,by simp only [Bool.true_eq_false,false_iff];omega⟩
  by_cases q4:512<fr
  ·repeat (first|refine zg R6 hr1 R2 ?_|refine zR ?_)
   refine zN ?_;exact zK true ⟨rfl,rfl,trivial⟩ ⟨rfl,rfl,rfl,by simp only [Bool.true_eq_false,false_iff];omega⟩
  by_cases q5:512<p.eqs.length
  ·repeat (first|refine zg R6 hr1 R2 ?_|refine zR ?_)
   refine zN ?_;exact zK true ⟨rfl,rfl,trivial⟩ ⟨rfl,rfl,rfl,by simp only [Bool.true_eq_false,false_iff];omega⟩
  repeat (first|refine zg R6 hr1 R2 ?_|refine zR ?_)
  refine zN ?_;exact zK false ⟨rfl,rfl,trivial⟩ ⟨rfl,rfl,rfl,fun _=>by omega,fun _=>rfl⟩
 rintro z t _ _ _ ⟨rfl,rfl,rfl,hz⟩;cases z with
 |true=>
  refine Zb ?_;refine sh ?_;exact retF _ rfl (zi rfl) R2 ⟨false,rfl,fun h=>absurd h (by simp),fun hV=>absurd (hz.2 ⟨hV.bl,hV.free,hV.el⟩) (by simp)⟩
 |false=>
 refine Za ?_;obtain ⟨g1,g2,g3⟩:=hz.1 rfl;clear hz;repeat (first|refine zg R6 hr1 R2 ?_|refine zR ?_)
 refine zN ?_;have hB1:=hB.ext hx1 (Nat.le_succ n);have hO1:=hO.ext hx1 (Nat.le_succ n);have hF1:=hFr.ext hx1 (Nat.le_succ n);have hE1:=hE.ext hx1 (Nat.le_succ n);have hEq1:=hEq.ext hx1 (Nat.le_succ n);refine zQ (α:=Nat) (fun j=>[(1,.pointer (some ⟨3*n+2,0,none⟩)),(34,.slice aB p.blocks.length cB),(35,.int .i64 (p.blocks.length:Int)),(36,.int .i64 (j:Int))]) (fun j h' n' w=>h1=h'∧n'=n+1∧w=[]∧j≤p.blocks.length∧∀i d,i<j→p.blocks[i]?=some d→1≤d∧d≤32) (fun j=>p.blocks.length-j) 0 ⟨rfl,rfl,rfl,rfl,trivial⟩ ⟨rfl,rfl,rfl,Nat.zero_le _,fun i d hi=>absurd hi (Nat.not_lt_zero i)⟩ (by show p.blocks.length-0<LL;unfold LL;omega) ?_;rintro j t _ _ _ ⟨rfl,rfl,rfl,hj,hbs⟩;refine zN ?_;by_cases hjB:j≠p.blocks.length
 ·obtain ⟨d,hd⟩:∃d,p.blocks[j]?=some d:=⟨p.blocks[j]'zo,List.getElem?_eq_getElem zo⟩;obtain ⟨bB,oB,xB,csB,rfl,hbB,hxB,hcB,hcapB,hleB,heB⟩:=hB.inv zo;have hcell:csB[oB+j]?=some (.int .i64 d):=yX heB (by rw [i64s,List.getElem?_map,hd];rfl);have hxB1:h1 bB=some xB:=by rw [hx1 bB hbB];exact hxB
  refine sh ?_;refine Zb ?_;refine yR R8 zo ?_;refine zg R6 hxB1 (v:=.int .i64 d) ⟨hcB,(by rw [←hcell];congr 1;omega)⟩ ?_;refine sh ?_;by_cases hd1:d<1
  ·refine sh ?_;refine Zb ?_;refine sh ?_;exact retF _ rfl (zi rfl) R2 ⟨false,rfl,fun h=>absurd h (by simp),fun hV=>by have:=hV.b d (List.mem_of_getElem? hd);omega⟩
  by_cases hd2:32<d
  ·refine sh ?_;refine Zb ?_;refine sh ?_;exact retF _ rfl (zi rfl) R2 ⟨false,rfl,fun h=>absurd h (by simp),fun hV=>by have:=hV.b d (List.mem_of_getElem? hd);omega⟩
  refine sh ?_;refine Za ?_;refine sh ?_;refine goOn (j+1) (by show p.blocks.length-(j+1)<p.blocks.length-j;omega) ⟨rfl,rfl,rfl,by show Value.int .i64 _=Value.int .i64 _;congr 1,trivial⟩ ⟨rfl,rfl,rfl,by show j+1≤p.blocks.length;omega,fun i d' hi hd'=>?_⟩;by_cases hij:i<j
  ·exact hbs i d' hij hd'
  have:i=j:=zo;subst this;rw [hd] at hd';injection hd' with hd'
  omega
 have hjB:j=p.blocks.length:=Classical.not_not.1 hjB;have hbs':∀d∈p.blocks,1≤d∧d≤32:=fun d hd=>by
  obtain ⟨i,hi,e⟩:=List.getElem_of_mem hd;exact hbs i d zo (by rw [List.getElem?_eq_getElem hi,e])
 clear hbs;refine sh ?_;refine Za ?_;repeat (first|refine zg R6 hr1 R2 ?_|refine zR ?_)
 refine z8 _ R5 (fF (k+1) hO1 hB1 hok.os zo) ?_;rintro _ ⟨b1,rfl,hb1⟩;cases b1 with
 |false=>
  refine sh ?_;refine Zb ?_;refine sh ?_;exact retF _ rfl (zi rfl) R2 ⟨false,rfl,fun h=>absurd h (by simp),fun hV=>hb1.2 hV.obj⟩
 |true=>
 by_cases hofl:(p.objFree.length:Int)=fr;case neg=>
  repeat (first|refine zg R6 hr1 R2 ?_|refine zR ?_)
  refine zN ?_;refine Zb ?_;refine sh ?_;exact retF _ rfl (zi rfl) R2 ⟨false,rfl,fun h=>absurd h (by simp),fun hV=>absurd hV.ofl hofl⟩
 repeat (first|refine zg R6 hr1 R2 ?_|refine zR ?_)
 refine z8 _ R5 (tY k hF1 hok.fs zo) ?_;rintro _ ⟨b2,rfl,hb2⟩;cases b2 with
 |false=>
  refine sh ?_;refine Zb ?_;refine sh ?_;exact retF _ rfl (zi rfl) R2 ⟨false,rfl,fun h=>absurd h (by simp),fun hV=>hb2.2 hV.ofs⟩
 |true=>
 refine sh ?_;refine Za ?_;repeat (first|refine zg R6 hr1 R2 ?_|refine zR ?_)
 refine zN ?_;refine zQ (α:=Nat) (fun j=>[(1,.pointer (some ⟨3*n+2,0,none⟩)),(68,.slice aE p.eqs.length cE),(69,.int .i64 (p.eqs.length:Int)),(70,.int .i64 (j:Int))]) (fun j h' n' w=>Ext (n+1) h1 h'∧n+1≤n'∧w=[]∧j≤p.eqs.length∧∀i q,i<j→p.eqs[i]?=some q→zc2 p.blocks q.es∧(q.fr.length:Int)=fr∧∀s∈q.rhs::q.fr,xz s) (fun j=>p.eqs.length-j) 0 ⟨rfl,rfl,rfl,rfl,trivial⟩ ⟨Ext.refl _ _,Nat.le_refl _,rfl,Nat.zero_le _,fun i d hi=>absurd hi (Nat.not_lt_zero i)⟩ (by show p.eqs.length-0<LL;unfold LL;omega) ?_;rintro i t h2 n2 _ ⟨hx2,hn2,rfl,hi,hqs⟩;refine zN ?_;by_cases hiE:i=p.eqs.length
 ·refine sh ?_;refine Za ?_;refine sh ?_;refine retF _ rfl (zi rfl) R2 ⟨true,rfl,fun _=>⟨g1,g2,g3,hbs',hb1.1 rfl,hofl,hb2.1 rfl,fun q hq=>?_⟩,fun _=>rfl⟩;obtain ⟨i',hi',e⟩:=List.getElem_of_mem hq;exact hqs i' q zo (by rw [List.getElem?_eq_getElem hi',e])
 obtain ⟨q,hq⟩:∃q,p.eqs[i]?=some q:=⟨p.eqs[i]'zo,List.getElem?_eq_getElem zo⟩;have hqm:=List.mem_of_getElem? hq;obtain ⟨q1,q2,q3,q4⟩:=hok.qs q hqm;obtain ⟨ve,vf,hce,hve,hvf⟩:=hEq1.get hq;obtain ⟨ae,le,cce,rfl,_⟩:=hve.len;obtain ⟨af,lf,ccf,rfl,_⟩:=hvf.len;have hle:=hve.lenEq (m:=q.es.length) zo (yQ _);have hlf:=hvf.lenEq (m:=q.fr.length) zo (by simp [strs]);subst hle hlf;obtain ⟨bE,oE,xE,csE,rfl,hbE,hxE,hcE,hcapE,hleE,heE⟩:=hE1.inv zo;have hcell:(csE.drop (oE+i*3)).take 3=[.slice ae q.es.length cce,.slice af q.fr.length ccf,.string ⟨⟨q.rhs⟩⟩]:=by rw [uF heE zo,hce]
 have hxE2:h2 bE=some xE:=by rw [hx2 bE hbE];exact hxE
 refine sh ?_;refine Zb ?_;refine yR R8 zo ?_;refine zI (v:=.agg #[.slice ae q.es.length cce,.slice af q.fr.length ccf,.string ⟨⟨q.rhs⟩⟩]) R5 (zB R2 hxE2 hcE zo (by rw [←hcell];congr 2<;>omega)) ?_;refine zT R5 ?_;refine zv [.slice ae q.es.length cce,.slice af q.fr.length ccf,.string ⟨⟨q.rhs⟩⟩] R7 rfl (ze _ _ _) rfl (by show 3*n≤3*n2+2;omega) ?_;rw [yH];generalize hh:upd h2 (3*n2+2) _=h3;have hp3:∃ty,h3 (3*n2+2)=some (.row [.slice ae q.es.length cce,.slice af q.fr.length ccf,.string ⟨⟨q.rhs⟩⟩] ty):=⟨_,by rw [←hh,ze]⟩;obtain ⟨ty3,hp3⟩:=hp3;have hx3:Ext n2 h2 h3:=by rw [←hh];exact Ext.upd zo
 clear hh;have hx13:Ext (n+1) h1 h3:=hx2.trans hx3 hn2;have hr3:h3 (3*n+2)=some (.row [.slice aB p.blocks.length cB,.int .i64 fr,.slice aO p.obj.length cO,.slice aF p.objFree.length cF,.slice (some ⟨bE,oE,none⟩) p.eqs.length cE] ty1):=by rw [hx13 _ zo];exact hr1
 refine zN ?_;repeat (first|refine zg R6 hp3 R2 ?_|refine zg R6 hr3 R2 ?_|refine zR ?_)
 refine z8 _ R5 (fF (k+1) (hve.ext hx13 (show n+1≤n2+1 by omega)) (hB1.ext hx13 (show n+1≤n2+1 by omega)) q3 zo) ?_;rintro _ ⟨b3,rfl,hb3⟩;cases b3 with
 |false=>
  refine sh ?_;refine Zb ?_;refine sh ?_;exact retF _ rfl (zi rfl) R2 ⟨false,rfl,fun h=>absurd h (by simp),fun hV=>hb3.2 (hV.eqs q hqm).1⟩
 |true=>
 by_cases hqf:(q.fr.length:Int)=fr;case neg=>
  repeat (first|refine zg R6 hp3 R2 ?_|refine zg R6 hr3 R2 ?_|refine zR ?_)
  refine zN ?_;refine Zb ?_;refine sh ?_;exact retF _ rfl (zi rfl) R2 ⟨false,rfl,fun h=>absurd h (by simp),fun hV=>absurd (hV.eqs q hqm).2.1 hqf⟩
 repeat (first|refine zg R6 hp3 R2 ?_|refine zg R6 hr3 R2 ?_|refine zR ?_)
 refine wn (cs:=[.string ⟨⟨q.rhs⟩⟩]) R5 ?_;have hx4:Ext (n2+1) h3 (upd h3 (3*(n2+1)+2) (some (.row [.string ⟨⟨q.rhs⟩⟩] 9))):=Ext.upd zo;have hp4:(upd h3 (3*(n2+1)+2) (some (.row [.string ⟨⟨q.rhs⟩⟩] 9))) (3*n2+2)=_:=(hx4 _ zo).trans hp3;repeat (first|refine zg R6 hp4 R2 ?_|refine zR ?_)
 obtain ⟨v',h5,n5,ha5,hn5,hx5,hs5,a5,rfl⟩:=gC (E:=env) (h:=upd h3 (3*(n2+1)+2) (some (.row [.string ⟨⟨q.rhs⟩⟩] 9))) (n:=n2+1+1) (sT:=23) (b:=3*(n2+1)+2) (L:=1) (m:=q.fr.length) (old:=[.string ⟨⟨q.rhs⟩⟩]) rfl rfl rfl zd (uB ((hvf.ext hx13 (show n+1≤n2+1 by omega)).ext hx4 zs)) zo (zix _) (ze _ _ _) zo rfl (by rw [mJ,Nat.mul_one]);refine yJ R5 ha5 ?_;refine z8 _ R5 (tY k (S:=q.rhs::q.fr) hs5 q4 (by rw [List.length_cons];omega)) ?_;rintro _ ⟨b4,rfl,hb4⟩;cases b4 with
 |false=>
  refine sh ?_;refine Zb ?_;refine sh ?_;exact retF _ rfl (zi rfl) R2 ⟨false,rfl,fun h=>absurd h (by simp),fun hV=>hb4.2 (hV.eqs q hqm).2.2⟩
 |true=>
 refine sh ?_;refine Za ?_;refine sh ?_;refine goOn (i+1) (by show p.eqs.length-(i+1)<p.eqs.length-i;omega) ⟨rfl,rfl,rfl,by show Value.int .i64 _=Value.int .i64 _;congr 1,trivial⟩ ⟨fun b hb=>(hx5 b zo).trans ((hx4 b zo).trans (hx13 b hb)),by show n+1≤n5;omega,rfl,by show i+1≤p.eqs.length;omega,fun i' q' hi' hq'=>?_⟩;by_cases hij:i'<i
 ·exact hqs i' q' hij hq'
 have:i'=i:=zo;subst this;rw [hq] at hq';injection hq' with hq'
 subst hq';exact ⟨hb3.1 rfl,hqf,hb4.1 rfl⟩
end
section
def RV (kr:Nat)(R:List UInt8→Prop):Prop:=∀(j:Nat) {h:HF},GK.G h→∀(n:Nat),20≤n→∀(s:List UInt8),R s→VF (cal (kr+j)) 82 [.string ⟨⟨s⟩⟩] h n fun v=>∃b:Bool,v=.bool b∧(b=true↔xz s)
theorem iK (k:Nat){R:List UInt8→Prop}(hR:RV (k+1) R){h:HF}(hG:GK.G h){n:Nat}(hn:20≤n){a:Option Addr}{len cap:Nat}{S:List (List UInt8)}(hs:Sl h n 1 (.slice a len cap) (strs S))(hS:∀s∈S,R s)(hb:S.length<1000000):VF (cal (k+2)) 81 [.slice a len cap] h n fun v=>∃b:Bool,v=.bool b∧(b=true↔∀s∈S,xz s):=by
 refine zw (fn:=Tryz.f81) R4 ?_;have e1:=vi hs;subst e1;refine zN ?_;refine sh ?_;refine sh ?_;refine zQ (α:=Nat) (fun z=>[(0,.slice a S.length cap),(5,.slice a S.length cap),(6,.int .i64 (S.length:Int)),(7,.int .i64 (z:Int))]) (fun z h' n' w'=>h=h'∧n'=n∧w'=[]∧z≤S.length∧∀i s,i<z→S[i]?=some s→xz s) (fun z=>S.length-z) 0 ⟨rfl,rfl,rfl,rfl,trivial⟩ ⟨rfl,rfl,rfl,Nat.zero_le _,fun i d hi=>absurd hi (Nat.not_lt_zero i)⟩ (by show S.length-0<LL;unfold LL;omega) ?_;rintro z t _ _ _ ⟨rfl,rfl,rfl,hz,hall⟩;refine zN ?_;by_cases hze:z=S.length
 ·refine sh ?_;refine Za ?_;refine sh ?_;refine retF _ rfl (zi rfl) R2 ⟨true,rfl,fun _ s hs=>?_,fun _=>rfl⟩;obtain ⟨i,hi,e⟩:=List.getElem_of_mem hs;exact hall i s zo (by rw [List.getElem?_eq_getElem hi,e])
 obtain ⟨s,hsz⟩:∃s,S[z]?=some s:=⟨S[z]'zo,List.getElem?_eq_getElem zo⟩;have hmem:s∈S:=List.mem_of_getElem? hsz;refine sh ?_;refine Zb ?_;refine xi (f:=fun s=>Value.string ⟨⟨s⟩⟩) (j:=z) (dv:=s) R7 hs R2 hsz (fun _=>rfl) R4 fun _=>?_;refine sh ?_;refine zM ?_;refine z8 _ R5 (hR 0 hG _ hn s (hS s hmem)) ?_;rintro _ ⟨b,rfl,hb'⟩;cases b with
 |false=>
  refine sh ?_;refine Zb ?_;refine sh ?_;exact retF _ rfl (zi rfl) R2 ⟨false,rfl,fun h=>absurd h (by simp),fun hV=>hb'.2 (hV s hmem)⟩
 |true=>
 refine sh ?_;refine Za ?_;refine sh ?_;refine goOn (z+1) (by show S.length-(z+1)<S.length-z;omega) ⟨rfl,rfl,rfl,by show Value.int .i64 _=Value.int .i64 _;congr 1,trivial⟩ ⟨rfl,rfl,rfl,by show z+1≤S.length;omega,fun i s' hi hs'=>?_⟩;by_cases hij:i<z
 ·exact hall i s' hij hs'
 have:i=z:=zo;subst this;rw [hsz] at hs';injection hs' with hs'
 subst hs';exact hb'.1 rfl
end
section
variable {h:HF}{cap len n:Nat}{a:Option Addr}{S:List (List UInt8)}
theorem zk5 (k:Nat)(h:HF)(n:Nat)(s:List UInt8):VF (cal (k+1)) 92 [.string ⟨⟨s⟩⟩] h n fun v=>v=.bool (!(s==[48])):=by
 refine zw (fn:=Tryz.f92) R4 ?_;refine zG ?_;refine sQn (s==[48]) rfl ?_;refine zG ?_;refine zf ?_;rfl
theorem zk7 (k:Nat)(hs:Sl h n 1 (.slice a len cap) (strs S))(hb:S.length<1000000):VF (cal (k+2)) 137 [.slice a len cap,.func (.func 92) #[] #[]] h n fun v=>∃i:Int,v=.int .i64 i∧(i<0↔∀s∈S,s=[48]):=by
 have hl:=vi hs;refine zw (fn:=Tryz.f137) R4 ?_;refine zG ?_;refine sF (α:=Nat) (fun z=>[(0,.slice a len cap),(1,.func (.func 92) #[] #[]),(7,.int .i64 (len:Int)),(8,.int .i64 (z:Int))])
  (fun z h' n' w'=>w'=[]∧n≤n'∧Ext n h h'∧z≤len∧∀s∈S.take z,s=[48]) (fun z=>len-z) 0 ⟨rfl,Nat.le_refl _,Ext.refl _ _,Nat.zero_le _,fun s hs=>absurd hs (by simp)⟩ ?_
 rintro j t h1 n1 _ ⟨rfl,y1,x1,hj,hall⟩;have y1:n≤n1:=y1;have x1:Ext n h h1:=x1;have hj:j≤len:=hj;have hall:∀s∈S.take j,s=[48]:=hall;refine zG ?_;by_cases qj:(j:Int)<(len:Int)
 ·obtain ⟨s,hg⟩:∃s,S[j]?=some s:=⟨_,List.getElem?_eq_getElem zo⟩;obtain ⟨b3,o3,e3,m3,r3,t3⟩:=xp (hs.ext x1 y1) hg;refine zG ?_;refine zA (v:=.func (.func 92) #[] #[]) R5 ?_;refine zG ?_;refine sI e3 r3 ?_;refine sL t3 m3 0 ?_;refine sC (zk5 _ _ _ s).cx ?_;rintro _ h4 n4 rfl y4 x4;by_cases h48:s=[48]
  ·subst h48;rw [show (!(([48]:List UInt8)==[48]))=false from rfl];refine zG ?_;exact sK (j+1) ⟨rfl,zo,(zx:Tx n h n4 h4).2,by show j+1≤len;omega,fun s hs=>by
    rw [xf hg] at hs;rcases List.mem_append.1 hs with h|h
    ·exact hall s h
    ·exact List.mem_singleton.1 h⟩
  rw [show (!(s==[48]))=true from by simp [h48]];refine zG ?_;refine zf ?_;exact ⟨_,rfl,fun h=>absurd h zo,fun h=>absurd (h s (List.mem_of_getElem? hg)) h48⟩
 refine zG ?_;refine zf ?_;exact ⟨_,rfl,fun _=>by rwa [show j=S.length by omega,List.take_length] at hall,fun _=>by omega⟩
theorem zfj (k:Nat)(hs:Sl h n 1 (.slice a len cap) (strs S))(hb:S.length<1000000):VF (cal (k+4)) 50 [.slice a len cap] h n fun v=>∃b:Bool,v=.bool b∧(b=true↔∀s∈S,s=[48]):=by
 have hc:VF (cal (k+3)) 91 [.slice a len cap,.func (.func 92) #[] #[]] h n fun v=>∃b,v=.bool b∧(b=false↔∀s∈S,s=[48]):=by
  refine zw (fn:=Tryz.f91) R4 ?_;refine zG ?_;refine zA (v:=.func (.func 92) #[] #[]) R5 ?_;refine sC (zk7 _ hs hb).cx ?_;rintro _ h1 n1 ⟨i,rfl,hi⟩ y1 x1;by_cases h0:i<0
  ·refine zG ?_;refine zf ?_;exact ⟨_,rfl,fun _=>hi.1 h0,fun _=>rfl⟩
  refine zG ?_;refine zf ?_;exact ⟨_,rfl,fun h=>(by cases h),fun h=>absurd (hi.2 h) h0⟩
 refine zw (fn:=Tryz.f50) R4 ?_;refine zG ?_;refine sC hc.cx ?_;rintro _ h1 n1 ⟨b,rfl,hb⟩ y1 x1;cases b with
 |false=>
  refine zG ?_;refine zf ?_;exact zye (hb.1 rfl)
 |true=>
  refine zG ?_;refine zf ?_;exact zno (fun h=>by cases hb.2 h)
end
section
variable {q:Rat}{h:HF}{n:Nat}
theorem ShT.ratT (h:Sz 29 q):ShT (ratT q):=by
 have key:∀V,V<2^29→(decT V).length≤9:=fun V hV=>by
  unfold decT;split
  ·decide
  rw [List.length_map,ke];exact wc 9 V (Nat.lt_of_lt_of_le hV (by decide+kernel))
 have h1:=key _ h.1;have h2:=key _ h.2;unfold ShT;refine ⟨?_,?_,?_,?_,?_⟩
 ·unfold Go.Proofs.YtfajmfoofmienaaGreatDoor.ratT;simp only [List.length_append];split<;>split<;>simp<;>omega
 ·rw [tf];exact h1
 ·rw [tf];show (if q.den=1 then [] else decT q.den).length≤9;split
  ·exact Nat.zero_le _
  exact h2
 ·rw [tf]
 exact ((ry _).1 ⟨q,rfl⟩).2
theorem rW (k:Nat)(h:HF)(n:Nat)(hq:Sz 29 q):CX (cal (k+5)) 114 [.string ⟨⟨ratT q⟩⟩] h n fun v _ _=>∃x y,v=.tuple #[.agg #[.int .i64 x,.int .i64 y],.bool true]∧SR (ratT q) x y:=by
 have hs:=ShT.ratT hq;refine yh (mX k h n (ratT q) (by have:=hs.1;omega)) ?_;rintro v h' n' w ⟨h1,h2,h3,x,y,ok,rfl,hk,ht⟩;have ht:=ht hs;subst ht;obtain ⟨q',e,rfl,rfl,b1,b2⟩:=hk rfl;refine ⟨h1,h2,h3,_,_,rfl,?_⟩;have e2:=rk e;subst e2;have:=q'.den_pos;exact ⟨by rw [zX],by rw [zX],zo,zo⟩
section
variable {x y:Rat}
theorem mW (k:Nat)(h:HF)(n:Nat)(hx:Sz 29 x)(hy:Sz 29 y):CX (cal (k+6)) 85 [.string ⟨⟨ratT x⟩⟩,.string ⟨⟨ratT y⟩⟩] h n fun v _ _=>∃a b c d,v=.tuple #[.agg #[.int .i64 a,.int .i64 b],.agg #[.int .i64 c,.int .i64 d],.bool true]∧SR (ratT x) a b∧SR (ratT y) c d:=by
 refine zk (fn:=Tryz.f85) R4 ?_;refine zG ?_;refine sA ?_;intro h11 p11 x11;refine sA ?_;intro h12 p12 x12;refine zG ?_;refine sC (rW _ _ _ hx) ?_;rintro _ h13 n13 ⟨a,b,rfl,m13⟩ y13 x13;refine zG ?_;refine sA ?_;intro h18 p18 x18;refine sS [.int .i64 a,.int .i64 b] ?_;intro h19 p19 o19;refine zG ?_;refine sC (rW _ _ _ hy) ?_;rintro _ h20 n20 ⟨c,d,rfl,m20⟩ y20 x20;refine zG ?_;refine sA ?_;intro h25 p25 x25;refine sS [.int .i64 c,.int .i64 d] ?_;intro h26 p26 o26;refine zG ?_;refine zl [0,0,1,7,15] rfl ?_;refine zH ?_;refine dS [.int .i64 a,.int .i64 b] ?_;intro h27 p27 o27;refine dS [.int .i64 c,.int .i64 d] ?_;intro h28 p28 o28;refine zq ?_;exact ⟨_,_,_,_,rfl,m13,m20⟩
theorem SR.sub {a b:List UInt8}{x y u v:Int}(p:SR a x y)(q:SR b u v):Rat.divInt (x*v-u*y) (y*v)=z0 a-z0 b:=by
 rw [p.e1,p.e2,q.e1,q.e2,Rat.sub_eq_add_neg,Rat.add_def',←Rat.divInt_ofNat,Int.natCast_mul,Rat.neg_num,Rat.neg_den,Int.neg_mul,←Int.sub_eq_add_neg]
theorem addT (k:Nat)(g:GG h n)(hx:Sz 29 x)(hy:Sz 29 y):VF (cal (k+7)) 48 [.string ⟨⟨ratT x⟩⟩,.string ⟨⟨ratT y⟩⟩] h n fun v=>v=.string ⟨⟨ratT (x+y)⟩⟩:=by
 refine zw (fn:=Tryz.f48) R4 ?_;refine zG ?_;refine sC (mW _ _ _ hx hy) ?_;rintro _ h11 n11 ⟨a,b,c,d,rfl,p,q⟩ y11 x11;have e1:=p.b1;have e2:=p.b2;have e3:=q.b1;have e4:=q.b2;refine zG ?_;refine sA ?_;intro h20 p20 x20;refine sA ?_;intro h21 p21 x21;refine sS [.int .i64 a,.int .i64 b] ?_;intro h22 p22 o22;refine sS [.int .i64 c,.int .i64 d] ?_;intro h23 p23 o23;refine zG ?_;have m0:=mul9 (a:=a) (b:=d) zo zo;refine st_mul rfl rfl rfl rfl rfl rfl zo ?_;refine zG ?_;have m1:=mul9 (a:=c) (b:=b) zo zo;refine st_mul rfl rfl rfl rfl rfl rfl zo ?_;refine zG ?_;have m2:=zid (a:=b) (b:=d) zo zo;refine st_mul rfl rfl rfl rfl rfl rfl zo ?_;refine sC (oG _ (g.x zx) (N:=a*d+c*b) (D:=b*d) zo zo) ?_;rintro _ h27 n27 rfl y27 x27;refine zf ?_;exact by rw [SR.add p q,zX,zX];rfl
theorem subT (k:Nat)(g:GG h n)(hx:Sz 29 x)(hy:Sz 29 y):VF (cal (k+7)) 102 [.string ⟨⟨ratT x⟩⟩,.string ⟨⟨ratT y⟩⟩] h n fun v=>v=.string ⟨⟨ratT (x-y)⟩⟩:=by
 refine zw (fn:=Tryz.f102) R4 ?_;refine zG ?_;refine sC (mW _ _ _ hx hy) ?_;rintro _ h11 n11 ⟨a,b,c,d,rfl,p,q⟩ y11 x11;have e1:=p.b1;have e2:=p.b2;have e3:=q.b1;have e4:=q.b2;refine zG ?_;refine sA ?_;intro h20 p20 x20;refine sA ?_;intro h21 p21 x21;refine sS [.int .i64 a,.int .i64 b] ?_;intro h22 p22 o22;refine sS [.int .i64 c,.int .i64 d] ?_;intro h23 p23 o23;refine zG ?_;have m0:=mul9 (a:=a) (b:=d) zo zo;refine st_mul rfl rfl rfl rfl rfl rfl zo ?_;refine zG ?_;have m1:=mul9 (a:=c) (b:=b) zo zo;refine st_mul rfl rfl rfl rfl rfl rfl zo ?_;refine zG ?_;have m2:=zid (a:=b) (b:=d) zo zo;refine st_mul rfl rfl rfl rfl rfl rfl zo ?_;refine sC (oG _ (g.x zx) (N:=a*d-c*b) (D:=b*d) zo zo) ?_;rintro _ h27 n27 rfl y27 x27;refine zf ?_;exact by rw [SR.sub p q,zX,zX];rfl
theorem mulT (k:Nat)(g:GG h n)(hx:Sz 29 x)(hy:Sz 29 y):VF (cal (k+7)) 49 [.string ⟨⟨ratT x⟩⟩,.string ⟨⟨ratT y⟩⟩] h n fun v=>v=.string ⟨⟨ratT (x*y)⟩⟩:=by
 refine zw (fn:=Tryz.f49) R4 ?_;refine zG ?_;refine sC (mW _ _ _ hx hy) ?_;rintro _ h11 n11 ⟨a,b,c,d,rfl,p,q⟩ y11 x11;have e1:=p.b1;have e2:=p.b2;have e3:=q.b1;have e4:=q.b2;refine zG ?_;refine sA ?_;intro h20 p20 x20;refine sA ?_;intro h21 p21 x21;refine sS [.int .i64 a,.int .i64 b] ?_;intro h22 p22 o22;refine sS [.int .i64 c,.int .i64 d] ?_;intro h23 p23 o23;refine zG ?_;have m0:=mul9 (a:=a) (b:=c) zo zo;refine st_mul rfl rfl rfl rfl rfl rfl zo ?_;refine zG ?_;have m1:=zid (a:=b) (b:=d) zo zo;refine st_mul rfl rfl rfl rfl rfl rfl zo ?_;refine sC (oG _ (g.x zx) (N:=a*c) (D:=b*d) zo zo) ?_;rintro _ h27 n27 rfl y27 x27;refine zf ?_;exact by rw [SR.mul p q,zX,zX];rfl
end
end
section
theorem zlg (k:Nat){h:HF}{n:Nat}(g:GG h n){Ns:List Nat}{ds:List MD}{M:Nat→Nat→Nat→Rat}{E:List Ent}{aE aM:Option Addr}{cE lM cM:Nat}(ms:MS h n (.slice aM lM cM) ds M)(hd:ds.map (·.n)=Ns)(hN:∀N∈Ns,N≤8)(hs:Sl h n 4 (.slice aE E.length cE) (ents E))(hE:∀e∈E,EntD Ns e)(hl:E.length<1000000)(hm:∀k i j,Sz 27 (M k i j))(hz:∀P Q,E=P++Q→Sz 29 (fm M P)):
  VF (cal (k+14)) 78 [.slice aE E.length cE,.slice aM lM cM] h n fun v=>v=.string ⟨⟨ratT (fm M E)⟩⟩:=by
 have hEb:=hs.below;refine zw (fn:=Tryz.f78) R4 ?_;refine zG ?_;refine sB [.slice aM lM cM] ?_;intro h1 p1 x1;refine zG ?_;refine sA ?_;intro h2 p2 x2;refine sS [.string ⟨⟨[48]⟩⟩] ?_;intro h3 p3 o3;refine zG ?_;refine sC (zfh _ _ _ _ _ _) ?_;rintro _ h6 n6 ⟨rfl,rfl,e6,p6⟩ y6 x6;refine zG ?_;refine jL rfl rfl ?_;intro hB0 bd0 bl0 xB;obtain ⟨e3,q3⟩:∃e,hB0 (3*n+2)=some (.row [.slice aM lM cM] e):=⟨_,zp⟩;obtain ⟨e5,q5⟩:∃e,hB0 (3*(n+1)+2)=some (.row [.string ⟨⟨[48]⟩⟩] e):=⟨_,zp⟩;have q7:hB0 (3*(n+1+1)+2)=some (.row [.slice aE E.length cE] e6):=zp;have xh:Ext n h hB0:=(zx:Tx n h (n+1+1+1) hB0).2;clear p1 x1 p2 x2 p3 o3 p6 x6 xB;obtain ⟨lo,hlo⟩:∃lo,lo=n+1+1+1+2:=⟨_,rfl⟩;obtain ⟨l,hl0⟩:∃l,l=3*(n+1+1+1+1)+2:=⟨_,rfl⟩;obtain ⟨bu,hbu⟩:∃b,b=3*(n+1)+2:=⟨_,rfl⟩;rw [←hl0,←hbu] at bl0;rw [←hbu] at q5;rw [←hlo,←hl0,←hbu];refine yh (gv (k+12) (E:=E) (I:=fun P h' n'=>h' l=hB0 l∧∃e,h' bu=some (.row [.string ⟨⟨ratT (fm M P)⟩⟩] e)) (W:=fun c=>c=bu∨c=l∨3*lo≤c) (V:=fun c=>c=bu) zo q7 (hs.ext xh zo) hl (fun ad e=>?_) ⟨rfl,e5,q5⟩ (fun c hc=>by omega) ?_) ?_
 ·subst e;have hb:ad.block<3*n:=hEb;rintro (h3|h3|h3)<;>omega
 ·intro P g1 R b0 hr nr bb off cc hEs hg1 hgb0 hnr hfr ⟨hlr,eu,pu⟩ hsg hWb hbb;have hbbu:bb≠bu:=fun h=>hWb (.inl h);obtain ⟨e1,g2,rfl⟩:∃e g2,g1=e::g2:=by
   cases g1 with
   |nil=>exact absurd rfl hg1
   |cons e g2=>exact ⟨e,g2,rfl⟩
  obtain ⟨k0,N,i1,j1,v1,rfl,hk0,_⟩:=hE e1 (by rw [hEs];simp);have hb0:b0=(k0:Int):=(hgb0 _ List.mem_cons_self).symm;subst hb0;obtain ⟨g1,hg1e⟩:∃g,g=(⟨(k0:Int),(i1:Int),(j1:Int),ratT v1⟩:Ent)::g2:=⟨_,rfl⟩;rw [←hg1e] at hEs hsg hgb0 ⊢;have hg1p:0<g1.length:=by rw [hg1e];simp
  clear hg1e hg1;obtain ⟨d,hdk,hdn⟩:∃d,ds[k0]?=some d∧d.n=N:=by
   rw [←hd,List.getElem?_map] at hk0;cases h:ds[k0]? with
   |none=>rw [h] at hk0;cases hk0
   |some d=>rw [h] at hk0;exact ⟨d,rfl,Option.some.inj hk0⟩
  subst hdn;have hN8:=hN d.n (List.mem_of_getElem? hk0);have h64:d.n*d.n≤8*8:=Nat.mul_le_mul hN8 hN8;refine jK (hlr.trans bl0) rfl rfl ?_;refine zG ?_;refine ⟨trivial,trivial,fun hM L1=>?_⟩;have hq:∀c,c<3*lo→c≠l→c≠bu→hM c=hB0 c:=fun c h1 h2 h3=>(L1.1 c h2).trans (hfr c zo (fun h=>by rcases h with h|h|h;exact h3 h;exact h2 h;omega));have q3M:=(hq (3*n+2) zo zo zo).trans q3;have puM:=(L1.1 bu zo).trans pu;have XM:Ext n h hM:=fun c hc=>(hq c zo zo zo).trans (xh c hc);have gM:GG hM nr:=g.ext XM zo;have msM:=ms.ext XM (show n≤nr by omega);have sgM:Sl hM nr 4 (.slice (some ⟨bb,off,none⟩) g1.length cc) (ents g1):=hsg.keep (fun a l' cap e=>by cases e;exact L1.1 _ (fun h=>hWb (.inr (.inl h)))) (Nat.le_refl _);refine zG ?_;obtain ⟨b2,o2,c2,e2,m2,r2,t2,_,f2⟩:=RS.at' zd msM.r hdk;have f2:c2=[.int .i64 (d.n:Int),.int .i64 (d.n:Int),.slice d.a (d.n*d.n) d.c]:=f2;subst f2;refine sI e2 r2 ?_;refine sL t2 m2 0 ?_;refine sA ?_;intro h7 p7 x7;refine sSn (n0:=nr) [.int .i64 (d.n:Int),.int .i64 (d.n:Int),.slice d.a (d.n*d.n) d.c] ?_;intro h8 p8 o8;refine zG ?_;have x8:Ext nr hM h8:=(zx:Tx nr hM _ h8).2;have hgl:g1.length<1000000:=by
   have e2:E.length=P.length+(g1.length+R.length):=by rw [hEs];simp
   omega
  have pu8:=(x8 bu zo).trans puM;refine sF (α:=Nat) (fun z=>[(3,.pointer (some ⟨3*n+2,0,none⟩)),(5,.pointer (some ⟨bu,0,none⟩)),(8,.pointer (some ⟨3*nr+2,0,none⟩)),(19,.slice (some ⟨bb,off,none⟩) g1.length cc),(20,.int .i64 (g1.length:Int)),(21,.int .i64 (z:Int))])
   (fun z h' n' w'=>nr+1≤n'∧(∀b,b<3*(nr+1)→b≠bu→h' b=h8 b)∧(∃e,h' bu=some (.row [.string ⟨⟨ratT (fm M (P++g1.take z))⟩⟩] e))∧(∀b∈w',b=bu∨b=l)∧l∈w'∧(0<z→bu∈w')∧z≤g1.length)
   (fun z=>g1.length-z) 0 ⟨Nat.le_refl _,fun _ _ _=>rfl,⟨eu,by rw [List.take_zero,List.append_nil];exact pu8⟩,fun b hb=>.inr (List.mem_singleton.1 hb),List.mem_singleton.2 rfl,fun h=>absurd h (Nat.lt_irrefl _),Nat.zero_le _⟩ ?_
  rintro z t h9 n9 w9 ⟨y9,x9,⟨eu9,pu9⟩,hw9,hl9,hv9,hz9⟩;have y9:nr+1≤n9:=y9;have hz9:z≤g1.length:=hz9;have hw9:∀b∈w9,b=bu∨b=l:=hw9;have hl9:l∈w9:=hl9;have q99:=(x9 (3*nr+2) zo zo).trans p8;have q39:=(x9 (3*n+2) zo zo).trans ((x8 _ zo).trans q3M);have X9:Ext n h h9:=fun c hc=>(x9 c zo zo).trans ((x8 c zo).trans (XM c hc));have g9:GG h9 n9:=g.ext X9 zo;have ms9:=ms.ext X9 (show n≤n9 by omega);refine zG ?_;by_cases qz:(z:Int)<(g1.length:Int)
  ·obtain ⟨e0,hge⟩:∃e,g1[z]?=some e:=⟨_,List.getElem?_eq_getElem zo⟩;have hmem:=List.mem_of_getElem? hge;obtain ⟨k2,N2,i0,j0,v,rfl,hk2,hij,hjN2,sv⟩:=hE e0 (by rw [hEs];simp [hmem]);have hk2e:k2=k0:=by have:(k2:Int)=(k0:Int):=hgb0 _ hmem;omega
   subst hk2e;rw [hk0] at hk2;cases hk2;have hjN:j0<d.n:=hjN2;have hiN:i0<d.n:=zo;have eij:=tK hiN hjN;refine zG ?_;obtain ⟨bq,oq,eq1,mq,rq,tq⟩:=mn sgM hge;cases eq1;refine sI rfl rq ?_;have tq9:At h9 bb (off+z*4) _:=tq.keep ((x9 bb zo hbbu).trans (x8 bb zo));refine sL tq9 (show bb<3*n9 by omega) 0 ?_;refine sA ?_;intro h10 p10 x10;refine sSn (n0:=nr) [.int .i64 (k2:Int),.int .i64 (i0:Int),.int .i64 (j0:Int),.string ⟨⟨ratT v⟩⟩] ?_;intro h11 p11 o11;have X11:Ext n9 h9 h11:=(zx:Tx n9 h9 (n9+1) h11).2;have pu11:=(X11 bu zo).trans pu9;have q811:=(X11 _ zo).trans q99;have ms11:=ms9.ext X11 zs;have g11:=g9.ext X11 zs;clear x10 p10 o11;have hPz:P++g1.take (z+1)=P++g1.take z++[⟨(k2:Int),(i0:Int),(j0:Int),ratT v⟩]:=by rw [xf hge,List.append_assoc]
   have hzz:Sz 29 (fm M (P++g1.take z)):=hz _ (g1.drop z++R) (by rw [List.append_assoc,←List.append_assoc (g1.take z),List.take_append_drop];exact hEs);have hz1:Sz 29 (fm M (P++g1.take (z+1))):=hz _ (g1.drop (z+1)++R) (by rw [List.append_assoc,←List.append_assoc (g1.take (z+1)),List.take_append_drop];exact hEs);have hstep:fm M (P++g1.take z)+v*M k2 i0 j0=fm M (P++g1.take (z+1)):=by rw [hPz,zbi]
   have sv2:Sz 2 v:=FN.sz sv zd zd zd;obtain ⟨b12,o12,e12,mm12,r12,t12⟩:=xp (ms11.t _ _ hdk) (show ((tabL d.n (M k2)).map ratT)[i0*d.n+j0]?=some (ratT (M k2 i0 j0)) by rw [List.getElem?_map,wo hiN hjN];rfl);refine zG ?_;refine zl [0,0,2,0,8,0,32,0,128,480,0,1024,4064,8184,16376,32766,65535,131071] rfl ?_;refine zH ?_;refine dMu i0 d.n zo ?_;refine zH ?_;refine dI (j:=i0*d.n+j0) e12 r12 ?_;refine dL t12 mm12 0 ?_;refine dC (mulT _ (g11.x zx) (sv2.mono zd) ((hm k2 i0 j0).mono zd)).cx ?_;rintro _ h13 n13 rfl y13 x13;refine dC (addT _ (g11.x zx) hzz ((sv2.mul (hm k2 i0 j0)).mono zd)).cx ?_;rintro _ h14 n14 rfl y14 x14;have X14:Ext (n9+1) h11 h14:=fun c hc=>(x14 c zo).trans (x13 c hc);refine dSx (n0:=nr) [.string ⟨⟨ratT (fm M (P++g1.take z)+v*M k2 i0 j0)⟩⟩] ((X14 bu zo).trans pu11) ?_;intro h15 p15 s15;rw [hstep] at p15;have x15:∀b,b<3*n9→b≠bu→h15 b=h9 b:=fun b hb hn=>(s15.1 b hn).trans ((X14 b zo).trans (X11 b hb));clear x13 x14;refine zG ?_;exact sK (z+1) ⟨zo,fun b hb hn=>(x15 b zo hn).trans (x9 b hb hn),⟨_,p15⟩,qA (fun b hb=>.inl (List.mem_singleton.1 hb)) hw9,uS _ _ _ hl9,fun _=>uT (show bu<3*nr by omega) (List.mem_singleton.2 rfl),by show z+1≤g1.length;omega⟩
  have hze:z=g1.length:=zo;subst hze;rw [List.take_length] at pu9;refine zG ?_;refine ⟨trivial,(x9 l zo zo).trans (x8 l zo),fun h2 e2 L2=>?_⟩;refine ⟨⟨e2.trans hlr,eu9,(L2.1 bu zo).trans pu9⟩,zo,fun c hc hn=>(L2.1 c (fun h=>hn (.inr (.inl h)))).trans ((x9 c zo (fun h=>hn (.inl h))).trans ((x8 c hc).trans (L1.1 c (fun h=>hn (.inr (.inl h)))))),fun c hc=>?_,List.mem_cons_self,bu,List.mem_cons_of_mem _ (hv9 hg1p),rfl⟩;rcases List.mem_cons.1 hc with rfl|hc
  ·exact .inl (.inr (.inl rfl))
  rcases hw9 c hc with h|h
  ·exact .inl (.inl h)
  exact .inl (.inr (.inl h))
 rintro v h' n' w' ⟨⟨e1,eu,pu⟩,hn1,hf1,hw1,_⟩;have e2:h' (3*(n+1+1+1)+2)=hB0 (3*(n+1+1+1)+2):=hf1 _ zo (fun h=>by rcases h with h|h|h<;>omega);refine ⟨e1,e2,fun h2 hh2=>?_⟩;rw [mw,yc (fun c hc=>by have:=(hw1 c hc).1;omega)];have hk:Ext n h h2:=fun c hc=>(hh2 c zo zo).trans ((hf1 c zo (fun h=>by rcases h with h|h|h<;>omega)).trans (xh c hc));have pu2:=(hh2 bu zo zo).trans pu;have y2:n≤n':=zo;refine zG ?_;refine zf ?_;rfl
end
section
theorem zer (n:Nat):gro (3*n+2)=false:=by
 unfold gro;rw [show (3*n+2)%3=2 from zo];rfl
end
section
theorem np (k:Nat){h:HF}{n:Nat}{a1 a2:Option Addr}{l1 c1 l2 c2:Nat}{L:List (List UInt8)}(s1:Sl h n 1 (.slice a1 l1 c1) (strs L))(s2:Sl h n 1 (.slice a2 l2 c2) (strs L))(hb:L.length<1000000):VF (cal (k+1)) 19 [.slice a1 l1 c1,.slice a2 l2 c2] h n fun v=>v=.bool true:=by
 refine zw (fn:=Tryz.f19) R4 ?_;have e1:=s1.lenEq (m:=L.length) zo (by simp [strs]);have e2:=s2.lenEq (m:=L.length) zo (by simp [strs]);subst e1 e2;refine zN ?_;refine sh ?_;refine sh ?_;refine Za ?_;refine sh ?_;refine zQ (α:=Nat) (fun j=>[(0,.slice a1 L.length c1),(1,.slice a2 L.length c2),(12,.int .i64 (L.length:Int)),(13,.int .i64 (j:Int))]) (fun j h' n' w=>h=h'∧n=n'∧w=[]∧j≤L.length) (fun j=>L.length-j) 0 ⟨rfl,rfl,rfl,rfl,trivial⟩ ⟨rfl,rfl,rfl,Nat.zero_le _⟩ (by show L.length-0<LL;unfold LL;omega) ?_;rintro j t _ _ _ ⟨rfl,rfl,rfl,hj⟩;refine zN ?_;by_cases hjL:j=L.length
 ·refine sh ?_;refine Za ?_;refine sh ?_;exact retF _ rfl (zi rfl) R2 rfl
 obtain ⟨x,hx⟩:∃x,L[j]?=some x:=⟨L[j]'zo,List.getElem?_eq_getElem zo⟩;obtain ⟨b1,o1,x1,cs1,rfl,hb1,hx1,hc1,_,_,he1⟩:=s1.inv zo;obtain ⟨b2,o2,x2,cs2,rfl,hb2,hx2,hc2,_,_,he2⟩:=s2.inv zo;have g1:cs1[o1+j]?=some (.string ⟨⟨x⟩⟩):=yX he1 (by rw [strs,List.getElem?_map,hx];rfl);have g2:cs2[o2+j]?=some (.string ⟨⟨x⟩⟩):=yX he2 (by rw [strs,List.getElem?_map,hx];rfl);refine sh ?_;refine Zb ?_;refine sh ?_;rw [vh rfl];repeat refine zR ?_
 refine yR R8 zo ?_;refine zg R6 hx1 (v:=.string ⟨⟨x⟩⟩) ⟨hc1,(by rw [←g1];congr 1;omega)⟩ ?_;repeat refine zR ?_
 refine yR R8 zo ?_;refine zg R6 hx2 (v:=.string ⟨⟨x⟩⟩) ⟨hc2,(by rw [←g2];congr 1;omega)⟩ ?_;refine zA (v:=.bool false) ⟨rfl,rfl,rfl,rfl,(by show some (Value.bool (!(x==x)))=_;simp)⟩ ?_;refine zN ?_;refine Za ?_;refine sh ?_;exact goOn (j+1) (by show L.length-(j+1)<L.length-j;omega) ⟨rfl,rfl,rfl,by show Value.int .i64 _=Value.int .i64 _;congr 1,trivial⟩ ⟨rfl,rfl,rfl,by show j+1≤L.length;omega⟩
end
section
section
variable {X:CtxF}{ops r:List Oper}{t:TF}{h:HF}{n:Nat}{w:List Nat}{Q:SV→Prop}{o:Oper}{d:Tmp}
end
section
variable {X:CtxF}{ops r:List Oper}{ms:List Nat}{m i:Nat}{t:TF}{h:HF}{n:Nat}{w:List Nat}{al ld:List (Nat×Nat)}{ef:List (Nat×HF×List Nat)}{Q:SV→Prop}{o:Oper}{d:Tmp}
end
end
section
structure Ex0 (n:Nat)(h h':HF):Prop where
 e:Ext n h h'
theorem qh {h:HF}{n:Nat}{a:Option Addr}{len cap j:Nat}{L:List Int}{d:Int}(r:Sl h n 1 (.slice a len cap) (i64s L))(hj:L[j]?=some d):∃b off,a=some ⟨b,off,none⟩∧b<3*n∧j<len∧At h b (off+j*1) [.int .i64 d]:=by
 refine mR r ?_ rfl zd;have hl:=(List.getElem?_eq_some_iff.1 hj).1;have h2:(i64s L)[j]?=some (.int .i64 d):=by unfold i64s;rw [List.getElem?_map,hj];rfl
 have hl2:=(List.getElem?_eq_some_iff.1 h2).1;rw [Nat.mul_one,List.drop_eq_getElem_cons hl2,List.take_succ_cons,List.take_zero,←(List.getElem?_eq_some_iff.1 h2).2]
section
variable {X:CtxF}{ops r:List Oper}{t:TF}{h:HF}{n:Nat}{w:List Nat}{Q:SV→Prop}{o:Oper}{d:Tmp}
theorem sMs {e:TypeId}(cs:List Value){l c:Nat}(k:∀h',h' (3*n+2)=some (.row cs e)→Ext n h h'→EO X ops r ⟨upd t d (.slice (some ⟨3*n+2,0,none⟩) l c),h',n+1,w⟩ Q)(hw:zh ops t o=true:=by exact rfl)(hd:o.dst=some d:=by exact rfl)(hn:zm X.nt (some d)=true:=by exact rfl)(hc:cls o.op=2:=by exact rfl)(hm:mkE X.E o.op (evF t)=some ⟨cs,e,false,some (l,c)⟩:=by exact rfl):EO X ops (o::r) ⟨t,h,n,w⟩ Q:=
 wn ⟨hw,hd,hn,hc,hm⟩ (k _ (ze _ _ _) (Ext.upd (show 3*n≤3*n+2 by omega)))
end
theorem SdpR.ext0 {h h':HF}{n n':Nat}{vB vO vF vE:Value}{p:Sdp}(hp:SdpR h n vB vO vF vE p)(x:Ext n h h')(hn:n≤n'):SdpR h' n' vB vO vF vE p:=
 ⟨hp.blocks.ext x hn,hp.obj.ext x hn,hp.objFree.ext x hn,by obtain ⟨ce,a,b⟩:=hp.eqs;exact ⟨ce,a.ext x hn,b.ext x hn⟩⟩
end
section
end
section
variable {cs:List Value}{e sT xT:TypeId}{x:Operand}{L b b0 bytes cap j len lo n0 size:Nat}{v z:Value}{ar:Option Addr}{α β:Type}
section
variable {D:Type}{sz:Nat}{P:List Value→D→Prop}
theorem Rec.app {cs':List Value}{ds ds':List D}(r:Rec sz P cs ds)(s:Rec sz P cs' ds'):Rec sz P (cs++cs') (ds++ds'):=by
 induction r with
 |nil=>exact s
 |cons hl hp hr ih=>rw [List.append_assoc];exact .cons hl hp ih
end
section
variable {X:CtxF}{ops r:List Oper}{ms:List Nat}{i m:Nat}{t:TF}{h:HF}{n:Nat}{w:List Nat}{al ld:List (Nat×Nat)}{ef:List (Nat×HF×List Nat)}{Q:SV→Prop}{o:Oper}{d:Tmp}
theorem sGA {D:Type}{sz:Nat}{P:List Value→D→HF→Nat→Prop}{s:Operand}{ds:List D}(c:List Value)(qs:List D)(g:GR sz P lo h n e v ds)(kp:KP sz P)(rc:Rec sz (fun c d=>P c d h n) c qs)(hu:c.all nu=true∧ones c=true){ux:Value}(hx:argS h sz ux qs.length c)(hm:1≤qs.length)(hlen:ds.length+qs.length<1000000)(hlo:n0≤lo∧lo≤n)
  (k:∀v' h',GR sz P lo h' (n+1) e v' (ds++qs)→Tr n h (n+1) h'→Ext lo h h'→(∀b,b<3*n→¬BkOf v b→h' b=h b)→(∀b,BkOf v' b→3*n≤b)→EO X ops r ⟨upd t d v',h',n+1,w⟩ Q)
  (hw:zh ops t o=true:=by exact rfl)(hd:o.dst=some d:=by exact rfl)(hn:zm X.nt (some d)=true:=by exact rfl)(ho:o.op=.call {callee:=.builtin .append,args:=#[s,x],argTypes:=#[sT,xT]}:=by exact rfl)(hv:evF t s=v:=by exact rfl)(hux:evF t x=ux:=by exact rfl)(hxT:(match X.E.und xT with|some (.int _)=>false|none=>false|_=>true)=true:=by exact rfl)(hus:X.E.und sT=some (.slice e):=by exact rfl)(hi:X.E.inf e=some (sz,bytes,z):=by exact rfl)(hz:(zr z).length=sz:=by exact rfl)(h1:1≤sz∧1≤bytes∧bytes≤1000:=by decide)(hX:X.n0=n0:=by exact rfl):EO X ops (o::r) ⟨t,h,n,w⟩ Q:=by
 have hg:=g;obtain ⟨C,gr,rc0,nu0⟩:=g;subst hv hux;have hb:(ds.length+qs.length)*bytes≤1099511627776:=Nat.le_trans (Nat.mul_le_mul (show ds.length+qs.length≤1000000 by omega) h1.2.2) zd;obtain ⟨v',h',W,h2,h3,h4,h6,h5,h7⟩:=wt hus hi hz ⟨h1.1,h1.2.1⟩ gr hx hm hb rc.len hu.2 hlo.2;refine yJ ⟨hw,hd,hn,ho,hxT⟩ h2 ?_;rw [hX,yc fun b hb=>by have:=h5 b hb;omega];have hk:∀b,b<3*n→¬BkOf (evF t s) b→h' b=h b:=fun b hb hn=>h6 b hb fun o l c e=>hn ⟨o,l,c,e⟩;have hT:Tr n h (n+1) h':=⟨Nat.le_succ _,fun b hb=>by
  by_cases hB:BkOf (evF t s) b
  ·exact .inr (hg.bk b hB).2.2.2
  ·exact .inl (hk b hb hB)⟩
 refine k v' h' ⟨C++c,by rw [List.length_append];exact h3,(rc0.mono fun _ _ r=>kp.t r hT).app (rc.mono fun _ _ r=>kp.t r hT),by rw [List.all_append,nu0,hu.1];rfl⟩ hT h4 hk fun b ⟨o,l,cc,e⟩=>?_;subst e;exact h7
theorem dGm {D:Type}{sz:Nat}{P:List Value→D→HF→Nat→Prop}{s:Operand}{ds:List D}(c:List Value)(qs:List D)(g:GR sz P lo h n e v ds)(kp:KP sz P)(rc:Rec sz (fun c d=>P c d h n) c qs)(hu:c.all nu=true∧ones c=true){ux:Value}(hx:argS h sz ux qs.length c)(hm:1≤qs.length)(hlen:ds.length+qs.length<1000000)(hlo:n0≤lo∧lo≤n)
  (k:∀v' h' W,GR sz P lo h' (n+1) e v' (ds++qs)→Tr n h (n+1) h'→Ext lo h h'→(∀b,b<3*n→¬BkOf v b→h' b=h b)→(∀b,BkOf v' b→3*n≤b)→ED X ops r ms (i+1) ⟨⟨upd t d v',h',n+1,w⟩,al,ld,(i,h,W)::ef⟩ Q)
  (hw:zh ops t o=true:=by exact rfl)(hd:o.dst=some d:=by exact rfl)(hn:zm X.nt (some d)=true:=by exact rfl)(ho:o.op=.call {callee:=.builtin .append,args:=#[s,x],argTypes:=#[sT,xT]}:=by exact rfl)(hv:evF t s=v:=by exact rfl)(hux:evF t x=ux:=by exact rfl)(hxT:(match X.E.und xT with|some (.int _)=>false|none=>false|_=>true)=true:=by exact rfl)(hus:X.E.und sT=some (.slice e):=by exact rfl)(hi:X.E.inf e=some (sz,bytes,z):=by exact rfl)(hz:(zr z).length=sz:=by exact rfl)(h1:1≤sz∧1≤bytes∧bytes≤1000:=by decide)(g1:yN m ef=true:=by exact rfl)(g2:xI m al=true:=by exact rfl)(g3:xI m ld=true:=by exact rfl)(hX:X.n0=n0:=by exact rfl):ED X ops (o::r) (m::ms) i ⟨⟨t,h,n,w⟩,al,ld,ef⟩ Q:=by
 have hg:=g;obtain ⟨C,gr,rc0,nu0⟩:=g;subst hv hux;have hb:(ds.length+qs.length)*bytes≤1099511627776:=Nat.le_trans (Nat.mul_le_mul (show ds.length+qs.length≤1000000 by omega) h1.2.2) zd;obtain ⟨v',h',W,h2,h3,h4,h6,h5,h7⟩:=wt hus hi hz ⟨h1.1,h1.2.1⟩ gr hx hm hb rc.len hu.2 hlo.2;refine oM hw hd hn ho hxT h2 g1 g2 (qL g3) zs ?_;rw [hX,yc fun b hb=>by have:=h5 b hb;omega];have hk:∀b,b<3*n→¬BkOf (evF t s) b→h' b=h b:=fun b hb hn=>h6 b hb fun o l c e=>hn ⟨o,l,c,e⟩;have hT:Tr n h (n+1) h':=⟨Nat.le_succ _,fun b hb=>by
  by_cases hB:BkOf (evF t s) b
  ·exact .inr (hg.bk b hB).2.2.2
  ·exact .inl (hk b hb hB)⟩
 refine k v' h' W ⟨C++c,by rw [List.length_append];exact h3,(rc0.mono fun _ _ r=>kp.t r hT).app (rc.mono fun _ _ r=>kp.t r hT),by rw [List.all_append,nu0,hu.1];rfl⟩ hT h4 hk fun b ⟨o,l,cc,e⟩=>?_;subst e;exact h7
theorem sAE {s:Operand}(new:List Value){ux:Value}(hx:argS h size ux L new)(hm:1≤L)(hL:L≤1000)(hl:new.length=L*size)(hg:gro b=false)
  (k:∀h',h' (3*n+1)=some (.row new e)→Ext n h h'→EO X ops r ⟨upd t d (.slice (some ⟨3*n+1,0,none⟩) L L),h',n+1,w⟩ Q)
  (hw:zh ops t o=true:=by exact rfl)(hd:o.dst=some d:=by exact rfl)(hn:zm X.nt (some d)=true:=by exact rfl)(ho:o.op=.call {callee:=.builtin .append,args:=#[s,x],argTypes:=#[sT,xT]}:=by exact rfl)(hv:evF t s=.slice (some ⟨b,0,none⟩) 0 0:=by exact rfl)(hux:evF t x=ux:=by exact rfl)(hxT:(match X.E.und xT with|some (.int _)=>false|none=>false|_=>true)=true:=by exact rfl)(hus:X.E.und sT=some (.slice e):=by exact rfl)(hi:X.E.inf e=some (size,bytes,z):=by exact rfl)(hz:(zr z).length=size:=by exact rfl)(h1:1≤size∧1≤bytes∧bytes≤1000:=by decide):EO X ops (o::r) ⟨t,h,n,w⟩ Q:=by
 subst hux;obtain ⟨hl',hc⟩:=hx;have hb:L*bytes≤1099511627776:=Nat.le_trans (Nat.mul_le_mul hL h1.2.2) zd;have c1:Nat.ble (L*bytes) 1099511627776=true:=Nat.ble_eq_true_of_le hb;have c2:Nat.beq (zr z).length size=true:=by rw [hz];exact Nat.beq_refl _
 have c3:Nat.ble 1 size=true:=Nat.ble_eq_true_of_le h1.1;have c4:Nat.ble 1 bytes=true:=Nat.ble_eq_true_of_le h1.2.1;have c5:Nat.ble L 0=false:=by
  cases hb:Nat.ble L 0 with
  |false=>rfl
  |true=>have:=Nat.le_of_ble_eq_true hb;omega
 have c6:yb h size 0 (.slice (some ⟨b,0,none⟩) 0 0)=some []:=by simp [yb]
 have ha:yk X.E h n sT (evF t s) (evF t x)=some (.val (.slice (some ⟨3*n+1,0,none⟩) L L) (upd h (3*n+1) (some (.row new e))) (n+1) []):=by
  rw [hv];simp only [yk,hus,hi,hl',hc,Nat.zero_add,c1,c2,c3,c4,c5,c6,Bool.and_self,lR,hg,List.nil_append]
 refine yJ ⟨hw,hd,hn,ho,hxT⟩ ha ?_;exact k _ (ze _ _ _) (Ext.upd zo)
end
def vlP (c:List Value)(v:Value)(_:HF)(_:Nat):Prop:=c=[v]∧nu v=true∧ones [v]=true
theorem vlP.kp:KP 1 vlP:=⟨fun e _=>e,fun e=>by obtain ⟨rfl,e2,e3⟩:=e;exact ⟨rfl,by rw [List.all_cons,e2];rfl,e3⟩⟩
def slN (N b:Nat):Value:=.slice (some ⟨b,0,none⟩) N N
def rdP (N:Nat)(a:Nat→Nat→Rat)(c:List Value)(i:Nat)(h:HF)(n:Nat):Prop:=∃ai ci,c=[.slice ai N ci]∧NS h n (.slice ai N ci) (rowQ N a i)
theorem rdP.stay (N:Nat)(a:Nat→Nat→Rat):Stay (rdP N a):=⟨fun _ _ _ _ _ _ ⟨ai,ci,e,s⟩ x hn=>⟨ai,ci,e,s.ext x hn⟩⟩
def RDK (h:HF)(n:Nat)(v:Value)(N K:Nat)(a:Nat→Nat→Rat):Prop:=RS 1 (rdP K a) h n v (List.range N)
abbrev RD (h:HF)(n:Nat)(v:Value)(N:Nat)(a:Nat→Nat→Rat):Prop:=RDK h n v N N a
theorem RDK.ext {h h':HF}{n n':Nat}{N K:Nat}{a:Nat→Nat→Rat}(r:RDK h n v N K a)(x:Ext n h h')(hn:n≤n'):RDK h' n' v N K a:=RS.ext' (rdP.stay K a) r x hn
theorem RDK.at {h:HF}{n:Nat}{N K i:Nat}{a:Nat→Nat→Rat}(r:RDK h n (.slice ar len cap) N K a)(hi:i<N):∃b off ai ci,ar=some ⟨b,off,none⟩∧b<3*n∧i<len∧At h b (off+i*1) [.slice ai K ci]∧NS h n (.slice ai K ci) (rowQ K a i):=by
 obtain ⟨b,off,c,h1,h2,h3,h4,_,ai,ci,rfl,s⟩:=RS.at' zd r (List.getElem?_range hi);exact ⟨b,off,ai,ci,h1,h2,h3,h4,s⟩
theorem rg {N:Nat}{a:Nat→Nat→Rat}{i:Nat}(hj:j<N):(rowQ N a i)[j]?=some (a i j):=by
 unfold rowQ;rw [List.getElem?_map,List.getElem?_range hj];rfl
theorem xP {N:Nat}{a:Nat→Nat→Rat}{i:Nat}:(rowQ N a i).length=N:=by unfold rowQ;rw [List.length_map,List.length_range]
theorem nZ {N:Nat}{a c:Nat→Nat→Rat}{i:Nat}(h:∀j,j<N→a i j=c i j):rowQ N a i=rowQ N c i:=List.map_congr_left fun j hj=>h j (List.mem_range.1 hj)
structure RMK (h:HF)(n tb N K:Nat)(rb:List Nat)(a:Nat→Nat→Rat):Prop where
 t:OR 1 vlP h n tb (rb.map (slN K))
 r:∀(i b:Nat),rb[i]?=some b→OR 4 numP h n b (rowQ K a i)
 l:rb.length=N
 d:rb.Nodup
 o:tb∉rb
abbrev RM (h:HF)(n tb N:Nat)(rb:List Nat)(a:Nat→Nat→Rat):Prop:=RMK h n tb N N rb a
section
variable {h h':HF}{n n' tb N K:Nat}{rb:List Nat}{a a':Nat→Nat→Rat}
theorem RMK.get (m:RMK h n tb N K rb a){i:Nat}(hi:i<N):∃b,rb[i]?=some b∧b<3*n∧b∈rb:=by
 have hl:=m.l;have h1:rb[i]?=some (rb[i]'zo):=List.getElem?_eq_getElem zo;exact ⟨_,h1,(m.r i _ h1).1,List.mem_of_getElem? h1⟩
theorem RMK.blt (m:RMK h n tb N K rb a)(hb:b∈rb):b<3*n:=by
 obtain ⟨i,hi,rfl⟩:=List.mem_iff_getElem.1 hb;exact (m.r i _ (List.getElem?_eq_getElem hi)).1
theorem RMK.go (m:RMK h n tb N K rb a)(t:Tr n h n' h')(x:∀c,c=tb∨c∈rb→h' c=h c):RMK h' n' tb N K rb a:=
 ⟨m.t.go vlP.kp t (x _ (.inl rfl)),fun i b hb=>(m.r i b hb).go numP.kp t (x _ (.inr (List.mem_of_getElem? hb))),m.l,m.d,m.o⟩
theorem RMK.ext (m:RMK h n tb N K rb a)(x:Ext n h h')(hn:n≤n'):RMK h' n' tb N K rb a:=
 m.go ⟨hn,fun c hc=>.inl (x c hc)⟩ fun c hc=>x c (by
  rcases hc with rfl|hc
  ·exact m.t.1
  ·exact m.blt hc)
theorem RMK.as (m:RMK h n tb N K rb a)(e:∀i j,i<N→j<K→a i j=a' i j):RMK h n tb N K rb a':=
 ⟨m.t,fun i b hb=>by
  have hi:=(List.getElem?_eq_some_iff.1 hb).1;have hl:=m.l;rw [nZ (c:=a) fun j hj=>(e i j zo hj).symm];exact m.r i b hb,m.l,m.d,m.o⟩
theorem RMK.set (m:RMK h n tb N K rb a){i0:Nat}(h0:rb[i0]?=some b0)(t:Tr n h n' h')(x:∀c,c≠b0→c=tb∨c∈rb→h' c=h c)(o:OR 4 numP h' n' b0 (rowQ K a' i0))(e:∀i,i≠i0→∀j,a' i j=a i j):RMK h' n' tb N K rb a':=by
 refine ⟨m.t.go vlP.kp t (x _ (fun h=>m.o (h▸List.mem_of_getElem? h0)) (.inl rfl)),fun i b hb=>?_,m.l,m.d,m.o⟩;by_cases hi:i=i0
 ·subst hi;rw [h0] at hb;cases hb;exact o
 have hbn:b≠b0:=fun hbe=>by
  subst hbe;exact hi ((List.getElem?_inj (List.getElem?_eq_some_iff.1 hb).1 m.d).1 (hb.trans h0.symm))
 rw [nZ (c:=a) fun j _=>e i hi j];exact (m.r i b hb).go numP.kp t (x _ hbn (.inr (List.mem_of_getElem? hb)))
theorem RMK.rd (m:RMK h n tb N K rb a):RDK h n (.slice (some ⟨tb,0,none⟩) N N) N K a:=by
 have hl:=m.l;obtain ⟨C,s,rc⟩:=OR.sl m.t (len:=N) (cap:=N) (by rw [List.length_map,hl]) (Nat.le_refl _);refine ⟨C,s,?_⟩;have key:∀(l:List Nat) (C:List Value) (o:Nat),Rec 1 (fun c d=>vlP c d h n) C (l.map (slN K))→(∀(i b:Nat),l[i]?=some b→NS h n (slN K b) (rowQ K a (o+i)))→Rec 1 (fun c d=>rdP K a c d h n) C (List.range' o l.length):=by
  intro l;induction l with
  |nil=>intro C o r _;cases r;exact .nil
  |cons b l ih=>
   intro C o r hr;cases r with
   | @cons c cs d ds hl hp hr2=>
    obtain ⟨rfl,_⟩:=hp;rw [List.length_cons,List.range'_succ];exact .cons rfl ⟨_,_,rfl,hr 0 b rfl⟩ (ih _ _ hr2 fun i b' hb=>by have:=hr (i+1) b' (by rw [List.getElem?_cons_succ];exact hb);rwa [show o+(i+1)=o+1+i by omega] at this)
 have e:List.range N=List.range' 0 rb.length:=by rw [hl,List.range_eq_range']
 rw [e];refine key rb C 0 rc fun i b hb=>?_;rw [Nat.zero_add];exact OR.sl (m.r i b hb) xP.symm (Nat.le_refl _)
theorem RMK.row (m:RMK h n tb N K rb a){i:Nat}(hi:rb[i]?=some b):At h tb (0+i*1) [slN K b]:=by
 obtain ⟨c,p,_,t⟩:=m.t.get (j:=i) (d:=slN K b) (by rw [List.getElem?_map,hi];rfl) (off:=0+i*1) zo;obtain ⟨rfl,_⟩:=p;exact t
theorem RMK.el (m:RMK h n tb N K rb a){i:Nat}(hi:rb[i]?=some b)(hj:j<K):∃b1 a1 l1 c1 b2 a2 l2 c2,At h b (0+j*4) [.bool b1,.slice a1 l1 c1,.bool b2,.slice a2 l2 c2]∧UI h n b1 a1 l1 c1 (a i j).num∧UI h n b2 a2 l2 c2 (denZ (a i j)):=by
 obtain ⟨c,⟨b1,a1,l1,c1,b2,a2,l2,c2,rfl,u,v⟩,_,t⟩:=(m.r i b hi).get (rg hj) (off:=0+j*4) zo;exact ⟨b1,a1,l1,c1,b2,a2,l2,c2,t,u,v⟩
end
theorem zkn (N:Nat):rowQ N (fun _ _=>(0:Rat)) 0=List.replicate N 0:=by
 unfold rowQ;refine List.ext_getElem? fun m=>?_;rw [List.getElem?_map,List.getElem?_replicate];by_cases hm:m<N
 ·rw [List.getElem?_range hm,if_pos hm];rfl
 rw [List.getElem?_eq_none (by rw [List.length_range];omega),if_neg hm];rfl
theorem kl (k:Nat)(h:HF)(n:Nat){N K:Nat}(hN:N≤1000)(hK:K≤1000):CX (cal (k+1)) 65 [.int .i64 (N:Int),.int .i64 (K:Int)] h n fun v h' n'=>∃tb rb,v=slN N tb∧RMK h' n' tb N K rb (fun _ _=>0)∧(∀b,b=tb∨b∈rb→3*n≤b):=by
 refine zk (fn:=Tryz.f65) R4 ?_;refine zG ?_;refine sMk (L:=N) [.slice none 0 0] ?_ hN;intro h1 p1 x1;refine zG ?_;have o1:OR 1 vlP h1 (n+1) (3*n+2) (List.replicate N (.slice none 0 0)):=OR.fill zo p1 vlP.kp ⟨rfl,rfl,rfl⟩;obtain ⟨tb,htb⟩:∃b,b=3*n+2:=⟨_,rfl⟩;rw [←htb] at o1 ⊢;clear p1;refine sF (α:=Nat×List Nat) (fun z=>[(0,.int .i64 (N:Int)),(1,.int .i64 (K:Int)),(5,.slice (some ⟨tb,0,none⟩) N N),(6,.int .i64 (z.1:Int))])
  (fun z h' n' w'=>w'=[]∧n+1≤n'∧Ex0 n h h'∧OR 1 vlP h' n' tb (z.2.map (slN K)++List.replicate (N-z.1) (.slice none 0 0))∧z.2.length=z.1∧(∀b∈z.2,3*(n+1)≤b∧b<3*n'∧OR 4 numP h' n' b (List.replicate K 0))∧z.2.Nodup∧z.1≤N) (fun z=>N-z.1) (0,[]) ⟨rfl,Nat.le_refl _,⟨x1⟩,o1,rfl,fun b hb=>absurd hb List.not_mem_nil,List.nodup_nil,Nat.zero_le _⟩ ?_
 rintro ⟨j,rb⟩ t h2 n2 _ ⟨rfl,y2,E2,o2,l2,e2,d2,hj⟩;have y2:n+1≤n2:=y2;have o2:OR 1 vlP h2 n2 tb (rb.map (slN K)++List.replicate (N-j) (.slice none 0 0)):=o2;have l2:rb.length=j:=l2;have e2:∀b∈rb,3*(n+1)≤b∧b<3*n2∧OR 4 numP h2 n2 b (List.replicate K 0):=e2;have d2:rb.Nodup:=d2;have hj:j≤N:=hj;refine zG ?_;by_cases qj:(j:Int)<(N:Int)
 ·refine zG ?_;refine sMk (L:=K) [.bool false,.slice none 0 0,.bool false,.slice none 0 0] ?_ hK;intro h3 p3 x3;have o3:OR 4 numP h3 (n2+1) (3*n2+2) (List.replicate K 0):=OR.fill zo p3 numP.kp ⟨_,_,_,_,_,_,_,_,rfl,UI.zero _ _,UI.zero _ _⟩;refine sI (j:=j) (len:=N) rfl zo ?_;refine sZn (n0:=n) (j:=j) (q:=slN K (3*n2+2)) [slN K (3*n2+2)] (o2.ext vlP.kp x3 zs) vlP.kp (by rw [List.length_append,List.length_map,List.length_replicate];omega) (show (0:Nat)+j*1=j*1 by omega) ⟨rfl,rfl,rfl⟩ zo ?_;intro h4 o4 s4;have htb2:=o2.1;have X4:∀c,c<3*n2→c≠tb→h4 c=h2 c:=fun c hc hn=>(s4.1 c hn).trans (x3 c hc);have T4:Tr n2 h2 (n2+1) h4:=Tr.s s4 ⟨Nat.le_succ _,fun c hc=>.inl (x3 c hc)⟩;have o34:OR 4 numP h4 (n2+1) (3*n2+2) (List.replicate K 0):=o3.go numP.kp (Tr.s s4 (Tr.refl _ _)) (s4.1 _ zo);clear p3 x3;refine zG ?_;refine sK (j+1,rb++[3*n2+2]) ⟨rfl,zo,⟨fun c hc=>(X4 c zo zo).trans (E2.e c hc)⟩,o4.as ?_,by rw [List.length_append,l2];rfl,fun b hb=>?_,?_,by show j+1≤N;omega⟩
  ·rw [List.set_append_right _ _ (by rw [List.length_map];omega),List.length_map,l2,Nat.sub_self,show N-j=(N-(j+1))+1 by omega,List.replicate_succ,List.set_cons_zero,List.map_append,List.append_assoc];rfl
  ·rcases List.mem_append.1 hb with hb|hb
   ·obtain ⟨u1,u2,u3⟩:=e2 b hb;exact ⟨u1,zo,u3.go numP.kp T4 (X4 b u2 zo)⟩
   rw [List.mem_singleton.1 hb];exact ⟨zo,zo,o34⟩
  show (rb++[3*n2+2]).Nodup;rw [List.nodup_append];exact ⟨d2,by simp,fun a ha b hb=>by rw [List.mem_singleton.1 hb];have:=(e2 a ha).2.1;omega⟩
 have hjN:j=N:=zo;subst hjN;rw [Nat.sub_self,List.replicate_zero,List.append_nil] at o2;refine zG ?_;have X2:=E2.e;have y22:n≤n2:=zo;refine zq ?_;refine ⟨tb,rb,rfl,⟨o2,fun i b hb=>?_,l2,d2,fun hb=>by have:=(e2 tb hb).1;omega⟩,fun b hb=>?_⟩
 ·have:=(e2 b (List.mem_of_getElem? hb)).2.2;rw [←zkn] at this;exact this
 rcases hb with rfl|hb
 ·omega
 have:=(e2 b hb).1;omega
theorem zg4 (k:Nat)(h:HF)(n:Nat){N:Nat}(hN:N≤1000):CX (cal (k+1)) 65 [.int .i64 (N:Int),.int .i64 (N:Int)] h n fun v h' n'=>∃tb rb,v=slN N tb∧RM h' n' tb N rb (fun _ _=>0)∧(∀b,b=tb∨b∈rb→3*n≤b):=kl k h n hN hN
theorem lT (l:List α)(f:α→β)(z:β){x:α}(hx:l[j]?=some x):((l.take j).map f++List.replicate (l.length-j) z).set j (f x)=(l.take (j+1)).map f++List.replicate (l.length-(j+1)) z:=by
 have hj:=(List.getElem?_eq_some_iff.1 hx).1;have hl:((l.take j).map f).length=j:=by rw [List.length_map,List.length_take];omega
 rw [List.set_append_right _ _ zo,hl,Nat.sub_self,show l.length-j=(l.length-(j+1))+1 by omega,List.replicate_succ,List.set_cons_zero,xf hx,List.map_append,List.append_assoc];rfl
theorem bK (k:Nat){h:HF}{n:Nat}{a:Option Addr}{qs:List Rat}(iq:NS h n (.slice a L cap) qs)(hL:L≤1000){m:Nat}(hz:∀q∈qs,Sz m q)(hm:m≤32):
  CX (cal (k+5)) 20 [.slice a L cap] h n fun v h' n'=>∃b,v=.slice (some ⟨b,0,none⟩) L L∧3*n≤b∧OT h' n' b (qs.map ratT):=by
 have lq:=iq.len;refine zk (fn:=Tryz.f20) R4 ?_;refine zG ?_;refine sMk (L:=L) [.string ⟨⟨[]⟩⟩] ?_ hL;intro h1 p1 x1;refine zG ?_;have o1:OT h1 (n+1) (3*n+2) (List.replicate L []):=OR.fill zo p1 strP.kp rfl;obtain ⟨B,hB⟩:∃B,B=3*n+2:=⟨_,rfl⟩;rw [←hB] at o1 ⊢;clear p1;refine sF (α:=Nat) (fun z=>[(0,.slice a L cap),(3,.slice (some ⟨B,0,none⟩) L L),(4,.int .i64 (z:Int))])
  (fun z h' n' w'=>w'=[]∧n+1≤n'∧Ex0 n h h'∧OT h' n' B ((qs.take z).map ratT++List.replicate (qs.length-z) [])∧z≤L) (fun z=>L-z) 0 ⟨rfl,Nat.le_refl _,⟨x1⟩,o1.as (by rw [List.take_zero,Nat.sub_zero,lq];rfl),Nat.zero_le _⟩ ?_
 rintro j t h2 n2 _ ⟨rfl,y2,E2,o2,hj⟩;have y2:n+1≤n2:=y2;have hj:j≤L:=hj;have o2:OT h2 n2 B ((qs.take j).map ratT++List.replicate (qs.length-j) []):=o2;refine zG ?_;by_cases q2:(j:Int)<(L:Int)
 ·refine zG ?_;obtain ⟨d3,g3⟩:∃d,(qs)[j]?=some d:=⟨_,List.getElem?_eq_getElem zo⟩;obtain ⟨k3,u3,b3,a3,l3,c3,d3',e3,f3,w3,e3',m3,r3,t3,i3,j3⟩:=NS.at (iq.ext E2.e (show n≤n2 by omega)) g3;refine sI e3' r3 ?_;refine sL t3 m3 0 ?_;refine sC (zf2 _ i3 j3 (hz _ (List.mem_of_getElem? g3)) hm).cx ?_;rintro _ h6 n6 rfl y6 x6;refine sI (j:=j) rfl zo ?_;refine sZn (n0:=n) (j:=j) (q:=ratT d3) [.string ⟨⟨ratT d3⟩⟩] (o2.ext strP.kp x6 y6) strP.kp (by rw [List.length_append,List.length_map,List.length_take,List.length_replicate];omega) (show (0:Nat)+j*1=j*1 by omega) rfl zo ?_;intro h7 o7 s7;have hB2:=o2.1;have X7:Ex0 n h h7:=⟨fun c hc=>(s7.1 c zo).trans ((x6 c zo).trans (E2.e c hc))⟩;clear x6;refine zG ?_;exact sK (j+1) ⟨rfl,zo,X7,o7.as (lT qs ratT [] g3),by show j+1≤L;omega⟩
 have hjl:j=qs.length:=zo;subst hjl;rw [List.take_length,Nat.sub_self,List.replicate_zero,List.append_nil] at o2;refine zG ?_;have X2:=E2.e;have y22:n≤n2:=zo;refine zq ?_;exact ⟨_,rfl,zo,o2⟩
end
section
variable {dx dy sx sy:Bool}{ar ax ay ex ey:Option Addr}{b cap cx cy fx fy gx gy i j lx ly sz:Nat}
theorem rX (k:Nat)(h:HF)(n:Nat)(x:Int)(hx: -9223372036854775808≤x∧x<9223372036854775808):CX (cal (k+3)) 30 [.int .i64 x] h n (NQ (x:Rat)):=by
 refine yh (r_ok k h n x hx) ?_;rintro v h' n' w ⟨rfl,h2,h3,n1,n2,ln,rfl,r,_⟩;exact ⟨rfl,h2,h3,r.nq⟩
theorem cg (x y:Rat):Rat.divInt (x.num*(y.den:Int)) ((x.den:Int)*y.num)=x/y:=by
 rw [Rat.divInt_eq_div,Rat.div_def,Rat.div_def,Rat.intCast_mul,Rat.intCast_mul,Rat.inv_mul_rev];have e1:=te x;have e2:=te y;have hx:((x.den:Int):Rat)≠0:=na x.den_pos;have hy:((y.den:Int):Rat)≠0:=na y.den_pos;rw [Rat.intCast_natCast] at hx hy;rw [←e1,←e2,Rat.intCast_natCast,Rat.intCast_natCast,Rat.inv_mul_rev];have e3:=Rat.mul_inv_cancel _ hx;have e4:=Rat.mul_inv_cancel _ hy;generalize (x.den:Rat)=u at*
 generalize (y.den:Rat)=v at*
 generalize y⁻¹ =z;have e:x*u*v*(v⁻¹ *z*u⁻¹)=x*z*(u*u⁻¹)*(v*v⁻¹):=by grind
 rw [e,e3,e4,Rat.mul_one,Rat.mul_one]
theorem zmi (k:Nat){h:HF}{n:Nat}{x:Rat}{y:Rat}(ix:UI h n sx ax lx cx x.num)(jx:UI h n dx ex fx gx (denZ x))(iy:UI h n sy ay ly cy y.num)(jy:UI h n dy ey fy gy (denZ y)){a:Nat}(hx:Sz a x)(hy:Sz b y)(hab:a+b+1≤32)(hy0:y.num≠0):
  CX (cal (k+6)) 173 [.agg #[.bool sx,.slice ax lx cx,.bool dx,.slice ex fx gx],.agg #[.bool sy,.slice ay ly cy,.bool dy,.slice ey fy gy]] h n (NQ (x/y)):=by
 obtain ⟨hxn,hxe⟩:x.num.natAbs<2^a∧((x.den:Int)).natAbs<2^a:=hx;obtain ⟨hyn,hye⟩:y.num.natAbs<2^b∧((y.den:Int)).natAbs<2^b:=hy;have hxn1:=wO hxn zo;have hyn1:=wO hyn zo;have hxe1:=wO hxe zo;have hye1:=wO hye zo;have hxp:=x.den_pos;refine zk (fn:=Tryz.f173) R4 ?_;refine zG ?_;refine sB [.bool sx,.slice ax lx cx,.bool dx,.slice ex fx gx] ?_;intro h11 p11 x11;refine sB [.bool sy,.slice ay ly cy,.bool dy,.slice ey fy gy] ?_;intro h12 p12 x12;refine sA ?_;intro h13 p13 x13;refine zG ?_;refine sC (rT _ (iy.t zt) (jy.t zt)) ?_;rintro _ h14 n14 ⟨s14,rfl,q14⟩ y14 x14;have hs:s14≠0:=zo;refine zG ?_;refine zl [0,1,0,4,15,0,63,0,128,511,1023,2047] rfl ?_;refine zH ?_;refine dC (denU _ (iy.t zt) (jy.t zt)) ?_;rintro _ h15 n15 ⟨b15,a15,l15,c15,rfl,i15⟩ y15 x15;refine dC (mulU _ (ix.t zt) i15 szU szU) ?_;rintro _ h16 n16 ⟨b16,a16,l16,c16,rfl,i16⟩ y16 x16;refine zH ?_;refine dC (denU _ (ix.t zt) (jx.t zt)) ?_;rintro _ h17 n17 ⟨b17,a17,l17,c17,rfl,i17⟩ y17 x17;refine zH ?_;refine dC (mulU _ i17 (iy.t zt) szU szU) ?_;rintro _ h18 n18 ⟨b18,a18,l18,c18,rfl,i18⟩ y18 x18;refine dC (mg _ (i16.t zt) i18 szU (by rw [Int.mul_comm];exact zgh hyn hxe zo) (Int.mul_ne_zero zo hy0) (cg x y)) ?_;rintro _ h22 n22 ⟨b22,a22,l22,c22,d22,e22,f22,g22,rfl,i22,j22⟩ y22 x22;refine dS [.bool b22,.slice a22 l22 c22,.bool d22,.slice e22 f22 g22] ?_;intro h23 p23 o23;refine zq ?_;exact ⟨_,_,_,_,_,_,_,_,rfl,(i22.t zt),(j22.t zt)⟩
theorem zdv {N:Nat}{a:Nat→Nat→Rat}{x:Rat}(hj:j<N):(rowQ N a i).set j x=rowQ N (updT a i j x) i:=by
 unfold rowQ updT;refine List.ext_getElem? fun m=>?_;rw [List.getElem?_set,List.length_map,List.length_range,List.getElem?_map,List.getElem?_map];by_cases hm:m<N
 ·rw [List.getElem?_range hm];by_cases e:j=m
  ·subst e;rw [if_pos rfl,if_pos hm];show some x=some (if _ then _ else _);rw [if_pos ⟨rfl,rfl⟩]
  rw [if_neg e];show some (a i m)=some (if _ then _ else _);rw [if_neg (fun h=>e h.2.symm)]
 rw [List.getElem?_eq_none (l:=List.range N) (by rw [List.length_range];omega)];by_cases e:j=m
 ·omega
 rw [if_neg e];rfl
section
variable {h h':HF}{n n' tb N K:Nat}{rb:List Nat}{a:Nat→Nat→Rat}
theorem RMK.put (m:RMK h n tb N K rb a){x:Rat}(hi:rb[i]?=some b)(hj:j<K)(t:Tr n h n' h')(hx:∀c,c≠b→c=tb∨c∈rb→h' c=h c)(o:OR 4 numP h' n' b ((rowQ K a i).set j x)):RMK h' n' tb N K rb (updT a i j x):=by
 rw [zdv hj] at o;refine m.set hi t hx o fun i' hi' j'=>?_;unfold updT;rw [if_neg (fun h=>hi' h.1)]
theorem RMK.go2 (m:RMK h n tb N K rb a)(x:∀c,c<3*n→c=tb∨c∈rb→h' c=h c)(t:Tr n h n' h'):RMK h' n' tb N K rb a:=
 m.go t fun c hc=>x c (by rcases hc with rfl|hc;exact m.t.1;exact m.blt hc) hc
end
theorem Rec.allnu {D:Type}{P:List Value→D→HF→Nat→Prop}{h:HF}{n:Nat}{C:List Value}{ds:List D}(kp:KP sz P)(r:Rec sz (fun c d=>P c d h n) C ds):C.all nu=true:=by
 induction r with
 |nil=>rfl
 |cons hl hp hr ih=>rw [List.all_append,ih,(kp.c hp).2.1];rfl
theorem zl5 (k:Nat)(h:HF)(n:Nat){N:Nat}(hN:N≤3):CX (cal (k+4)) 172 [.int .i64 (N:Int)] h n fun v h' n'=>∃tb rb a,v=slN N tb∧RM h' n' tb N rb a∧(∀b,b=tb∨b∈rb→3*n≤b):=by
 refine zk (fn:=Tryz.f172) R4 ?_;refine zG ?_;refine sC (zg4 _ _ _ (N:=N) zo) ?_;rintro _ h1 n1 ⟨tb,rb,rfl,m1,f1⟩ y1 x1;refine zG ?_;have htb:3*n≤tb:=f1 _ (.inl rfl);refine sF (α:=Nat×(Nat→Nat→Rat)) (fun z=>[(0,.int .i64 (N:Int)),(3,slN N tb),(4,.int .i64 (z.1:Int))])
  (fun z h' n' w'=>w'=[]∧n≤n'∧Ex0 n h h'∧RM h' n' tb N rb z.2∧z.1≤N) (fun z=>N-z.1) (0,fun _ _=>0) ⟨rfl,y1,⟨x1⟩,m1,Nat.zero_le _⟩ ?_
 rintro ⟨i,a⟩ t h2 n2 _ ⟨rfl,y2,E2,m2,hi⟩;have y2:n≤n2:=y2;have m2:RM h2 n2 tb N rb a:=m2;have hi:i≤N:=hi;refine zG ?_;by_cases qi:(i:Int)<(N:Int)
 ·have hiN:i<N:=zo;obtain ⟨b,hb,hbn,hbm⟩:=m2.get hiN;have hb3:=f1 b (.inr hbm);refine zG ?_;refine zl [0,0,3,7,0,0,63,127] rfl ?_;refine zH ?_;refine dI (j:=i) (len:=N) rfl hiN ?_;refine dL (m2.row hb) m2.t.1 0 ?_;refine zH ?_;refine dC (rX _ _ _ 1 zd) ?_;rintro _ h3 n3 ⟨b3,a3,l3,c3,d3,e3,f3,g3,rfl,i3,j3⟩ y3 x3;refine dI (j:=i) (len:=N) rfl hiN ?_;refine dZn (n0:=n) (j:=i) (q:=((1:Int):Rat)) [.bool b3,.slice a3 l3 c3,.bool d3,.slice e3 f3 g3] ((m2.r i b hb).ext numP.kp x3 y3) numP.kp (by rw [xP];exact hiN) (show (0:Nat)+i*4=i*4 by omega) ⟨_,_,_,_,_,_,_,_,rfl,i3,j3⟩ hb3 ?_;intro h4 o4 s4;have X4:∀c,c<3*n2→c≠b→h4 c=h2 c:=fun c hc hn=>(s4.1 c hn).trans (x3 c hc);have T4:Tr n2 h2 n3 h4:=Tr.s s4 ⟨y3,fun c hc=>.inl (x3 c hc)⟩;clear x3;refine zG ?_;exact sK (i+1,updT a i i ((1:Int):Rat)) ⟨rfl,zo,⟨fun c hc=>(X4 c zo zo).trans (E2.e c hc)⟩,m2.put hb hiN T4 (fun c hc hm=>X4 c (by rcases hm with rfl|hm;exact m2.t.1;exact m2.blt hm) hc) o4,by show i+1≤N;omega⟩
 refine zG ?_;have X2:=E2.e;refine zq ?_;exact ⟨tb,rb,a,rfl,m2,f1⟩
theorem zmr (k:Nat){h:HF}{n:Nat}{N:Nat}{a:Nat→Nat→Rat}(r:RD h n (.slice ar N cap) N a)(hN:1≤N∧N≤3):CX (cal (k+1)) 171 [.slice ar N cap] h n fun v h' n'=>∃tb rb,v=slN N tb∧RM h' n' tb N rb a∧(∀b,b=tb∨b∈rb→3*n≤b):=by
 refine zk (fn:=Tryz.f171) R4 ?_;refine zG ?_;refine sF (α:=Nat×List Nat×Value) (fun z=>[(0,.slice ar N cap),(3,z.2.2),(4,.int .i64 (z.1:Int))])
  (fun z h' n' w'=>w'=[]∧n≤n'∧Ex0 n h h'∧GR 1 vlP n h' n' 35 z.2.2 (z.2.1.map (slN N))∧z.2.1.length=z.1∧(∀(i b:Nat),z.2.1[i]?=some b→3*n≤b∧OR 4 numP h' n' b (rowQ N a i))∧z.2.1.Nodup∧(∀b∈z.2.1,¬BkOf z.2.2 b)∧z.1≤N) (fun z=>N-z.1) (0,[],.slice none 0 0) ⟨rfl,Nat.le_refl _,⟨Ext.refl _ _⟩,GR.nil,rfl,fun i b hb=>(by have hb:([]:List Nat)[i]?=some b:=hb;simp at hb),List.nodup_nil,fun b hb=>absurd hb List.not_mem_nil,Nat.zero_le _⟩ ?_
 rintro ⟨j,rb,v⟩ t h2 n2 _ ⟨rfl,y2,E2,g2,l2,e2,d2,k2,hj⟩;have y2:n≤n2:=y2;have g2:GR 1 vlP n h2 n2 35 v (rb.map (slN N)):=g2;have l2:rb.length=j:=l2;have e2:∀(i b:Nat),rb[i]?=some b→3*n≤b∧OR 4 numP h2 n2 b (rowQ N a i):=e2;have d2:rb.Nodup:=d2;have k2:∀b∈rb,¬BkOf v b:=k2;have hj:j≤N:=hj;obtain ⟨av,rfl⟩:=g2.shape (L:=j) (by rw [List.length_map];exact l2);refine zG ?_;by_cases qj:(j:Int)<(N:Int)
 ·have hjN:j<N:=zo;obtain ⟨b3,o3,ai,ci,e3,m3,r3,t3,s3⟩:=(r.ext E2.e y2).at hjN;refine zG ?_;refine sMs [] ?_;intro h4 p4 x4;refine zG ?_;refine sI (j:=j) e3 r3 ?_;refine sL t3 m3 0 ?_;obtain ⟨cells,sl,rc⟩:=s3.ext x4 zs;have hcl:=rc.len;rw [xP] at hcl;refine sAE cells (uB sl) hN.1 zo hcl (zer _) ?_;intro h5 p5 x5;have o5:OR 4 numP h5 (n2+1+1) (3*(n2+1)+1) (rowQ N a j):=⟨zo,_,_,p5,Rec.allnu numP.kp rc,rc.mono fun _ _ p=>numP.kp.t p ⟨Nat.le_succ _,fun c hc=>.inl (x5 c hc)⟩⟩;refine sMs [slN N (3*(n2+1)+1)] ?_;intro h6 p6 x6;have X6:Ext n2 h2 h6:=fun c hc=>(x6 c zo).trans ((x5 c zo).trans (x4 c hc));have o6:=o5.ext numP.kp x6 zs;have g6:GR 1 vlP n h6 (n2+1+1+1) 35 (.slice av j j) (rb.map (slN N)):=g2.go vlP.kp ⟨zo,fun c hc=>.inl (X6 c hc)⟩ (fun b hb=>X6 b (g2.bk b hb).2.1);refine sGA (n0:=n) [slN N (3*(n2+1)+1)] [slN N (3*(n2+1)+1)] g6 vlP.kp (.cons (c:=[slN N (3*(n2+1)+1)]) rfl ⟨rfl,rfl,rfl⟩ .nil) ⟨rfl,rfl⟩ (yy p6 R2) (Nat.le_refl _) (by rw [List.length_map];show rb.length+1<_;omega) zo ?_;intro v7 h7 g7 T7 X7 K7 F7;obtain ⟨a7,rfl⟩:=g7.shape (L:=j+1) (by rw [List.length_append,List.length_map];show rb.length+1=_;omega);have hnb:¬BkOf (.slice av j j) (3*(n2+1)+1):=fun h=>by have:=(g2.bk _ h).2.1;omega
  have hk7:∀c,c<3*n2→¬BkOf (.slice av j j) c→h7 c=h2 c:=fun c hc hn=>(K7 c zo hn).trans (X6 c hc);have T27:Tr n2 h2 (n2+1+1+1+1) h7:=Tr.trans ⟨zo,fun c hc=>.inl (X6 c hc)⟩ T7;have o7:OR 4 numP h7 (n2+1+1+1+1) (3*(n2+1)+1) (rowQ N a j):=o6.go numP.kp T7 (K7 _ zo hnb);have E7:Ex0 n h h7:=⟨fun c hc=>(X7 c zo).trans ((X6 c zo).trans (E2.e c hc))⟩;clear x4 x5 x6 X6 X7 T7 p4 p5 p6;refine zG ?_;refine sK (j+1,rb++[3*(n2+1)+1],.slice a7 (j+1) (j+1)) ⟨rfl,zo,E7,g7.as (by rw [List.map_append];rfl),by rw [List.length_append,l2];rfl,fun i b hb=>?_,?_,fun b hb hB=>?_,by show j+1≤N;omega⟩
  ·have hb:(rb++[3*(n2+1)+1])[i]?=some b:=hb;by_cases hi:i<j
   ·rw [List.getElem?_append_left zo] at hb;obtain ⟨u1,u2⟩:=e2 i b hb;exact ⟨u1,u2.go numP.kp T27 (hk7 b u2.1 (k2 b (List.mem_of_getElem? hb)))⟩
   have hl:=(List.getElem?_eq_some_iff.1 hb).1;rw [List.length_append,l2] at hl;have hl:i<j+1:=hl;have hij:i=j:=zo;subst hij;rw [List.getElem?_append_right zo,l2,Nat.sub_self] at hb;cases hb;exact ⟨zo,o7⟩
  ·show (rb++[3*(n2+1)+1]).Nodup;rw [List.nodup_append];refine ⟨d2,by simp,fun a' ha b hb=>?_⟩;rw [List.mem_singleton.1 hb];obtain ⟨i,hi,rfl⟩:=List.mem_iff_getElem.1 ha;have:=(e2 i _ (List.getElem?_eq_getElem hi)).2.1;omega
  have h8:=F7 b hB;have hb:b∈rb++[3*(n2+1)+1]:=hb;rcases List.mem_append.1 hb with hb|hb
  ·obtain ⟨i,hi,rfl⟩:=List.mem_iff_getElem.1 hb;have:=(e2 i _ (List.getElem?_eq_getElem hi)).2.1;omega
  have:=List.mem_singleton.1 hb;omega
 have hjN:j=N:=zo;subst hjN;obtain ⟨tb,etb,hg,hlo,o3,_⟩:=g2.or (L:=j) (by rw [List.length_map];exact l2) zo;refine zG ?_;have X2:=E2.e;refine zq ?_;refine ⟨tb,rb,etb,⟨o3,fun i b hb=>(e2 i b hb).2,l2,d2,fun hb=>k2 tb hb ⟨_,_,_,etb⟩⟩,fun b hb=>?_⟩;rcases hb with rfl|hb
 ·exact hlo
 obtain ⟨i,hi,rfl⟩:=List.mem_iff_getElem.1 hb;exact (e2 i _ (List.getElem?_eq_getElem hi)).1
end
section
variable {B D P cap n:Nat}{bf:Int}{h:HF}{ar:Option Addr}
def schV (a:Nat→Nat→Rat)(k i j:Nat):Nat→Nat→Rat:=fun x y=>if k<x∧k<y∧(x<i∨x=i∧y<j) then a x y-a x k/a k k*a k y else a x y
section
variable {a:Nat→Nat→Rat}{k i j N:Nat}
theorem dh:schV a k (k+1) 0=a:=by
 funext x y;unfold schV;rw [if_neg zo]
theorem zdq:schV a k i (k+1)=schV a k i 0:=by
 funext x y;unfold schV;by_cases h:k<x∧k<y∧(x<i∨x=i∧y<k+1)
 ·rw [if_pos h,if_pos zo]
 rw [if_neg h,if_neg zo]
theorem pk {x y:Nat}(h:x=k∨y=k∨(x=i∧j≤y)):schV a k i j x y=a x y:=by
 unfold schV;rw [if_neg zo]
theorem zdr (hi:k<i)(hj:k<j):updT (schV a k i j) i j (a i j-a i k/a k k*a k j)=schV a k i (j+1):=by
 funext x y;unfold updT schV;by_cases h:x=i∧y=j
 ·obtain ⟨rfl,rfl⟩:=h;rw [if_pos ⟨rfl,rfl⟩,if_pos zo]
 rw [if_neg h];by_cases h2:k<x∧k<y∧(x<i∨x=i∧y<j)
 ·rw [if_pos h2,if_pos zo]
 rw [if_neg h2,if_neg zo]
theorem az {x y:Nat}(hy:y<N):schV a k i N x y=schV a k (i+1) 0 x y:=by
 unfold schV;by_cases h:k<x∧k<y∧(x<i∨x=i∧y<N)
 ·rw [if_pos h,if_pos zo]
 rw [if_neg h,if_neg zo]
theorem zds {x y:Nat}(hx:x<N):schV a k N 0 x y=tU a k x y:=by
 unfold schV tU;by_cases h:k<x∧k<y
 ·rw [if_pos h,if_pos zo]
 rw [if_neg h,if_neg zo]
theorem kO (h:a k k=0):schV a k i j=a:=by
 funext x y;unfold schV;split
 ·rw [h,Rat.div_def,Rat.inv_zero,Rat.mul_zero,Rat.zero_mul,Rat.sub_eq_add_neg,Rat.neg_zero,Rat.add_zero]
 rfl
end
theorem LdP.skipA {k:Nat}{a0 a:Nat→Nat→Rat}{T:Nat→Nat→Int}(hD:0<D)(h:LdP n P D a0 k T bf a)(hk:k<n)(hz:a k k=0)(ha:∀i,k<i→i<n→a i k=0):LdP n P D a0 (k+1) T bf a:=
 h.skip hD hk hz fun i h1 h2=>(uZ h.i.tab h.i.pos (fun _=>nJ) zo h2 (Nat.le_refl _) hk).2 (ha i h1 h2)
theorem zjb (k0:Nat){N:Nat}{a0:Nat→Nat→Rat}(r:RD h n (.slice ar N cap) N a0)(hN:1≤N∧N≤3)(hP1:1≤P)(hPP:P≤4)(hD:0<D)(hD2:D<2^P)(hB:∀i j,i<N→j<N→FN D B (a0 i j))(hB2:B<2^P):
  CX (cal (k0+8)) 141 [.slice ar N cap] h n fun v _ _=>∃x1 x2 x3 x4 x5 x6 ok,v=.tuple #[.slice x1 x2 x3,.slice x4 x5 x6,.bool ok]∧(ok=true↔psdA N N 0 a0):=by
 have h9:=sq9 hN.2;refine zk (fn:=Tryz.f141) R4 ?_;refine zG ?_;refine sC (zmr _ r hN) ?_;rintro _ h1 n1 ⟨ta,ra,rfl,m1,f1⟩ y1 x1;refine zG ?_;refine sC (zl5 _ _ _ hN.2) ?_;rintro _ h2 n2 ⟨tl,rl,u2,rfl,l2,f2⟩ y2 x2;have m2:RM h2 n2 ta N ra a0:=m1.ext x2 y2;have E2:Ex0 n h h2:=⟨fun c hc=>(x2 c zo).trans (x1 c hc)⟩;have hta:ta<3*n1:=m1.t.1;have htl:tl<3*n2:=l2.t.1;have hra:∀b∈ra,3*n≤b∧b<3*n1:=fun b hb=>⟨f1 b (.inr hb),m1.blt hb⟩;have hrl:∀b∈rl,3*n1≤b∧b<3*n2:=fun b hb=>⟨f2 b (.inr hb),l2.blt hb⟩;have hta0:3*n≤ta:=f1 _ (.inl rfl);have htl0:3*n1≤tl:=f2 _ (.inl rfl);clear m1 x1 x2;refine zG ?_;refine sF (α:=Nat×(Nat→Nat→Int)×Int×(Nat→Nat→Rat)×(Nat→Nat→Rat)×Value×List Rat) (fun z=>[(5,.int .i64 (N:Int)),(6,slN N ta),(7,slN N tl),(8,z.2.2.2.2.2.1),(9,.int .i64 (z.1:Int))])
  (fun z h' n' w'=>w'=[]∧n2≤n'∧Ex0 n h h'∧RM h' n' ta N ra z.2.2.2.1∧RM h' n' tl N rl z.2.2.2.2.1∧GR 4 numP n2 h' n' 51 z.2.2.2.2.2.1 z.2.2.2.2.2.2∧z.2.2.2.2.2.2.length=z.1∧LdP N P D a0 z.1 z.2.1 z.2.2.1 z.2.2.2.1∧z.1≤N)
  (fun z=>N-z.1) (0,tT N a0,1,a0,u2,.slice none 0 0,[]) ⟨rfl,Nat.le_refl _,E2,m2,l2,GR.nil,rfl,LdP.start hD hB2 hB,Nat.zero_le _⟩ ?_
 rintro ⟨k,T,bf,a,u,vd,ds⟩ t h3 n3 _ ⟨rfl,y3,E3,m3,l3,g3,d3,hP,hk⟩;have y3:n2≤n3:=y3;have E3:Ex0 n h h3:=E3;have m3:RM h3 n3 ta N ra a:=m3;have l3:RM h3 n3 tl N rl u:=l3;have g3:GR 4 numP n2 h3 n3 51 vd ds:=g3;have d3:ds.length=k:=d3;have hP:LdP N P D a0 k T bf a:=hP;have hk:k≤N:=hk;obtain ⟨ad,rfl⟩:=g3.shape d3;refine zG ?_;by_cases qk:(k:Int)<(N:Int)
 ·have hkN:k<N:=zo;obtain ⟨bk,hbk,hbk3,hbkm⟩:=m3.get hkN;obtain ⟨s1,c1,p1,q1,s2,c2,p2,q2,tk,ik,jk⟩:=m3.el hbk hkN;refine zG ?_;refine sI (j:=k) (len:=N) rfl hkN ?_;refine sL (m3.row hbk) m3.t.1 0 ?_;refine zG ?_;refine sI (j:=k) (len:=N) rfl hkN ?_;refine sL tk hbk3 0 ?_;refine sC (rT _ ik jk) ?_;rintro _ h4 n4 ⟨s4,rfl,q4⟩ y4 x4;have q4:s4= -1∧(a k k).num<0∨s4=0∧(a k k).num=0∨s4=1∧0<(a k k).num:=q4;by_cases hneg:s4<0
  ·have hlt:a k k<0:=iL zo;have X4:Ext n h h4:=fun c hc=>(x4 c zo).trans (E3.e c hc);have y44:n≤n4:=zo;clear x4;refine zG ?_;refine zq ?_;exact ⟨_,_,_,_,_,_,_,rfl,fun hq=>(by cases hq),fun hq=>absurd hq (hP.i.neg hkN hlt)⟩
  have hnn:0≤(a k k).num:=zo;refine zG ?_;refine sI (j:=k) (len:=N) rfl hkN ?_;refine sL (m3.row hbk) m3.t.1 0 ?_;refine zG ?_;refine sI (j:=k) (len:=N) rfl hkN ?_;refine sL tk hbk3 0 ?_;refine sMs [.bool s1,.slice c1 p1 q1,.bool s2,.slice c2 p2 q2] ?_;intro h5 p5 x5;have X5:Ext n3 h3 h5:=fun c hc=>(x5 c zo).trans (x4 c hc);have T5:Tr n3 h3 (n4+1) h5:=⟨zo,fun c hc=>.inl (X5 c hc)⟩;refine sGA (n0:=n) [.bool s1,.slice c1 p1 q1,.bool s2,.slice c2 p2 q2] [a k k] (g3.go numP.kp T5 (fun b hb=>X5 b (g3.bk b hb).2.1)) numP.kp (.cons (c:=[.bool s1,.slice c1 p1 q1,.bool s2,.slice c2 p2 q2]) rfl ⟨_,_,_,_,_,_,_,_,rfl,ik.t T5,jk.t T5⟩ .nil) ⟨rfl,rfl⟩ (yy p5 R2) (Nat.le_refl _) (by rw [d3];show k+1<_;omega) zo ?_;intro v6 h6 g6 T6 X6 K6 F6;obtain ⟨a6,rfl⟩:=g6.shape (L:=k+1) (by rw [List.length_append,d3];rfl);have T36:Tr n3 h3 (n4+1+1) h6:=T5.trans T6;have K36:∀c,c<3*n2→h6 c=h3 c:=fun c hc=>(X6 c zo).trans (X5 c zo);have E6:Ex0 n h h6:=⟨fun c hc=>(K36 c zo).trans (E3.e c hc)⟩;have m6:RM h6 (n4+1+1) ta N ra a:=m3.go2 (fun c _ hc=>K36 c (by rcases hc with rfl|hc;omega;have:=hra c hc;omega)) T36;have l6:RM h6 (n4+1+1) tl N rl u:=l3.go2 (fun c _ hc=>K36 c (by rcases hc with rfl|hc;omega;have:=hrl c hc;omega)) T36;have d6:(ds++[a k k]).length=k+1:=by rw [List.length_append,d3];rfl
  clear x4 x5 X5 T5 p5 T6 X6 K6 F6 T36 K36 m3 l3 g3 tk ik jk;obtain ⟨n6,hn6⟩:∃n6,n6=n4+1+1:=⟨_,rfl⟩;have y6:n2≤n6:=zo;rw [←hn6] at m6 l6 g6 ⊢;clear hn6;refine zG ?_;refine sF (α:=Nat×(Nat→Nat→Rat)) (fun z=>[(5,.int .i64 (N:Int)),(6,slN N ta),(7,slN N tl),(8,.slice a6 (k+1) (k+1)),(9,.int .i64 (k:Int)),(10,.int .i64 (z.1:Int))])
   (fun z h' n' w'=>w'=[]∧n6≤n'∧Ex0 n h h'∧RM h' n' ta N ra (schV a k z.1 0)∧RM h' n' tl N rl z.2∧GR 4 numP n2 h' n' 51 (.slice a6 (k+1) (k+1)) (ds++[a k k])∧(a k k=0→∀i,k<i→i<z.1→a i k=0)∧k+1≤z.1∧z.1≤N)
   (fun z=>N-z.1) (k+1,u) ⟨rfl,Nat.le_refl _,E6,by rw [dh];exact m6,l6,g6,fun _ i h1 h2=>(by have h2:i<k+1:=h2;omega),Nat.le_refl _,hkN⟩ ?_
  rintro ⟨i,u⟩ t h7 n7 _ ⟨rfl,y7,E7,m7,l7,g7,z7,hi1,hi2⟩;have y7:n6≤n7:=y7;have E7:Ex0 n h h7:=E7;have m7:RM h7 n7 ta N ra (schV a k i 0):=m7;have l7:RM h7 n7 tl N rl u:=l7;have g7:GR 4 numP n2 h7 n7 51 (.slice a6 (k+1) (k+1)) (ds++[a k k]):=g7;have z7:a k k=0→∀i',k<i'→i'<i→a i' k=0:=z7;have hi1:k+1≤i:=hi1;have hi2:i≤N:=hi2;clear E6 m6 l6 g6;refine zG ?_;by_cases qi:(i:Int)<(N:Int)
  ·have hiN:i<N:=zo;have hk1:k≤1:=zo;obtain ⟨bk,hbk,hbk7,hbkm⟩:=m7.get hkN;obtain ⟨bi,hbi,hbi7,hbim⟩:=m7.get hiN;obtain ⟨s1,c1,p1,q1,s2,c2,p2,q2,tk,ik,jk⟩:=m7.el hbk hkN;obtain ⟨s3,c3,p3,q3,s5,c5,p5,q5,ti,ii,ji⟩:=m7.el hbi hkN;rw [pk (.inl rfl)] at ik jk;rw [pk (.inr (.inl rfl))] at ii ji;refine zG ?_;refine sI (j:=k) (len:=N) rfl hkN ?_;refine sL (m7.row hbk) m7.t.1 0 ?_;refine zG ?_;refine sI (j:=k) (len:=N) rfl hkN ?_;refine sL tk hbk7 0 ?_;refine sC (rT _ ik jk) ?_;rintro _ h8 n8 ⟨s8,rfl,r8⟩ y8 x8;by_cases hs8:s8=0
   ·have hak:a k k=0:=Rat.num_eq_zero.1 zo;refine zG ?_;refine sI (j:=i) (len:=N) rfl hiN ?_;refine sL (m7.row hbi) m7.t.1 0 ?_;refine zG ?_;refine sI (j:=k) (len:=N) rfl hkN ?_;refine sL ti hbi7 0 ?_;refine sC (rT _ (ii.x ⟨y8,x8⟩) (ji.x ⟨y8,x8⟩)) ?_;rintro _ h9 n9 ⟨s9,rfl,r9⟩ y9 x9;have X9:Ext n7 h7 h9:=fun c hc=>(x9 c zo).trans (x8 c hc);clear x8 x9;by_cases hs9:s9=0
    ·have haik:a i k=0:=Rat.num_eq_zero.1 zo;have T9:Tr n7 h7 n9 h9:=⟨zo,fun c hc=>.inl (X9 c hc)⟩;have E9:Ex0 n h h9:=⟨fun c hc=>(X9 c zo).trans (E7.e c hc)⟩;have m9:RM h9 n9 ta N ra (schV a k (i+1) 0):=by
      have:=m7.ext X9 (show n7≤n9 by omega);rw [kO hak] at this;rw [kO hak];exact this
     have l9:=l7.ext X9 (show n7≤n9 by omega);have g9:=g7.go numP.kp T9 (fun b hb=>X9 b (g7.bk b hb).2.1);clear X9 T9;refine zG ?_;exact sK (i+1,u) ⟨rfl,zo,E9,m9,l9,g9,fun h0 i' h1 h2=>(by
      have h2:i'<i+1:=h2;by_cases he:i'=i
      ·rw [he];exact haik
      ·exact z7 h0 i' h1 zo),by show k+1≤i+1;omega,by show i+1≤N;omega⟩
    have hne:a i k≠0:=fun e=>by rw [e] at r9;simp at r9;omega
    have XX:Ext n h h9:=fun c hc=>(X9 c zo).trans (E7.e c hc);have y99:n≤n9:=zo;clear X9;refine zG ?_;refine zq ?_;exact ⟨_,_,_,_,_,_,_,rfl,fun hq=>(by cases hq),fun hq=>absurd (((hP.i.unf hkN).1 hq).2.1 hak i zo hiN) hne⟩
   have hkk0:(a k k).num≠0:=zo;have hpos:0<a k k:=lg zo;have szi:=(hP.sz hN.2 hP1 hD hD2 hkN (i:=i) (j:=k) zo hiN (Nat.le_refl _) hkN).2 hk1;have szk:=(hP.sz hN.2 hP1 hD hD2 hkN (i:=k) (j:=k) (Nat.le_refl _) hkN (Nat.le_refl _) hkN).2 hk1;have szq:=hP.quo hN.2 hP1 hD hD2 hkN hpos (i:=i) zo hiN;obtain ⟨li,hli,hli7,hlim⟩:=l7.get hiN;have X8:Ex0 n7 h7 h8:=⟨x8⟩;have m8:=m7.ext x8 y8;have l8:=l7.ext x8 y8;have g8:=g7.go numP.kp ⟨y8,fun c hc=>.inl (x8 c hc)⟩ (fun b hb=>x8 b (g7.bk b hb).2.1);have ik8:=ik.x ⟨y8,x8⟩;have jk8:=jk.x ⟨y8,x8⟩;have ii8:=ii.x ⟨y8,x8⟩;have ji8:=ji.x ⟨y8,x8⟩;have tk8:At h8 bk (0+k*4) _:=tk.keep (x8 bk hbk7);have ti8:At h8 bi (0+k*4) _:=ti.keep (x8 bi hbi7);clear x8 m7 l7 g7 ik jk ii ji tk ti;refine zG ?_;refine zl [0,0,3,7,0,0,0,96,224,0,992,2016,0,0,12288,28672,0,126976,258048,524256,1048575,2097151] rfl ?_;refine zH ?_;refine dI (j:=i) (len:=N) rfl hiN ?_;refine dL (l8.row hli) l8.t.1 0 ?_;refine zH ?_;refine dI (j:=i) (len:=N) rfl hiN ?_;refine dL (m8.row hbi) m8.t.1 0 ?_;refine zH ?_;refine dI (j:=k) (len:=N) rfl hkN ?_;refine dL ti8 (show bi<3*n8 by omega) 0 ?_;refine zH ?_;refine dI (j:=k) (len:=N) rfl hkN ?_;refine dL (m8.row hbk) m8.t.1 0 ?_;refine zH ?_;refine dI (j:=k) (len:=N) rfl hkN ?_;refine dL tk8 (show bk<3*n8 by omega) 0 ?_;refine zH ?_;refine dC (zmi _ ii8 ji8 ik8 jk8 szi szk zo hkk0) ?_;rintro _ h9 n9 ⟨b9,a9,l9,c9,d9,e9,f9,g9,rfl,i9,j9⟩ y9 x9;refine dI (j:=k) (len:=N) rfl hkN ?_;refine dZn (n0:=n) (j:=k) (q:=a i k/a k k) [.bool b9,.slice a9 l9 c9,.bool d9,.slice e9 f9 g9] ((l8.r i li hli).ext numP.kp x9 y9) numP.kp (by rw [xP];exact hkN) (show (0:Nat)+k*4=k*4 by omega) ⟨_,_,_,_,_,_,_,_,rfl,i9,j9⟩ (by have:=(hrl li hlim).1;omega) ?_;intro h10 o10 s10;have X10:∀c,c<3*n8→c≠li→h10 c=h8 c:=fun c hc hn=>(s10.1 c hn).trans (x9 c hc);have T10:Tr n8 h8 n9 h10:=Tr.s s10 ⟨y9,fun c hc=>.inl (x9 c hc)⟩;have hli1:=(hrl li hlim).1;have m10:RM h10 n9 ta N ra (schV a k i (k+1)):=by
    rw [zdq];exact m8.go2 (fun c hc hm=>X10 c hc (by rcases hm with rfl|hm;omega;have:=hra c hm;omega)) T10
   have l10:RM h10 n9 tl N rl (updT u i k (a i k/a k k)):=l8.put hli hkN T10 (fun c hc hm=>X10 c (by rcases hm with rfl|hm;exact l8.t.1;exact l8.blt hm) hc) o10;have g10:=g8.go numP.kp T10 (fun b hb=>X10 b (g8.bk b hb).2.1 (by have:=(g8.bk b hb).1;have:=(hrl li hlim).2;omega));have E10:Ex0 n h h10:=⟨fun c hc=>(X10 c zo zo).trans ((X8.e c zo).trans (E7.e c hc))⟩;clear x9 X10 T10 m8 l8 g8 ik8 jk8 ii8 ji8 tk8 ti8;refine zG ?_;refine sF (α:=Nat) (fun z=>[(5,.int .i64 (N:Int)),(6,slN N ta),(7,slN N tl),(8,.slice a6 (k+1) (k+1)),(9,.int .i64 (k:Int)),(10,.int .i64 (i:Int)),(11,.int .i64 (z:Int))])
    (fun z h' n' w'=>w'=[]∧n9≤n'∧Ex0 n h h'∧RM h' n' ta N ra (schV a k i z)∧RM h' n' tl N rl (updT u i k (a i k/a k k))∧GR 4 numP n2 h' n' 51 (.slice a6 (k+1) (k+1)) (ds++[a k k])∧k+1≤z∧z≤N)
    (fun z=>N-z) (k+1) ⟨rfl,Nat.le_refl _,E10,m10,l10,g10,Nat.le_refl _,hkN⟩ ?_
   rintro j t h11 n11 _ ⟨rfl,y11,E11,m11,l11,g11,hj1,hj2⟩;have y11:n9≤n11:=y11;have hj1:k+1≤j:=hj1;have hj2:j≤N:=hj2;clear E10 m10 l10 g10 E7 X8;refine zG ?_;by_cases qj:(j:Int)<(N:Int)
   ·have hjN:j<N:=zo;obtain ⟨bk,hbk,hbk11,hbkm⟩:=m11.get hkN;obtain ⟨bi,hbi,hbi11,hbim⟩:=m11.get hiN;obtain ⟨li,hli,hli11,hlim⟩:=l11.get hiN;obtain ⟨s1,c1,p1,q1,s2,c2,p2,q2,tij,iij,jij⟩:=m11.el hbi hjN;obtain ⟨s3,c3,p3,q3,s5,c5,p5,q5,tkj,ikj,jkj⟩:=m11.el hbk hjN;obtain ⟨s6,c6,p6,q6,s7,c7,p7,q7,tl1,il1,jl1⟩:=l11.el hli hkN;rw [pk (.inr (.inr ⟨rfl,Nat.le_refl _⟩))] at iij jij;rw [pk (.inl rfl)] at ikj jkj;rw [show updT u i k (a i k/a k k) i k=a i k/a k k from if_pos ⟨rfl,rfl⟩] at il1 jl1;have szij:=(hP.sz hN.2 hP1 hD hD2 hkN (i:=i) (j:=j) zo hiN zo hjN).2 hk1;have szkj:=(hP.sz hN.2 hP1 hD hD2 hkN (i:=k) (j:=j) (Nat.le_refl _) hkN zo hjN).2 hk1;refine zG ?_;refine zl [0,0,3,7,0,0,0,96,224,0,992,2016,0,0,12288,28672,0,126976,258048,0,0,1572864,3670016,0,16252928,33030144,67104768,134217696,268435455,536870911] rfl ?_;refine zH ?_;refine dI (j:=i) (len:=N) rfl hiN ?_;refine dL (m11.row hbi) m11.t.1 0 ?_;refine zH ?_;refine dI (j:=i) (len:=N) rfl hiN ?_;refine dL (m11.row hbi) m11.t.1 0 ?_;refine zH ?_;refine dI (j:=j) (len:=N) rfl hjN ?_;refine dL tij hbi11 0 ?_;refine zH ?_;refine dI (j:=i) (len:=N) rfl hiN ?_;refine dL (l11.row hli) l11.t.1 0 ?_;refine zH ?_;refine dI (j:=k) (len:=N) rfl hkN ?_;refine dL tl1 hli11 0 ?_;refine zH ?_;refine dI (j:=k) (len:=N) rfl hkN ?_;refine dL (m11.row hbk) m11.t.1 0 ?_;refine zH ?_;refine dI (j:=j) (len:=N) rfl hjN ?_;refine dL tkj hbk11 0 ?_;refine zH ?_;refine dC (zdz _ il1 jl1 ikj jkj szq szkj zo) ?_;rintro _ h12 n12 ⟨b12,a12,l12,c12,d12,e12,f12,g12,rfl,i12,j12⟩ y12 x12;refine dC (zkk _ (iij.x ⟨y12,x12⟩) (jij.x ⟨y12,x12⟩) i12 j12 szij (szq.mul szkj) zo) ?_;rintro _ h13 n13 ⟨b13,a13,l13,c13,d13,e13,f13,g13,rfl,i13,j13⟩ y13 x13;refine dI (j:=j) (len:=N) rfl hjN ?_;have X13:Ext n11 h11 h13:=fun c hc=>(x13 c zo).trans (x12 c hc);clear x12 x13;have hbi1:=hra bi hbim;refine dZn (n0:=n) (j:=j) (q:=a i j-a i k/a k k*a k j) [.bool b13,.slice a13 l13 c13,.bool d13,.slice e13 f13 g13] ((m11.r i bi hbi).ext numP.kp X13 zo) numP.kp (by rw [xP];exact hjN) (show (0:Nat)+j*4=j*4 by omega) ⟨_,_,_,_,_,_,_,_,rfl,i13,j13⟩ hbi1.1 ?_;intro h14 o14 s14;have X14:∀c,c<3*n11→c≠bi→h14 c=h11 c:=fun c hc hn=>(s14.1 c hn).trans (X13 c hc);have T14:Tr n11 h11 n13 h14:=Tr.s s14 ⟨zo,fun c hc=>.inl (X13 c hc)⟩;have m14:RM h14 n13 ta N ra (schV a k i (j+1)):=by
     rw [←zdr zo zo];exact m11.put hbi hjN T14 (fun c hc hm=>X14 c (by rcases hm with rfl|hm;exact m11.t.1;exact m11.blt hm) hc) o14
    have l14:=l11.go2 (fun c hc hm=>X14 c hc (by rcases hm with rfl|hm;omega;have:=hrl c hm;omega)) T14;have g14:=g11.go numP.kp T14 (fun b hb=>X14 b (g11.bk b hb).2.1 (by have:=(g11.bk b hb).1;omega));have E14:Ex0 n h h14:=⟨fun c hc=>(X14 c zo zo).trans (E11.e c hc)⟩;clear X13 X14 T14;refine zG ?_;exact sK (j+1) ⟨rfl,zo,E14,m14,l14,g14,zo,by show j+1≤N;omega⟩
   have hjN:j=N:=zo;have m15:RM h11 n11 ta N ra (schV a k (i+1) 0):=m11.as (fun x y _ hy=>by rw [hjN];exact az hy);refine zG ?_;exact sK (i+1,updT u i k (a i k/a k k)) ⟨rfl,zo,E11,m15,l11,g11,fun h0=>(by rw [h0] at hkk0;exact absurd rfl hkk0),by show k+1≤i+1;omega,by show i+1≤N;omega⟩
  have hiN:i=N:=zo;subst hiN;have m8:RM h7 n7 ta i ra (tU a k):=m7.as (fun x y hx _=>zds hx);refine zG ?_;by_cases hz:a k k=0
  ·exact sK (k+1,T,bf,tU a k,u,.slice a6 (k+1) (k+1),ds++[a k k]) ⟨rfl,zo,E7,m8,l7,g7,d6,by rw [nV hz];exact hP.skipA hD hkN hz (fun x h1 h2=>z7 hz x h1 h2),by show k+1≤i;omega⟩
  have hpos:0<a k k:=lg (by have:(a k k).num≠0:=fun e=>hz (Rat.num_eq_zero.1 e);omega);exact sK (k+1,yq T k bf,T k k,tU a k,u,.slice a6 (k+1) (k+1),ds++[a k k]) ⟨rfl,zo,E7,m8,l7,g7,d6,hP.step hN.2 hD hkN hpos,by show k+1≤i;omega⟩
 have hkN:k=N:=zo;refine zG ?_;have X3:=E3.e;have y33:n≤n3:=zo;refine zq ?_;exact ⟨_,_,_,_,_,_,_,rfl,⟨fun _=>hP.i.done hkN,fun _=>rfl⟩⟩
theorem zca (k0:Nat){N:Nat}{a0:Nat→Nat→Rat}(r:RD h n (.slice ar N cap) N a0)(hN:1≤N∧N≤3)(hP1:1≤P)(hPP:P≤4)(hD:0<D)(hD2:D<2^P)(hB:∀i j,i<N→j<N→FN D B (a0 i j))(hB2:B<2^P):
  VF (cal (k0+9)) 98 [.slice ar N cap] h n fun v=>∃ok:Bool,v=.bool ok∧(ok=true↔psdA N N 0 a0):=by
 refine zw (fn:=Tryz.f98) R4 ?_;refine zG ?_;refine sC (zjb _ r hN hP1 hPP hD hD2 hB hB2) ?_;rintro _ h1 n1 ⟨x1,x2,x3,x4,x5,x6,ok,rfl,hok⟩ y1 z1;refine zG ?_;refine zf ?_;exact ⟨ok,rfl,hok⟩
end
end Go.Proofs.YtfajmfoofmienaaGreatDoor
