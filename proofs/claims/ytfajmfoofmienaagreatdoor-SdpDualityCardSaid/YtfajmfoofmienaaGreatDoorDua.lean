/-
 For every input the statement SdpDuality returns true and leaves its arguments as they were. Conditions: the listed package-level variables hold what the program's text lays (tied).
-/
import Derived.Test.YtfajmfoofmienaaGreatDoorDuaG
open Go.OpenSpec renaming ofChange→G3
open Option.some renaming inj→A0
set_option maxHeartbeats 8000000
set_option linter.unusedVariables false
set_option linter.unusedSimpArgs false
namespace Go.Proofs.YtfajmfoofmienaaGreatDoor
open Go Go.GL Go.ChangeShapes Go.WideShapes Go.RowKit
set_option maxRecDepth 100000
theorem ft {H:Type}{enc:TypeId×Value→H}{P:Program}{w:World}{c:Nat}{b:Nat→Bool}{e:Bool}{t:TypeId}{a:Array Value}{ds:List (DataW H)}{f:List MemPlace}(h:DataW.TrodAll enc P w c b e [t] a.toList ds f):
  ∃v d p,a=#[v]∧ds=[d]∧f=p∧DataW.Trod enc P w c b e t v d p:=by
 obtain ⟨v,o,d,l,p,m,g,rfl,rfl,i,j⟩:=trodAll_cons h;obtain ⟨rfl,rfl,rfl⟩:=trodAll_nil j;exact ⟨v,d,p,by cases a;simp_all,rfl,gN,i⟩
theorem qZ (os:Os)(c:os.Started)(H:Type)(enc:TypeId×Value→H):
  ReturnsInHanded {} Tryz.checked os 5 .any (fun w a=>(Rows.sdpDualitySpec.pre enc Tryz.prog Tryz.f5 [] false w a∧laidMet Tryz.prog zby w)∧sizedMet enc Tryz.prog Tryz.f5 (G3 Rows.sdpDualitySpec) false w a)
   (Rows.sdpDualitySpec.post enc Tryz.prog Tryz.f5 false true false false):=by
 refine returnsInHanded_of_change_and (C:=Tryz.checked) (X:=fun w _=>laidMet Tryz.prog zby w) (fun _ _ _ hh h=>h.of_heap hh) own c (by kernel_rfl) Tryz.func5
  (ChangeSpec.witness_at (enc:=enc) (C:=Tryz.checked) (os:=os) (X:=fun w _=>laidMet Tryz.prog zby w) false (gk os) #[Value.slice none 0 0] 8 rfl (by kernel_rfl) (by kernel_rfl) (by kernel_rfl) (by kernel_rfl) (by kernel_rfl) (jr os _)) ?_
 intro W l a V o u f K _ _ Y _;have d:∀(j:Nat) t v,(Tryz.f5).params[j]?=some t→a[j]?=some v→Value.okWide Tryz.prog W .any l t v:=f;have i:=K;obtain ⟨p,q,G,J,rfl,a2,a3⟩:=K;have F:DataW.TrodAll enc Tryz.prog W 0 (fun _=>true) true (Tryz.f5).params.toList a.toList V p:=G;have I:DataW.TrodVars enc Tryz.prog W (fun _=>true) [] o q:=J;rw [Tryz.params5] at F d;obtain ⟨T,y,_,rfl,rfl,rfl,B⟩:=ft F;obtain ⟨rfl,rfl⟩:o=[]∧q=[]:=by
  cases o with
  |nil=>exact ⟨rfl,I⟩
  |cons g r=>exact cA I (by intro h;cases h)
 have m:Rows.sdpDualitySpec.fn H ([y]++[])={results:=[.lit (.bool true)],args:=[y]}:=by simp [Rows.sdpDualitySpec]
 have N:∀x∈p,x.block<W.heap.size:=fun x s=>i.lt x (by simpa using s);refine (zcj (W:=W) 5 [T] 20 fun n D L a1=>?_).mono fun e W' ⟨Z,M⟩=>?_
 ·obtain ⟨U,l0,c0,L0,P,rfl,A,S⟩:=zi7 Tryz.underlying22 (by kernel_rfl) (by kernel_rfl) (d 0 _ T rfl rfl) B L.sz;rw [A] at S;show VF _ _ [up nm _] _ _ _;rw [A];refine jg 0 (zhk Y) D (fun ad b=>?_) S;cases U with
  |none=>cases b
  |some ad0=>injection b with b;rw [←b];exact P ad0 rfl
 subst Z;refine ⟨_,rfl,_,_,_,[],p,[],i,?_,?_,?_,M.frame _,fun h=>by cases h⟩
 ·rw [m];exact trodAll_mk1 (shut_bool Tryz.underlying4 true)
 ·rw [m];have O:Tryz.prog.readableRec 22=true:=by kernel_rfl
  have R:22<Tryz.prog.types.size:=of_decide_eq_true (by kernel_rfl);exact trodAll_mk1 (Below.trod zm9 O R B M fun x s=>N x (by simp [s]))
 rw [m];rfl
theorem ou:Rows.SdpDualitySaid:=
 OpenClaim.holds_of_wide 5 Tryz.f5 rfl rfl rfl rfl rfl rfl rfl ⟨rfl,rfl,rfl,rfl,rfl⟩ rfl rfl rfl rfl rfl (by kernel_rfl) Tryz.func5 pa
  (of_decide_eq_true (by kernel_rfl)) (by unfold Func.isWrapper;rw [cC (of_decide_eq_false (by kernel_rfl))];exact ⟨rfl,rfl⟩)
  (fun c a H b _=>qZ c a H b)
theorem sdpDuality_card:Rows.SdpDualityCardSaid:=
 Claim7.holds_tied_plain_at .later [] [.data,.data,.data] true (true, "cb054623145d01328a651aa8a1ad451e051f5534ce1add1ceff17b37815760bd") false
  ou (fun _ h=>by cases h) (by kernel_rfl) (fun _ h=>by cases h) sdpDuality_row_tie rfl ⟨rfl,rfl⟩ (by kernel_rfl) rfl
  (fun f fn hf hfn=>by
   obtain rfl:f=5:=A0 ((show Tryz.prog.funcNamed Rows.sdpDualityRow.func=some 5 by kernel_rfl).symm.trans hf) |>.symm;obtain rfl:fn=Tryz.f5:=(A0 (Tryz.func5.symm.trans hfn)).symm;exact ⟨by kernel_rfl,fun j t ht=>by
    rw [Tryz.params5] at ht;obtain rfl:t=22:=by
     rcases j with _|j
     ·simpa using ht.symm
     simp at ht
    exact (show Tryz.prog.wantsStandIn 22=false by kernel_rfl)⟩)
  (by kernel_rfl)
end Go.Proofs.YtfajmfoofmienaaGreatDoor
