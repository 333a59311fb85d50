/-
 For every input the statement SdpValues returns true and leaves its arguments as they were. Conditions: the listed package-level variables hold what the program's text lays (tied).
-/
import Derived.Test.YtfajmfoofmienaaGreatDoorValG
set_option maxHeartbeats 8000000
set_option linter.unusedVariables false
set_option linter.unusedSimpArgs false
namespace Go.Proofs.YtfajmfoofmienaaGreatDoor
open Go Go.GL Go.ChangeShapes Go.WideShapes Go.RowKit
set_option maxRecDepth 100000
theorem jU {H:Type}{enc:TypeId×Value→H}{P:Program}{w:World}{base:Nat}{spare:Nat→Bool}{held:Bool}{t:TypeId}{args:Array Value}{ds:List (DataW H)}{ps:List MemPlace}(h:DataW.TrodAll enc P w base spare held [t] args.toList ds ps):
  ∃v d p,args=#[v]∧ds=[d]∧ps=p∧DataW.Trod enc P w base spare held t v d p:=by
 obtain ⟨v,vs,d,ds0,p,q0,hargs,rfl,rfl,hd,r0⟩:=trodAll_cons h;obtain ⟨rfl,rfl,rfl⟩:=trodAll_nil r0;exact ⟨v,d,p,by cases args;simp_all,rfl,by simp,hd⟩
theorem pc (os:Os)(started:os.Started)(H:Type)(enc:TypeId×Value→H):
  ReturnsInHanded {} Tryz.checked os 4 .any (fun w args=>(Rows.sdpValuesSpec.pre enc Tryz.prog Tryz.f4 [] false w args∧laidMet Tryz.prog dN w)∧sizedMet enc Tryz.prog Tryz.f4 (OpenSpec.ofChange Rows.sdpValuesSpec) false w args)
   (Rows.sdpValuesSpec.post enc Tryz.prog Tryz.f4 false true false false):=by
 refine returnsInHanded_of_change_and (C:=Tryz.checked) (X:=fun w _=>laidMet Tryz.prog dN w) (fun _ _ _ hh h=>h.of_heap hh) own started (by kernel_rfl) Tryz.func4
  (ChangeSpec.witness_at (enc:=enc) (C:=Tryz.checked) (os:=os) (X:=fun w _=>laidMet Tryz.prog dN w) false (jj os) #[.slice none 0 0] 8 rfl (by kernel_rfl) (by kernel_rfl) (by kernel_rfl) (by kernel_rfl) (by kernel_rfl) (lI os _)) ?_
 intro W base args ds gs before hval0 hW _ _ hL _;have hval:∀(j:Nat) t v,(Tryz.f4).params[j]?=some t→args[j]?=some v→Value.okWide Tryz.prog W .any base t v:=hval0;have hW':=hW;obtain ⟨p,q,hA0,hV0,rfl,hfz,hnd⟩:=hW;have hA:DataW.TrodAll enc Tryz.prog W 0 (fun _=>true) true (Tryz.f4).params.toList args.toList ds p:=hA0;have hV:DataW.TrodVars enc Tryz.prog W (fun _=>true) [] gs q:=hV0;rw [Tryz.params4] at hA hval;obtain ⟨v0,d0,_,rfl,rfl,rfl,h0⟩:=jU hA;obtain ⟨rfl,rfl⟩:gs=[]∧q=[]:=by
  cases gs with
  |nil=>exact ⟨rfl,hV⟩
  |cons g r=>exact absurd hV (by intro h;cases h)
 have e1:Rows.sdpValuesSpec.fn H ([d0]++[])={results:=[.lit (.bool true)],args:=[d0]}:=by simp [Rows.sdpValuesSpec]
 have hlt:∀x∈p,x.block<W.heap.size:=fun x hx=>hW'.lt x (by simpa using hx);refine (cI (W:=W) 4 [v0] 20 fun n h20 hWn hbd=>?_).mono fun e W' ⟨he,hb⟩=>?_
 ·obtain ⟨a0,l0,c0,L0,hsp,rfl,e0,s0⟩:=zeo Tryz.underlying22 (by kernel_rfl) (by kernel_rfl) (hval 0 _ v0 rfl rfl) h0 hWn.sz;rw [e0] at s0;show VF _ _ [up nm _] _ _ _;rw [e0];refine kN 0 (zc3 hL) h20 (fun ad had=>?_) s0;cases a0 with
  |none=>cases had
  |some ad0=>injection had with had;rw [←had];exact hsp ad0 rfl
 subst he;refine ⟨_,rfl,_,_,_,[],p,[],hW',?_,?_,?_,hb.frame _,fun h=>by cases h⟩
 ·rw [e1];exact trodAll_mk1 (shut_bool Tryz.underlying4 true)
 ·rw [e1];have hr0:Tryz.prog.readableRec 22=true:=by kernel_rfl
  have ht0:22<Tryz.prog.types.size:=of_decide_eq_true (by kernel_rfl);exact trodAll_mk1 (Below.trod zio hr0 ht0 h0 hb fun x hx=>hlt x (by simp [hx]))
 rw [e1];rfl
theorem pQ:Rows.SdpValuesSaid:=
 OpenClaim.holds_of_wide 4 Tryz.f4 rfl rfl rfl rfl rfl rfl rfl ⟨rfl,rfl,rfl,rfl,rfl⟩ rfl rfl rfl rfl rfl (by kernel_rfl) Tryz.func4 pd
  (of_decide_eq_true (by kernel_rfl)) (by unfold Func.isWrapper;rw [if_neg (of_decide_eq_false (by kernel_rfl))];exact ⟨rfl,rfl⟩)
  (fun os started H enc _=>pc os started H enc)
theorem sdpValues_card:Rows.SdpValuesCardSaid:=
 Claim7.holds_tied_plain_at .later [] [.data,.data,.data] true (true, "cb054623145d01328a651aa8a1ad451e051f5534ce1add1ceff17b37815760bd") false
  pQ (fun _ h=>by cases h) (by kernel_rfl) (fun _ h=>by cases h) sdpValues_row_tie rfl ⟨rfl,rfl⟩ (by kernel_rfl) rfl
  (fun f fn hf hfn=>by
   obtain rfl:f=4:=Option.some.inj ((show Tryz.prog.funcNamed Rows.sdpValuesRow.func=some 4 by kernel_rfl).symm.trans hf) |>.symm;obtain rfl:fn=Tryz.f4:=(Option.some.inj (Tryz.func4.symm.trans hfn)).symm;exact ⟨by kernel_rfl,fun j t ht=>by
    rw [Tryz.params4] at ht;obtain rfl:t=22:=by
     rcases j with _|j
     ·simpa using ht.symm
     simp at ht
    exact (show Tryz.prog.wantsStandIn 22=false by kernel_rfl)⟩)
  (by kernel_rfl)
end Go.Proofs.YtfajmfoofmienaaGreatDoor
