/-
 For every input the statement FaceCoordinates returns true and leaves its arguments as they were. Conditions: the listed package-level variables hold what the program's text lays (tied).
-/
import Derived.Test.YtlecmppbeonckaaGreatDoorFcoD
set_option maxHeartbeats 8000000
set_option linter.unusedVariables false
set_option linter.unusedSimpArgs false
namespace Go.Proofs.YtlecmppbeonckaaGreatDoor
open Go Go.GL Go.ChangeShapes Go.WideShapes Go.RowKit
set_option maxRecDepth 100000
theorem y7 (os:Os)(started:os.Started)(H:Type)(enc:TypeId×Value→H):
  ReturnsInHanded {} Tryz.checked os 3 .any (fun w args=>(Rows.faceCoordinatesSpec.pre enc Tryz.prog Tryz.f3 [] false w args∧laidMet Tryz.prog rZ w)∧sizedMet enc Tryz.prog Tryz.f3 (OpenSpec.ofChange Rows.faceCoordinatesSpec) false w args)
   (Rows.faceCoordinatesSpec.post enc Tryz.prog Tryz.f3 false true false false):=by
 refine returnsInHanded_of_change_and (C:=Tryz.checked) (X:=fun w _=>laidMet Tryz.prog rZ w) (fun _ _ _ hh h=>h.of_heap hh) own started (by kernel_rfl) Tryz.func3
  (ChangeSpec.witness_at (enc:=enc) (C:=Tryz.checked) (os:=os) (X:=fun w _=>laidMet Tryz.prog rZ w) false (tj os) #[.slice none 0 0,.slice none 0 0] 8 rfl (by kernel_rfl) (by kernel_rfl) (by kernel_rfl) (by kernel_rfl) (by kernel_rfl) (uD os _)) ?_
 intro W base args ds gs before hval0 hW _ _ hL _
 have hval:∀(j:Nat) t v,(Tryz.f3).params[j]?=some t→args[j]?=some v→Value.okWide Tryz.prog W .any base t v:=hval0
 have hW':=hW
 obtain ⟨p,q,hA0,hV0,rfl,hfz,hnd⟩:=hW
 have hA:DataW.TrodAll enc Tryz.prog W 0 (fun _=>true) true (Tryz.f3).params.toList args.toList ds p:=hA0
 have hV:DataW.TrodVars enc Tryz.prog W (fun _=>true) [] gs q:=hV0
 rw [Tryz.params3] at hA hval
 obtain ⟨v0,v1,d0,d1,p0,p1,rfl,rfl,rfl,h0,h1⟩:=trodAll_two hA
 obtain ⟨rfl,rfl⟩:gs=[]∧q=[]:=by
  cases gs with
  |nil=>exact ⟨rfl,hV⟩
  |cons g r=>exact absurd hV (by intro h;cases h)
 have e1:Rows.faceCoordinatesSpec.fn H ([d0,d1]++[])={results:=[.lit (.bool true)],args:=[d0,d1]}:=by simp [Rows.faceCoordinatesSpec]
 have hlt:∀x∈p0++p1,x.block<W.heap.size:=fun x hx=>hW'.lt x (by simpa using hx)
 refine (qg (W:=W) 3 [v0,v1] 8 fun n h20 hWn hbd=>?_).mono fun e W' ⟨he,hb⟩=>?_
 ·obtain ⟨a0,l0,c0,L0,hsp,rfl,e0,s0⟩:=o5 Tryz.underlying22 (by kernel_rfl) (by kernel_rfl) (hval 0 _ v0 rfl rfl) h0 hWn.sz
  have hv1:=pN Tryz.underlying23 (hval 1 _ v1 rfl rfl)
  have h1':=h1
  obtain ⟨f1,h1⟩:=h1
  rw [hv1] at h1
  obtain ⟨aK,lK,cK,K,e1',s1⟩:=rX hWn Tryz.underlying23 Tryz.underlying22 (by kernel_rfl) (by kernel_rfl) (by kernel_rfl) h1 (hbd _ (by simp))
  rw [e0] at s0
  show VF _ _ [up nm _,up nm v1] _ _ _
  rw [e0,e1']
  refine r9 0 (p7 hL) h20 (fun ad had=>?_) s0 s1
  cases a0 with
  |none=>cases had
  |some ad0=>injection had with had;rw [←had];exact hsp ad0 rfl
 subst he
 refine ⟨_,rfl,_,_,_,[],p0++p1,[],hW',?_,?_,?_,hb.frame _,fun h=>by cases h⟩
 ·rw [e1];exact trodAll_mk1 (shut_bool Tryz.underlying4 true)
 ·rw [e1]
  have hr0:Tryz.prog.readableRec 22=true:=by kernel_rfl
  have ht0:22<Tryz.prog.types.size:=of_decide_eq_true (by kernel_rfl)
  have hr1:Tryz.prog.readableRec 23=true:=by kernel_rfl
  have ht1:23<Tryz.prog.types.size:=of_decide_eq_true (by kernel_rfl)
  exact trodAll_mk2 (Below.trod pc hr0 ht0 h0 hb fun x hx=>hlt x (by simp [hx])) (Below.trod pc hr1 ht1 h1 hb fun x hx=>hlt x (by simp [hx]))
 rw [e1];rfl
theorem xc:Rows.FaceCoordinatesSaid:=
 OpenClaim.holds_of_wide 3 Tryz.f3 rfl rfl rfl rfl rfl rfl rfl ⟨rfl,rfl,rfl,rfl,rfl⟩ rfl rfl rfl rfl rfl (by kernel_rfl) Tryz.func3 y8
  (of_decide_eq_true (by kernel_rfl)) (by unfold Func.isWrapper;rw [if_neg (of_decide_eq_false (by kernel_rfl))];exact ⟨rfl,rfl⟩)
  (fun os started H enc _=>y7 os started H enc)
theorem faceCoordinates_card:Rows.FaceCoordinatesCardSaid:=
 Claim7.holds_tied_plain_at .later [] [.data,.data,.data] true (true, "35f337968a27ad70b23435403b4c5477a536a00aa88522afb9437e400bdaafd4") false
  xc (fun _ h=>by cases h) (by kernel_rfl) (fun _ h=>by cases h) faceCoordinates_row_tie rfl ⟨rfl,rfl⟩ (by kernel_rfl) rfl
  (fun f fn hf hfn=>by
   obtain rfl:f=3:=Option.some.inj ((show Tryz.prog.funcNamed Rows.faceCoordinatesRow.func=some 3 by kernel_rfl).symm.trans hf) |>.symm
   obtain rfl:fn=Tryz.f3:=(Option.some.inj (Tryz.func3.symm.trans hfn)).symm
   exact ⟨by kernel_rfl,fun j t ht=>by
    rw [Tryz.params3] at ht
    have h3:t=22∨t=23:=by
     rcases j with _|_|j
     ·left;simpa using ht.symm
     ·right;simpa using ht.symm
     simp at ht
    rcases h3 with rfl|rfl
    ·exact (show Tryz.prog.wantsStandIn 22=false by kernel_rfl)
    ·exact (show Tryz.prog.wantsStandIn 23=false by kernel_rfl)⟩)
  (by kernel_rfl)
end Go.Proofs.YtlecmppbeonckaaGreatDoor
