/-
  For every input the statement SdpSelects returns true and leaves its arguments as they were. Conditions: the listed package-level variables hold what the program's text lays (tied).
-/
import Derived.Test.YtokfihhdllmbmaaGreatDoorSelF
set_option linter.unusedVariables false
set_option linter.unusedSimpArgs false
namespace Go.Proofs.YtokfihhdllmbmaaGreatDoor
open Go Go.GL Go.ChangeShapes Go.WideShapes Go.RowKit
set_option maxRecDepth 100000
theorem sdpSelects_lifted (os : Os) (started : os.Started) (H : Type) (enc : TypeId × Value → H) :
    ReturnsInHanded {} Tryz.checked os 6 .any (fun w args => (Rows.sdpSelectsSpec.pre enc Tryz.prog Tryz.f6 [] false w args ∧ laidMet Tryz.prog laid3 w) ∧ sizedMet enc Tryz.prog Tryz.f6 (OpenSpec.ofChange Rows.sdpSelectsSpec) false w args)
      (Rows.sdpSelectsSpec.post enc Tryz.prog Tryz.f6 false true false false) := by
  refine returnsInHanded_of_change_and (C := Tryz.checked) (X := fun w _ => laidMet Tryz.prog laid3 w) (fun _ _ _ hh h => h.of_heap hh) own started (by kernel_rfl) Tryz.func6
    (ChangeSpec.witness_at (enc := enc) (C := Tryz.checked) (os := os) (X := fun w _ => laidMet Tryz.prog laid3 w) false (laidWorld os) #[.slice none 0 0, .slice none 0 0] 8 rfl (by kernel_rfl) (by kernel_rfl) (by kernel_rfl) (by kernel_rfl) (by kernel_rfl) (laidWorld_met os _)) ?_
  intro W base args ds gs before hval0 hW _ _ hL _
  have hval : ∀ (j : Nat) t v, (Tryz.f6).params[j]? = some t → args[j]? = some v → Value.okWide Tryz.prog W .any base t v := hval0
  have hW' := hW
  obtain ⟨p, q, hA0, hV0, rfl, hfz, hnd⟩ := hW
  have hA : DataW.TrodAll enc Tryz.prog W 0 (fun _ => true) true (Tryz.f6).params.toList args.toList ds p := hA0
  have hV : DataW.TrodVars enc Tryz.prog W (fun _ => true) [] gs q := hV0
  rw [Tryz.params6] at hA hval
  obtain ⟨v0, v1, d0, d1, p0, p1, rfl, rfl, rfl, h0, h1⟩ := trodAll_two hA
  obtain ⟨rfl, rfl⟩ : gs = [] ∧ q = [] := by
    cases gs with
    | nil => exact ⟨rfl, hV⟩
    | cons g r => exact absurd hV (by intro h; cases h)
  have e1 : Rows.sdpSelectsSpec.fn H ([d0, d1] ++ []) = { results := [.lit (.bool true)], args := [d0, d1] } := by simp [Rows.sdpSelectsSpec]
  have hlt : ∀ x ∈ p0 ++ p1, x.block < W.heap.size := fun x hx => hW'.lt x (by simpa using hx)
  refine (calls_true (W := W) 6 [v0, v1] 7 fun n h20 hs _ => ?_).mono fun e W' ⟨he, hb⟩ => ?_
  · obtain ⟨a0, l0, c0, L0, rfl, e0, s0⟩ := ints_arg Tryz.underlying22 (by kernel_rfl) (by kernel_rfl) (hval 0 _ v0 rfl rfl) h0 hs
    obtain ⟨a1, l1, c1, L1, rfl, e1', s1⟩ := ints_arg Tryz.underlying22 (by kernel_rfl) (by kernel_rfl) (hval 1 _ v1 rfl rfl) h1 hs
    rw [e0] at s0
    rw [e1'] at s1
    show VF _ _ [up nm _, up nm _] _ _ _
    rw [e0, e1']
    exact selects_ok 0 (G_of_laid hL) h20 s0 s1
  · subst he
    refine ⟨_, rfl, _, _, _, [], p0 ++ p1, [], hW', ?_, ?_, ?_, hb.frame _, fun h => by cases h⟩
    · rw [e1]; exact trodAll_mk1 (shut_bool Tryz.underlying4 true)
    · rw [e1]
      have hr : Tryz.prog.readableRec 22 = true := by kernel_rfl
      have ht : 22 < Tryz.prog.types.size := of_decide_eq_true (by kernel_rfl)
      have := trodAll_mk2 (Below.trod laidOut hr ht h0 hb fun x hx => hlt x (by simp [hx])) (Below.trod laidOut hr ht h1 hb fun x hx => hlt x (by simp [hx]))
      exact this
    · rw [e1]; rfl
theorem sdpSelects_holds : Rows.SdpSelectsSaid :=
  OpenClaim.holds_of_wide 6 Tryz.f6 rfl rfl rfl rfl rfl rfl rfl ⟨rfl, rfl, rfl, rfl, rfl⟩ rfl rfl rfl rfl rfl (by kernel_rfl) Tryz.func6 sdpSelects_closed
    (of_decide_eq_true (by kernel_rfl)) (by unfold Func.isWrapper; rw [if_neg (of_decide_eq_false (by kernel_rfl))]; exact ⟨rfl, rfl⟩)
    (fun os started H enc _ => sdpSelects_lifted os started H enc)
theorem sdpSelects_card : Rows.SdpSelectsCardSaid :=
  Claim7.holds_tied_plain_at .later [] [.data, .data, .data] true (true, "aa904b34f12c7a63780e24b60e94bab6e06cb7ec7a9daa2f649003de20a22735") false
    sdpSelects_holds (fun _ h => by cases h) (by kernel_rfl) (fun _ h => by cases h) sdpSelects_row_tie rfl ⟨rfl, rfl⟩ (by kernel_rfl) rfl
    (fun f fn hf hfn => by
      obtain rfl : f = 6 := Option.some.inj ((show Tryz.prog.funcNamed Rows.sdpSelectsRow.func = some 6 by kernel_rfl).symm.trans hf) |>.symm
      obtain rfl : fn = Tryz.f6 := (Option.some.inj (Tryz.func6.symm.trans hfn)).symm
      exact ⟨by kernel_rfl, fun j t ht => by
        rw [Tryz.params6] at ht
        have h3 : t = 22 := by
          rcases j with _ | _ | j
          · simpa using ht.symm
          · simpa using ht.symm
          · simp at ht
        subst h3
        exact (show Tryz.prog.wantsStandIn 22 = false by kernel_rfl)⟩)
    (by kernel_rfl)
end Go.Proofs.YtokfihhdllmbmaaGreatDoor
