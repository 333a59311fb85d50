/-
  For every input the statement SdpSpoilt returns true and leaves its arguments as they were. Conditions: the listed package-level variables hold what the program's text lays (tied).
-/
import Derived.Test.YtokfihhdllmbmaaGreatDoorSpoG
set_option linter.unusedVariables false
set_option linter.unusedSimpArgs false
namespace Go.Proofs.YtokfihhdllmbmaaGreatDoor
open Go Go.GL Go.ChangeShapes Go.WideShapes Go.RowKit
set_option maxRecDepth 100000
theorem sdpSpoilt_lifted (os : Os) (started : os.Started) (H : Type) (enc : TypeId × Value → H) :
    ReturnsInHanded {} Tryz.checked os 4 .any (fun w args => (Rows.sdpSpoiltSpec.pre enc Tryz.prog Tryz.f4 [] false w args ∧ laidMet Tryz.prog laid3 w) ∧ sizedMet enc Tryz.prog Tryz.f4 (OpenSpec.ofChange Rows.sdpSpoiltSpec) false w args)
      (Rows.sdpSpoiltSpec.post enc Tryz.prog Tryz.f4 false true false false) := by
  refine returnsInHanded_of_change_and (C := Tryz.checked) (X := fun w _ => laidMet Tryz.prog laid3 w) (fun _ _ _ hh h => h.of_heap hh) own started (by kernel_rfl) Tryz.func4
    (ChangeSpec.witness_at (enc := enc) (C := Tryz.checked) (os := os) (X := fun w _ => laidMet Tryz.prog laid3 w) false (laidWorld os) #[.slice none 0 0, .int .i64 0, .int .i64 0, .int .i64 0] 8 rfl (by kernel_rfl) (by kernel_rfl) (by kernel_rfl) (by kernel_rfl) (by kernel_rfl) (laidWorld_met os _)) ?_
  intro W base args ds gs before hval0 hW _ _ hL _
  have hval : ∀ (j : Nat) t v, (Tryz.f4).params[j]? = some t → args[j]? = some v → Value.okWide Tryz.prog W .any base t v := hval0
  have hW' := hW
  obtain ⟨p, q, hA0, hV0, rfl, hfz, hnd⟩ := hW
  have hA : DataW.TrodAll enc Tryz.prog W 0 (fun _ => true) true (Tryz.f4).params.toList args.toList ds p := hA0
  have hV : DataW.TrodVars enc Tryz.prog W (fun _ => true) [] gs q := hV0
  rw [Tryz.params4] at hA hval
  obtain ⟨v0, v1, v2, v3, d0, d1, d2, d3, p0, p1, p2, p3, rfl, rfl, rfl, h0, h1, h2, h3⟩ := trodAll_four hA
  obtain ⟨rfl, rfl⟩ : gs = [] ∧ q = [] := by
    cases gs with
    | nil => exact ⟨rfl, hV⟩
    | cons g r => exact absurd hV (by intro h; cases h)
  have e1 : Rows.sdpSpoiltSpec.fn H ([d0, d1, d2, d3] ++ []) = { results := [.lit (.bool true)], args := [d0, d1, d2, d3] } := by simp [Rows.sdpSpoiltSpec]
  have hlt : ∀ x ∈ p0 ++ p1 ++ p2 ++ p3, x.block < W.heap.size := fun x hx => hW'.lt x (by simpa using hx)
  obtain ⟨x1, rfl, _⟩ := open_int (k := .i64) Tryz.underlying3 (hval 1 _ v1 rfl rfl) h1
  obtain ⟨x2, rfl, _⟩ := open_int (k := .i64) Tryz.underlying3 (hval 2 _ v2 rfl rfl) h2
  obtain ⟨x3, rfl, _⟩ := open_int (k := .i64) Tryz.underlying3 (hval 3 _ v3 rfl rfl) h3
  refine (calls_true (W := W) 4 [v0, .int .i64 x1, .int .i64 x2, .int .i64 x3] 10 fun n h20 hs _ => ?_).mono fun e W' ⟨he, hb⟩ => ?_
  · obtain ⟨a0, l0, c0, L0, rfl, e0, s0⟩ := ints_arg Tryz.underlying22 (by kernel_rfl) (by kernel_rfl) (hval 0 _ v0 rfl rfl) h0 hs
    rw [e0] at s0
    show VF _ _ [up nm _, _, _, _] _ _ _
    rw [e0]
    exact spoilt_ok 0 (G_of_laid hL) h20 s0 x1 x2 x3
  · subst he
    refine ⟨_, rfl, _, _, _, [], p0 ++ p1 ++ p2 ++ p3, [], hW', ?_, ?_, ?_, hb.frame _, fun h => by cases h⟩
    · rw [e1]; exact trodAll_mk1 (shut_bool Tryz.underlying4 true)
    · rw [e1]
      have hr : Tryz.prog.readableRec 22 = true := by kernel_rfl
      have ht : 22 < Tryz.prog.types.size := of_decide_eq_true (by kernel_rfl)
      have hr' : Tryz.prog.readableRec 3 = true := by kernel_rfl
      have ht' : 3 < Tryz.prog.types.size := of_decide_eq_true (by kernel_rfl)
      have := trodAll_mk4 (Below.trod laidOut hr ht h0 hb fun x hx => hlt x (by simp [hx])) (Below.trod laidOut hr' ht' h1 hb fun x hx => hlt x (by simp [hx])) (Below.trod laidOut hr' ht' h2 hb fun x hx => hlt x (by simp [hx])) (Below.trod laidOut hr' ht' h3 hb fun x hx => hlt x (by simp [hx]))
      rw [show p0 ++ p1 ++ p2 ++ p3 = p0 ++ (p1 ++ (p2 ++ p3)) from by simp only [List.append_assoc]]
      exact this
    · rw [e1]; rfl
theorem sdpSpoilt_holds : Rows.SdpSpoiltSaid :=
  OpenClaim.holds_of_wide 4 Tryz.f4 rfl rfl rfl rfl rfl rfl rfl ⟨rfl, rfl, rfl, rfl, rfl⟩ rfl rfl rfl rfl rfl (by kernel_rfl) Tryz.func4 sdpSpoilt_closed
    (of_decide_eq_true (by kernel_rfl)) (by unfold Func.isWrapper; rw [if_neg (of_decide_eq_false (by kernel_rfl))]; exact ⟨rfl, rfl⟩)
    (fun os started H enc _ => sdpSpoilt_lifted os started H enc)
theorem sdpSpoilt_card : Rows.SdpSpoiltCardSaid :=
  Claim7.holds_tied_plain_at .later [] [.data, .data, .data] true (true, "aa904b34f12c7a63780e24b60e94bab6e06cb7ec7a9daa2f649003de20a22735") false
    sdpSpoilt_holds (fun _ h => by cases h) (by kernel_rfl) (fun _ h => by cases h) sdpSpoilt_row_tie rfl ⟨rfl, rfl⟩ (by kernel_rfl) rfl
    (fun f fn hf hfn => by
      obtain rfl : f = 4 := Option.some.inj ((show Tryz.prog.funcNamed Rows.sdpSpoiltRow.func = some 4 by kernel_rfl).symm.trans hf) |>.symm
      obtain rfl : fn = Tryz.f4 := (Option.some.inj (Tryz.func4.symm.trans hfn)).symm
      exact ⟨by kernel_rfl, fun j t ht => by
        rw [Tryz.params4] at ht
        have h3 : t = 22 ∨ t = 3 := by
          rcases j with _ | _ | _ | _ | j
          · left; simpa using ht.symm
          · right; simpa using ht.symm
          · right; simpa using ht.symm
          · right; simpa using ht.symm
          · simp at ht
        rcases h3 with rfl | rfl
        · exact (show Tryz.prog.wantsStandIn 22 = false by kernel_rfl)
        · exact (show Tryz.prog.wantsStandIn 3 = false by kernel_rfl)⟩)
    (by kernel_rfl)
end Go.Proofs.YtokfihhdllmbmaaGreatDoor
