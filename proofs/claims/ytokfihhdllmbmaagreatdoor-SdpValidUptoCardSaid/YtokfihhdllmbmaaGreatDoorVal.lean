/-
  For every input whose bulk is at most 1048576 the statement SdpValid returns true and leaves its argument as it was. Conditions: the argument's bulk; the listed package-level variables hold what the program's text lays (tied).
-/
import Derived.Deep.DeepHandedRow
import Derived.Test.YtokfihhdllmbmaaGreatDoorValF
set_option linter.unusedVariables false
set_option linter.unusedSimpArgs false
namespace Go.Proofs.YtokfihhdllmbmaaGreatDoor
open Go Go.GL Go.ChangeShapes Go.WideShapes Go.RowKit
set_option maxRecDepth 100000
def arg0 : Value := .agg #[.slice none 0 0, .int .i64 0, .slice none 0 0, .slice none 0 0, .slice none 0 0]
theorem sdpValid_witness (os : Os) {H : Type} (enc : TypeId × Value → H) :
    (Rows.OpenSpec.upto Rows.sdpValidSpec).preRow enc Tryz.prog Tryz.f3 Rows.sdpValidUptoRow.domain false Rows.sdpValidUptoRow.laid ((laidWorld os).forCall (fun _ _ => 0) ⟨#[], #[arg0], []⟩).memory #[arg0] := by
  have hw : (DataW.whole enc Tryz.prog ((laidWorld os).forCall (fun _ _ => 0) ⟨#[], #[arg0], []⟩).memory (Tryz.f3).params.toList (Rows.OpenSpec.upto Rows.sdpValidSpec).vars false #[arg0].toList 8).map (fun x => (x.1, x.2.1)) =
      some ([.agg [.nil, .lit (.int .i64 0), .nil, .nil, .nil]], []) := by kernel_rfl
  obtain ⟨⟨x1, x2, x3⟩, hx, hx1⟩ := Option.map_eq_some_iff.1 hw
  simp only [Prod.mk.injEq] at hx1
  obtain ⟨rfl, rfl⟩ := hx1
  exact OpenSpec.preRow_of_cond 8 hx (by kernel_rfl) (fun k hk => by injection hk with hk; subst hk; kernel_rfl) (by kernel_rfl) (laidWorld_met os _)
theorem sdpValid_lifted (os : Os) (started : os.Started) (H : Type) (enc : TypeId × Value → H) (F0 : Stop.Interp) :
    ReturnsInHanded {} Tryz.checked os 3 .any ((Rows.OpenSpec.upto Rows.sdpValidSpec).preRow enc Tryz.prog Tryz.f3 Rows.sdpValidUptoRow.domain false Rows.sdpValidUptoRow.laid) (((Rows.OpenSpec.upto Rows.sdpValidSpec).at F0).post enc Tryz.prog Tryz.f3 false true false false) := by
  refine returnsInHanded_of_row (C := Tryz.checked) (s := Rows.OpenSpec.upto Rows.sdpValidSpec) own started (by kernel_rfl) Tryz.func3
    (witness_row_at (enc := enc) (C := Tryz.checked) false (laidWorld os) #[arg0] rfl (by kernel_rfl) (by kernel_rfl) (by kernel_rfl) (sdpValid_witness os enc)) ?_
  intro W base args ds gs before hval0 hW _ hk _ hL _ _
  have hval : ∀ (j : Nat) t v, (Tryz.f3).params[j]? = some t → args[j]? = some v → Value.okWide Tryz.prog W .any base t v := hval0
  have hW' := hW
  obtain ⟨p, q, hA0, hV0, rfl, hfz, hnd⟩ := hW
  have hA : DataW.TrodAll enc Tryz.prog W 0 (fun _ => true) true (Tryz.f3).params.toList args.toList ds p := hA0
  have hV : DataW.TrodVars enc Tryz.prog W (fun _ => true) [] gs q := hV0
  rw [Tryz.params3] at hA hval
  obtain ⟨v0, d0, rfl, rfl, h0⟩ := trodAll_one hA
  obtain ⟨rfl, rfl⟩ : gs = [] ∧ q = [] := by
    cases gs with
    | nil => exact ⟨rfl, hV⟩
    | cons g r => exact absurd hV (by intro h; cases h)
  have hbulk : Rows.uptoBulk d0 ≤ 1048576 := by
    have h1 := hk _ rfl
    have h2 := of_decide_eq_true h1
    simp only [List.append_nil, Rows.uptoBulkAll] at h2
    omega
  have e1 : ((Rows.OpenSpec.upto Rows.sdpValidSpec).at F0).fn H ([d0] ++ []) = { results := [.lit (.bool true)], args := [d0] } := rfl
  have hlt : ∀ x ∈ p, x.block < W.heap.size := fun x hx => hW'.lt x (by simpa using hx)
  have hagg : ∃ cs, v0 = .agg cs := by
    have h1 := hval 0 _ v0 rfl rfl
    unfold Value.okWide at h1
    split at h1
    · obtain ⟨cs, h2, _⟩ := h1; exact ⟨cs, h2⟩
    · obtain ⟨cs, h2, _⟩ := h1; exact ⟨cs, h2⟩
    · rename_i g1 g2
      have := p_sdp
      unfold parts at this
      split at this
      · rename_i fs hfs
        exact absurd hfs (g1 fs)
      · cases this
  refine (calls_true (W := W) 3 [v0] 10 fun n h20 hWn hbd => ?_).mono fun e W' ⟨he, hb⟩ => ?_
  · obtain ⟨vB, fr, vO, vF, vE, sd, e0, hsd, l1, l2, l3, l4, l5⟩ := sdp_read hWn hagg h0 (hbd _ (by simp))
    show VF _ _ [up nm v0] _ _ _
    rw [e0]
    exact sdpValidLaw_ok 0 (G_of_laid hL) h20 hsd ⟨by omega, by omega, by omega, by omega, fun q hq => by have := l5 q hq; omega⟩
  · subst he
    refine ⟨_, rfl, _, _, _, [], p, [], hW', ?_, ?_, ?_, hb.frame _, fun h => by cases h⟩
    · rw [e1]; exact trodAll_mk1 (shut_bool Tryz.underlying4 true)
    · rw [e1]
      have hr : Tryz.prog.readableRec 27 = true := by kernel_rfl
      have ht : 27 < Tryz.prog.types.size := of_decide_eq_true (by kernel_rfl)
      exact trodAll_mk1 (Below.trod laidOut hr ht h0 hb fun x hx => hlt x (by simpa using hx))
    · rw [e1]; rfl
theorem sdpValid_holds : Rows.SdpValidUptoSaid :=
  OpenClaim.holds_of_cond 3 Tryz.f3 rfl rfl rfl rfl rfl rfl rfl ⟨rfl, rfl, rfl, rfl, rfl⟩ rfl rfl rfl rfl rfl (by kernel_rfl) Tryz.func3 sdpValid_closed
    (of_decide_eq_true (by kernel_rfl)) (by unfold Func.isWrapper; rw [if_neg (of_decide_eq_false (by kernel_rfl))]; exact ⟨rfl, rfl⟩)
    (fun os started H enc _ F0 => by rw [OpenClaim.pre_eq_preRow]; exact sdpValid_lifted os started H enc F0)
theorem sdpValid_card : Rows.SdpValidUptoCardSaid :=
  Claim7.holds_tied_plain_at .later [] [.data, .data, .data] true (true, "aa904b34f12c7a63780e24b60e94bab6e06cb7ec7a9daa2f649003de20a22735") false
    sdpValid_holds (fun _ h => by cases h) (by kernel_rfl) (fun _ h => by cases h) sdpValidUpto_row_tie rfl ⟨rfl, rfl⟩ (by kernel_rfl) rfl
    (fun f fn hf hfn => by
      obtain rfl : f = 3 := Option.some.inj ((show Tryz.prog.funcNamed Rows.sdpValidUptoRow.func = some 3 by kernel_rfl).symm.trans hf) |>.symm
      obtain rfl : fn = Tryz.f3 := (Option.some.inj (Tryz.func3.symm.trans hfn)).symm
      exact ⟨by kernel_rfl, fun j t ht => by
        rw [Tryz.params3] at ht
        have h3 : t = 27 := by
          rcases j with _ | j
          · simpa using ht.symm
          · simp at ht
        subst h3
        exact (show Tryz.prog.wantsStandIn 27 = false by kernel_rfl)⟩)
    (by kernel_rfl)
end Go.Proofs.YtokfihhdllmbmaaGreatDoor
