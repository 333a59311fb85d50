import Derived.Test.YtokfihhdllmbmaaGreatDoorSelC
set_option linter.unusedVariables false
set_option linter.unusedSimpArgs false
namespace Go.Proofs.YtokfihhdllmbmaaGreatDoor
open Go Go.GL
/-! Package sdp: Valid, at programs of the scene. -/
theorem ratT_int (x : Int) : ratT (x : Rat) = (if x < 0 then [45] else []) ++ decT x.natAbs := by
  unfold ratT
  rw [Rat.num_intCast, Rat.den_intCast, if_pos rfl, List.append_nil]
theorem decT_digit {d : Nat} (h : 0 < d ∧ d < 10) : decT d = [UInt8.ofNat (48 + d)] := by
  unfold decT decB
  rw [if_neg (by omega), decD_pos (by omega), Nat.div_eq_of_lt h.2, decD_zero, Nat.mod_eq_of_lt h.2]
  rfl
theorem small_is {s : List UInt8} {K : Int} (hK : K ≤ 4) (h : SmallS K s) : GK.isSmall s = true := by
  obtain ⟨x, h1, h2, rfl⟩ := h
  rw [ratT_int]
  have hx : x = -4 ∨ x = -3 ∨ x = -2 ∨ x = -1 ∨ x = 0 ∨ x = 1 ∨ x = 2 ∨ x = 3 ∨ x = 4 := by omega
  rcases hx with rfl | rfl | rfl | rfl | rfl | rfl | rfl | rfl | rfl <;> first
    | (rw [show decT (Int.natAbs 0) = [48] from rfl]; rfl)
    | (rw [show Int.natAbs (-4) = 4 from rfl, decT_digit (by omega)]; decide)
    | (rw [show Int.natAbs (-3) = 3 from rfl, decT_digit (by omega)]; decide)
    | (rw [show Int.natAbs (-2) = 2 from rfl, decT_digit (by omega)]; decide)
    | (rw [show Int.natAbs (-1) = 1 from rfl, decT_digit (by omega)]; decide)
    | (rw [show Int.natAbs 1 = 1 from rfl, decT_digit (by omega)]; decide)
    | (rw [show Int.natAbs 2 = 2 from rfl, decT_digit (by omega)]; decide)
    | (rw [show Int.natAbs 3 = 3 from rfl, decT_digit (by omega)]; decide)
    | (rw [show Int.natAbs 4 = 4 from rfl, decT_digit (by omega)]; decide)
theorem zero_text {x : Int} (h1 : -4 ≤ x ∧ x ≤ 4) (h0 : x ≠ 0) : ratT (x : Rat) ≠ [48] := by
  rw [ratT_int]
  have hx : x = -4 ∨ x = -3 ∨ x = -2 ∨ x = -1 ∨ x = 1 ∨ x = 2 ∨ x = 3 ∨ x = 4 := by omega
  rcases hx with rfl | rfl | rfl | rfl | rfl | rfl | rfl | rfl <;> first
    | (rw [show Int.natAbs (-4) = 4 from rfl, decT_digit (by omega)]; decide)
    | (rw [show Int.natAbs (-3) = 3 from rfl, decT_digit (by omega)]; decide)
    | (rw [show Int.natAbs (-2) = 2 from rfl, decT_digit (by omega)]; decide)
    | (rw [show Int.natAbs (-1) = 1 from rfl, decT_digit (by omega)]; decide)
    | (rw [show Int.natAbs 1 = 1 from rfl, decT_digit (by omega)]; decide)
    | (rw [show Int.natAbs 2 = 2 from rfl, decT_digit (by omega)]; decide)
    | (rw [show Int.natAbs 3 = 3 from rfl, decT_digit (by omega)]; decide)
    | (rw [show Int.natAbs 4 = 4 from rfl, decT_digit (by omega)]; decide)
theorem rvalid_small (k : Nat) {h : HF} (hG : GK.G h) (n : Nat) {s : List UInt8} (hs : GK.isSmall s = true) : VF (cal (k + 1)) 63 [.string ⟨⟨s⟩⟩] h n fun v => v = .bool true :=
  ⟨_, _, _, _, cal_small k hG n hs, rfl, rfl, rfl, rfl⟩
theorem G_ext {h h' : HF} {n : Nat} (hG : GK.G h) (e : Ext n h h') (hn : 20 ≤ n) : GK.G h' := by
  obtain ⟨g1, g2, g3⟩ := hG
  exact ⟨(e _ (by omega)).trans g1, (e _ (by omega)).trans g2, (e _ (by omega)).trans g3⟩
set_option maxHeartbeats 2000000
theorem ascending_ok (k : Nat) (h : HF) (n : Nat) (e f : Ent) : VF (cal (k + 1)) 127 [.agg (entC e).toArray, .agg (entC f).toArray] h n fun v => ∃ b : Bool, v = .bool b ∧ (b = true ↔ ltE e f) := by
  refine CF_flat (fn := Tryz.f127) rfl rfl rfl rfl ?_
  simp only [EC_seq, EC_region, EC_block, EC_scope, EC_skip, EC_exit, EC_ret, EC_label, EO_nil, ED_nil, after_normal, after_exit, after_ret, leave_normal, leave_exit, leave_ret, goesOn_exit, goesOn_ret, cut_exit, cut_ret, cutx_exit, cutx_ret, reduceIte, Nat.reduceEqDiff, reduceCtorEq, Nat.one_ne_zero, Nat.zero_ne_one]
  refine st_mkp (cs := entC e) rfl rfl rfl rfl rfl ?_
  refine st_mkp (cs := entC f) rfl rfl rfl rfl rfl ?_
  generalize hh : upd (upd h (3 * n + 2) _) (3 * (n + 1) + 2) _ = h1
  have he : ∃ ty, h1 (3 * n + 2) = some (.row (entC e) ty) := ⟨_, by rw [← hh, upd_ne (by omega), upd_same]⟩
  have hf : ∃ ty, h1 (3 * (n + 1) + 2) = some (.row (entC f) ty) := ⟨_, by rw [← hh, upd_same]⟩
  obtain ⟨t1, he⟩ := he
  obtain ⟨t2, hf⟩ := hf
  repeat (first | refine st_neqT rfl rfl rfl rfl rfl rfl (by omega) ?_ | refine st_neqF rfl rfl rfl rfl rfl rfl (by omega) ?_ | refine st_lt rfl rfl rfl rfl rfl rfl ?_ | refine st_B rfl rfl rfl rfl rfl ?_ | refine st_P rfl rfl rfl rfl rfl ?_)
  simp only [EC_seq, EC_region, EC_block, EC_scope, EC_skip, EC_exit, EC_ret, EC_label, EO_nil, ED_nil, after_normal, after_exit, after_ret, leave_normal, leave_exit, leave_ret, goesOn_exit, goesOn_ret, cut_exit, cut_ret, cutx_exit, cutx_ret, reduceIte, Nat.reduceEqDiff, reduceCtorEq, Nat.one_ne_zero, Nat.zero_ne_one]
  repeat (first | refine st_neqT rfl rfl rfl rfl rfl rfl (by omega) ?_ | refine st_neqF rfl rfl rfl rfl rfl rfl (by omega) ?_ | refine st_lt rfl rfl rfl rfl rfl rfl ?_ | refine st_B rfl rfl rfl rfl rfl ?_ | refine st_P rfl rfl rfl rfl rfl ?_)
  refine st_load1 rfl rfl rfl rfl rfl rfl he rfl (v := .int .i64 e.b) rfl ?_
  repeat (first | refine st_neqT rfl rfl rfl rfl rfl rfl (by omega) ?_ | refine st_neqF rfl rfl rfl rfl rfl rfl (by omega) ?_ | refine st_lt rfl rfl rfl rfl rfl rfl ?_ | refine st_B rfl rfl rfl rfl rfl ?_ | refine st_P rfl rfl rfl rfl rfl ?_)
  refine st_load1 rfl rfl rfl rfl rfl rfl hf rfl (v := .int .i64 f.b) rfl ?_
  by_cases hb : e.b = f.b
  · repeat (first | refine st_neqT rfl rfl rfl rfl rfl rfl (by omega) ?_ | refine st_neqF rfl rfl rfl rfl rfl rfl (by omega) ?_ | refine st_lt rfl rfl rfl rfl rfl rfl ?_ | refine st_B rfl rfl rfl rfl rfl ?_ | refine st_P rfl rfl rfl rfl rfl ?_)
    simp only [EC_seq, EC_region, EC_block, EC_scope, EC_skip, EC_exit, EC_ret, EC_label, EO_nil, ED_nil, after_normal, after_exit, after_ret, leave_normal, leave_exit, leave_ret, goesOn_exit, goesOn_ret, cut_exit, cut_ret, cutx_exit, cutx_ret, reduceIte, Nat.reduceEqDiff, reduceCtorEq, Nat.one_ne_zero, Nat.zero_ne_one]
    rw [EC_cond_false rfl]
    simp only [EC_seq, EC_region, EC_block, EC_scope, EC_skip, EC_exit, EC_ret, EC_label, EO_nil, ED_nil, after_normal, after_exit, after_ret, leave_normal, leave_exit, leave_ret, goesOn_exit, goesOn_ret, cut_exit, cut_ret, cutx_exit, cutx_ret, reduceIte, Nat.reduceEqDiff, reduceCtorEq, Nat.one_ne_zero, Nat.zero_ne_one]
    repeat (first | refine st_neqT rfl rfl rfl rfl rfl rfl (by omega) ?_ | refine st_neqF rfl rfl rfl rfl rfl rfl (by omega) ?_ | refine st_lt rfl rfl rfl rfl rfl rfl ?_ | refine st_B rfl rfl rfl rfl rfl ?_ | refine st_P rfl rfl rfl rfl rfl ?_)
    refine st_load1 rfl rfl rfl rfl rfl rfl he rfl (v := .int .i64 e.r) rfl ?_
    repeat (first | refine st_neqT rfl rfl rfl rfl rfl rfl (by omega) ?_ | refine st_neqF rfl rfl rfl rfl rfl rfl (by omega) ?_ | refine st_lt rfl rfl rfl rfl rfl rfl ?_ | refine st_B rfl rfl rfl rfl rfl ?_ | refine st_P rfl rfl rfl rfl rfl ?_)
    refine st_load1 rfl rfl rfl rfl rfl rfl hf rfl (v := .int .i64 f.r) rfl ?_
    by_cases hr : e.r = f.r
    · repeat (first | refine st_neqT rfl rfl rfl rfl rfl rfl (by omega) ?_ | refine st_neqF rfl rfl rfl rfl rfl rfl (by omega) ?_ | refine st_lt rfl rfl rfl rfl rfl rfl ?_ | refine st_B rfl rfl rfl rfl rfl ?_ | refine st_P rfl rfl rfl rfl rfl ?_)
      simp only [EC_seq, EC_region, EC_block, EC_scope, EC_skip, EC_exit, EC_ret, EC_label, EO_nil, ED_nil, after_normal, after_exit, after_ret, leave_normal, leave_exit, leave_ret, goesOn_exit, goesOn_ret, cut_exit, cut_ret, cutx_exit, cutx_ret, reduceIte, Nat.reduceEqDiff, reduceCtorEq, Nat.one_ne_zero, Nat.zero_ne_one]
      rw [EC_cond_false rfl]
      simp only [EC_seq, EC_region, EC_block, EC_scope, EC_skip, EC_exit, EC_ret, EC_label, EO_nil, ED_nil, after_normal, after_exit, after_ret, leave_normal, leave_exit, leave_ret, goesOn_exit, goesOn_ret, cut_exit, cut_ret, cutx_exit, cutx_ret, reduceIte, Nat.reduceEqDiff, reduceCtorEq, Nat.one_ne_zero, Nat.zero_ne_one]
      repeat (first | refine st_neqT rfl rfl rfl rfl rfl rfl (by omega) ?_ | refine st_neqF rfl rfl rfl rfl rfl rfl (by omega) ?_ | refine st_lt rfl rfl rfl rfl rfl rfl ?_ | refine st_B rfl rfl rfl rfl rfl ?_ | refine st_P rfl rfl rfl rfl rfl ?_)
      refine st_load1 rfl rfl rfl rfl rfl rfl he rfl (v := .int .i64 e.c) rfl ?_
      repeat (first | refine st_neqT rfl rfl rfl rfl rfl rfl (by omega) ?_ | refine st_neqF rfl rfl rfl rfl rfl rfl (by omega) ?_ | refine st_lt rfl rfl rfl rfl rfl rfl ?_ | refine st_B rfl rfl rfl rfl rfl ?_ | refine st_P rfl rfl rfl rfl rfl ?_)
      refine st_load1 rfl rfl rfl rfl rfl rfl hf rfl (v := .int .i64 f.c) rfl ?_
      refine st_lt rfl rfl rfl rfl rfl rfl ?_
      repeat (first | refine st_neqT rfl rfl rfl rfl rfl rfl (by omega) ?_ | refine st_neqF rfl rfl rfl rfl rfl rfl (by omega) ?_ | refine st_lt rfl rfl rfl rfl rfl rfl ?_ | refine st_B rfl rfl rfl rfl rfl ?_ | refine st_P rfl rfl rfl rfl rfl ?_)
      simp only [EC_seq, EC_region, EC_block, EC_scope, EC_skip, EC_exit, EC_ret, EC_label, EO_nil, ED_nil, after_normal, after_exit, after_ret, leave_normal, leave_exit, leave_ret, goesOn_exit, goesOn_ret, cut_exit, cut_ret, cutx_exit, cutx_ret, reduceIte, Nat.reduceEqDiff, reduceCtorEq, Nat.one_ne_zero, Nat.zero_ne_one]
      exact retF _ rfl (resF_tmp rfl) rfl rfl ⟨_, rfl, by rw [decide_eq_true_eq]; unfold ltE ltP; omega⟩
    · repeat (first | refine st_neqT rfl rfl rfl rfl rfl rfl (by omega) ?_ | refine st_neqF rfl rfl rfl rfl rfl rfl (by omega) ?_ | refine st_lt rfl rfl rfl rfl rfl rfl ?_ | refine st_B rfl rfl rfl rfl rfl ?_ | refine st_P rfl rfl rfl rfl rfl ?_)
      simp only [EC_seq, EC_region, EC_block, EC_scope, EC_skip, EC_exit, EC_ret, EC_label, EO_nil, ED_nil, after_normal, after_exit, after_ret, leave_normal, leave_exit, leave_ret, goesOn_exit, goesOn_ret, cut_exit, cut_ret, cutx_exit, cutx_ret, reduceIte, Nat.reduceEqDiff, reduceCtorEq, Nat.one_ne_zero, Nat.zero_ne_one]
      rw [EC_cond_true rfl]
      simp only [EC_seq, EC_region, EC_block, EC_scope, EC_skip, EC_exit, EC_ret, EC_label, EO_nil, ED_nil, after_normal, after_exit, after_ret, leave_normal, leave_exit, leave_ret, goesOn_exit, goesOn_ret, cut_exit, cut_ret, cutx_exit, cutx_ret, reduceIte, Nat.reduceEqDiff, reduceCtorEq, Nat.one_ne_zero, Nat.zero_ne_one]
      repeat (first | refine st_neqT rfl rfl rfl rfl rfl rfl (by omega) ?_ | refine st_neqF rfl rfl rfl rfl rfl rfl (by omega) ?_ | refine st_lt rfl rfl rfl rfl rfl rfl ?_ | refine st_B rfl rfl rfl rfl rfl ?_ | refine st_P rfl rfl rfl rfl rfl ?_)
      refine st_load1 rfl rfl rfl rfl rfl rfl he rfl (v := .int .i64 e.r) rfl ?_
      repeat (first | refine st_neqT rfl rfl rfl rfl rfl rfl (by omega) ?_ | refine st_neqF rfl rfl rfl rfl rfl rfl (by omega) ?_ | refine st_lt rfl rfl rfl rfl rfl rfl ?_ | refine st_B rfl rfl rfl rfl rfl ?_ | refine st_P rfl rfl rfl rfl rfl ?_)
      refine st_load1 rfl rfl rfl rfl rfl rfl hf rfl (v := .int .i64 f.r) rfl ?_
      refine st_lt rfl rfl rfl rfl rfl rfl ?_
      repeat (first | refine st_neqT rfl rfl rfl rfl rfl rfl (by omega) ?_ | refine st_neqF rfl rfl rfl rfl rfl rfl (by omega) ?_ | refine st_lt rfl rfl rfl rfl rfl rfl ?_ | refine st_B rfl rfl rfl rfl rfl ?_ | refine st_P rfl rfl rfl rfl rfl ?_)
      simp only [EC_seq, EC_region, EC_block, EC_scope, EC_skip, EC_exit, EC_ret, EC_label, EO_nil, ED_nil, after_normal, after_exit, after_ret, leave_normal, leave_exit, leave_ret, goesOn_exit, goesOn_ret, cut_exit, cut_ret, cutx_exit, cutx_ret, reduceIte, Nat.reduceEqDiff, reduceCtorEq, Nat.one_ne_zero, Nat.zero_ne_one]
      exact retF _ rfl (resF_tmp rfl) rfl rfl ⟨_, rfl, by rw [decide_eq_true_eq]; unfold ltE ltP; omega⟩
  · repeat (first | refine st_neqT rfl rfl rfl rfl rfl rfl (by omega) ?_ | refine st_neqF rfl rfl rfl rfl rfl rfl (by omega) ?_ | refine st_lt rfl rfl rfl rfl rfl rfl ?_ | refine st_B rfl rfl rfl rfl rfl ?_ | refine st_P rfl rfl rfl rfl rfl ?_)
    simp only [EC_seq, EC_region, EC_block, EC_scope, EC_skip, EC_exit, EC_ret, EC_label, EO_nil, ED_nil, after_normal, after_exit, after_ret, leave_normal, leave_exit, leave_ret, goesOn_exit, goesOn_ret, cut_exit, cut_ret, cutx_exit, cutx_ret, reduceIte, Nat.reduceEqDiff, reduceCtorEq, Nat.one_ne_zero, Nat.zero_ne_one]
    rw [EC_cond_true rfl]
    simp only [EC_seq, EC_region, EC_block, EC_scope, EC_skip, EC_exit, EC_ret, EC_label, EO_nil, ED_nil, after_normal, after_exit, after_ret, leave_normal, leave_exit, leave_ret, goesOn_exit, goesOn_ret, cut_exit, cut_ret, cutx_exit, cutx_ret, reduceIte, Nat.reduceEqDiff, reduceCtorEq, Nat.one_ne_zero, Nat.zero_ne_one]
    repeat (first | refine st_neqT rfl rfl rfl rfl rfl rfl (by omega) ?_ | refine st_neqF rfl rfl rfl rfl rfl rfl (by omega) ?_ | refine st_lt rfl rfl rfl rfl rfl rfl ?_ | refine st_B rfl rfl rfl rfl rfl ?_ | refine st_P rfl rfl rfl rfl rfl ?_)
    refine st_load1 rfl rfl rfl rfl rfl rfl he rfl (v := .int .i64 e.b) rfl ?_
    repeat (first | refine st_neqT rfl rfl rfl rfl rfl rfl (by omega) ?_ | refine st_neqF rfl rfl rfl rfl rfl rfl (by omega) ?_ | refine st_lt rfl rfl rfl rfl rfl rfl ?_ | refine st_B rfl rfl rfl rfl rfl ?_ | refine st_P rfl rfl rfl rfl rfl ?_)
    refine st_load1 rfl rfl rfl rfl rfl rfl hf rfl (v := .int .i64 f.b) rfl ?_
    refine st_lt rfl rfl rfl rfl rfl rfl ?_
    repeat (first | refine st_neqT rfl rfl rfl rfl rfl rfl (by omega) ?_ | refine st_neqF rfl rfl rfl rfl rfl rfl (by omega) ?_ | refine st_lt rfl rfl rfl rfl rfl rfl ?_ | refine st_B rfl rfl rfl rfl rfl ?_ | refine st_P rfl rfl rfl rfl rfl ?_)
    simp only [EC_seq, EC_region, EC_block, EC_scope, EC_skip, EC_exit, EC_ret, EC_label, EO_nil, ED_nil, after_normal, after_exit, after_ret, leave_normal, leave_exit, leave_ret, goesOn_exit, goesOn_ret, cut_exit, cut_ret, cutx_exit, cutx_ret, reduceIte, Nat.reduceEqDiff, reduceCtorEq, Nat.one_ne_zero, Nat.zero_ne_one]
    exact retF _ rfl (resF_tmp rfl) rfl rfl ⟨_, rfl, by rw [decide_eq_true_eq]; unfold ltE ltP; omega⟩
/-- Every string is the text of a small integer. -/
theorem numbers_ok (k : Nat) {h : HF} (hG : GK.G h) {n : Nat} {a : Option Addr} {len cap : Nat} {S : List (List UInt8)} (hn : 20 ≤ n) (hs : Sl h n 1 (.slice a len cap) (strs S)) (hS : ∀ s ∈ S, GK.isSmall s = true) (hb : S.length < 1000000) : VF (cal (k + 2)) 62 [.slice a len cap] h n fun v => v = .bool true := by
  refine CF_flat (fn := Tryz.f62) rfl rfl rfl rfl ?_
  have hl : len = S.length := by
    obtain ⟨a', len', cap', e, hl⟩ := hs.len
    injection e with e1 e2 e3
    rw [strs_len] at hl
    omega
  subst hl
  simp only [EC_seq, EC_region, EC_block, EC_scope, EC_skip, EC_exit, EC_ret, EC_label, EO_nil, ED_nil, after_normal, after_exit, after_ret, leave_normal, leave_exit, leave_ret, goesOn_exit, goesOn_ret, cut_exit, cut_ret, cutx_exit, cutx_ret, reduceIte, Nat.reduceEqDiff, reduceCtorEq, Nat.one_ne_zero, Nat.zero_ne_one]
  repeat (first | refine st_ltT rfl rfl rfl rfl rfl rfl (by omega) ?_ | refine st_ltF rfl rfl rfl rfl rfl rfl (by omega) ?_ | refine st_add rfl rfl rfl rfl rfl rfl (by omega) ?_ | refine st_I rfl rfl rfl rfl rfl ?_ | refine st_B rfl rfl rfl rfl rfl ?_ | refine st_S rfl rfl rfl rfl rfl ?_ | refine st_T rfl rfl rfl rfl rfl ?_)
  simp only [EC_seq, EC_region, EC_block, EC_scope, EC_skip, EC_exit, EC_ret, EC_label, EO_nil, ED_nil, after_normal, after_exit, after_ret, leave_normal, leave_exit, leave_ret, goesOn_exit, goesOn_ret, cut_exit, cut_ret, cutx_exit, cutx_ret, reduceIte, Nat.reduceEqDiff, reduceCtorEq, Nat.one_ne_zero, Nat.zero_ne_one]
  repeat (first | refine st_ltT rfl rfl rfl rfl rfl rfl (by omega) ?_ | refine st_ltF rfl rfl rfl rfl rfl rfl (by omega) ?_ | refine st_add rfl rfl rfl rfl rfl rfl (by omega) ?_ | refine st_I rfl rfl rfl rfl rfl ?_ | refine st_B rfl rfl rfl rfl rfl ?_ | refine st_S rfl rfl rfl rfl rfl ?_ | refine st_T rfl rfl rfl rfl rfl ?_)
  simp only [EC_seq, EC_region, EC_block, EC_scope, EC_skip, EC_exit, EC_ret, EC_label, EO_nil, ED_nil, after_normal, after_exit, after_ret, leave_normal, leave_exit, leave_ret, goesOn_exit, goesOn_ret, cut_exit, cut_ret, cutx_exit, cutx_ret, reduceIte, Nat.reduceEqDiff, reduceCtorEq, Nat.one_ne_zero, Nat.zero_ne_one]
  refine EC_for (α := Nat) (fun j => [(5, .slice a S.length cap), (6, .int .i64 (S.length : Int)), (7, .int .i64 (j : Int))]) (fun j h' n' w => h = h' ∧ n = n' ∧ w = [] ∧ j ≤ S.length) (fun j => S.length - j) 0 ⟨rfl, rfl, rfl, trivial⟩ ⟨rfl, rfl, rfl, Nat.zero_le _⟩ (by show S.length - 0 < LL; unfold LL; omega) ?_
  rintro j t _ _ _ ⟨rfl, rfl, rfl, hj⟩
  simp only [EC_seq, EC_region, EC_block, EC_scope, EC_skip, EC_exit, EC_ret, EC_label, EO_nil, ED_nil, after_normal, after_exit, after_ret, leave_normal, leave_exit, leave_ret, goesOn_exit, goesOn_ret, cut_exit, cut_ret, cutx_exit, cutx_ret, reduceIte, Nat.reduceEqDiff, reduceCtorEq, Nat.one_ne_zero, Nat.zero_ne_one]
  by_cases hjS : j = S.length
  · repeat (first | refine st_ltT rfl rfl rfl rfl rfl rfl (by omega) ?_ | refine st_ltF rfl rfl rfl rfl rfl rfl (by omega) ?_ | refine st_add rfl rfl rfl rfl rfl rfl (by omega) ?_ | refine st_I rfl rfl rfl rfl rfl ?_ | refine st_B rfl rfl rfl rfl rfl ?_ | refine st_S rfl rfl rfl rfl rfl ?_ | refine st_T rfl rfl rfl rfl rfl ?_)
    simp only [EC_seq, EC_region, EC_block, EC_scope, EC_skip, EC_exit, EC_ret, EC_label, EO_nil, ED_nil, after_normal, after_exit, after_ret, leave_normal, leave_exit, leave_ret, goesOn_exit, goesOn_ret, cut_exit, cut_ret, cutx_exit, cutx_ret, reduceIte, Nat.reduceEqDiff, reduceCtorEq, Nat.one_ne_zero, Nat.zero_ne_one]
    rw [EC_cond_false rfl]
    simp only [EC_seq, EC_region, EC_block, EC_scope, EC_skip, EC_exit, EC_ret, EC_label, EO_nil, ED_nil, after_normal, after_exit, after_ret, leave_normal, leave_exit, leave_ret, goesOn_exit, goesOn_ret, cut_exit, cut_ret, cutx_exit, cutx_ret, reduceIte, Nat.reduceEqDiff, reduceCtorEq, Nat.one_ne_zero, Nat.zero_ne_one]
    repeat (first | refine st_ltT rfl rfl rfl rfl rfl rfl (by omega) ?_ | refine st_ltF rfl rfl rfl rfl rfl rfl (by omega) ?_ | refine st_add rfl rfl rfl rfl rfl rfl (by omega) ?_ | refine st_I rfl rfl rfl rfl rfl ?_ | refine st_B rfl rfl rfl rfl rfl ?_ | refine st_S rfl rfl rfl rfl rfl ?_ | refine st_T rfl rfl rfl rfl rfl ?_)
    simp only [EC_seq, EC_region, EC_block, EC_scope, EC_skip, EC_exit, EC_ret, EC_label, EO_nil, ED_nil, after_normal, after_exit, after_ret, leave_normal, leave_exit, leave_ret, goesOn_exit, goesOn_ret, cut_exit, cut_ret, cutx_exit, cutx_ret, reduceIte, Nat.reduceEqDiff, reduceCtorEq, Nat.one_ne_zero, Nat.zero_ne_one]
    exact retF _ rfl (resF_tmp rfl) rfl rfl rfl
  · obtain ⟨s, hs'⟩ : ∃ s, S[j]? = some s := ⟨S[j]'(by omega), List.getElem?_eq_getElem (by omega)⟩
    obtain ⟨b, off, x, cs, rfl, hb3, hx, hc, hcap, hle, he⟩ := hs.inv (by omega)
    have hcell : cs[off + j]? = some (.string ⟨⟨s⟩⟩) := cell_at he (by rw [strs, List.getElem?_map, hs']; rfl)
    repeat (first | refine st_ltT rfl rfl rfl rfl rfl rfl (by omega) ?_ | refine st_ltF rfl rfl rfl rfl rfl rfl (by omega) ?_ | refine st_add rfl rfl rfl rfl rfl rfl (by omega) ?_ | refine st_I rfl rfl rfl rfl rfl ?_ | refine st_B rfl rfl rfl rfl rfl ?_ | refine st_S rfl rfl rfl rfl rfl ?_ | refine st_T rfl rfl rfl rfl rfl ?_)
    simp only [EC_seq, EC_region, EC_block, EC_scope, EC_skip, EC_exit, EC_ret, EC_label, EO_nil, ED_nil, after_normal, after_exit, after_ret, leave_normal, leave_exit, leave_ret, goesOn_exit, goesOn_ret, cut_exit, cut_ret, cutx_exit, cutx_ret, reduceIte, Nat.reduceEqDiff, reduceCtorEq, Nat.one_ne_zero, Nat.zero_ne_one]
    rw [EC_cond_true rfl]
    simp only [EC_seq, EC_region, EC_block, EC_scope, EC_skip, EC_exit, EC_ret, EC_label, EO_nil, ED_nil, after_normal, after_exit, after_ret, leave_normal, leave_exit, leave_ret, goesOn_exit, goesOn_ret, cut_exit, cut_ret, cutx_exit, cutx_ret, reduceIte, Nat.reduceEqDiff, reduceCtorEq, Nat.one_ne_zero, Nat.zero_ne_one]
    refine st_idx rfl rfl rfl rfl rfl rfl rfl rfl (by omega) ?_
    refine st_load1 rfl rfl rfl rfl rfl rfl hx hc (v := .string ⟨⟨s⟩⟩) (by rw [← hcell]; congr 1; omega) ?_
    repeat (first | refine st_ltT rfl rfl rfl rfl rfl rfl (by omega) ?_ | refine st_ltF rfl rfl rfl rfl rfl rfl (by omega) ?_ | refine st_add rfl rfl rfl rfl rfl rfl (by omega) ?_ | refine st_I rfl rfl rfl rfl rfl ?_ | refine st_B rfl rfl rfl rfl rfl ?_ | refine st_S rfl rfl rfl rfl rfl ?_ | refine st_T rfl rfl rfl rfl rfl ?_)
    simp only [EC_seq, EC_region, EC_block, EC_scope, EC_skip, EC_exit, EC_ret, EC_label, EO_nil, ED_nil, after_normal, after_exit, after_ret, leave_normal, leave_exit, leave_ret, goesOn_exit, goesOn_ret, cut_exit, cut_ret, cutx_exit, cutx_ret, reduceIte, Nat.reduceEqDiff, reduceCtorEq, Nat.one_ne_zero, Nat.zero_ne_one]
    repeat (first | refine st_ltT rfl rfl rfl rfl rfl rfl (by omega) ?_ | refine st_ltF rfl rfl rfl rfl rfl rfl (by omega) ?_ | refine st_add rfl rfl rfl rfl rfl rfl (by omega) ?_ | refine st_I rfl rfl rfl rfl rfl ?_ | refine st_B rfl rfl rfl rfl rfl ?_ | refine st_S rfl rfl rfl rfl rfl ?_ | refine st_T rfl rfl rfl rfl rfl ?_)
    refine st_vf _ rfl rfl rfl rfl rfl (rvalid_small k hG _ (hS s (List.mem_of_getElem? hs'))) ?_
    rintro _ rfl
    repeat (first | refine st_ltT rfl rfl rfl rfl rfl rfl (by omega) ?_ | refine st_ltF rfl rfl rfl rfl rfl rfl (by omega) ?_ | refine st_add rfl rfl rfl rfl rfl rfl (by omega) ?_ | refine st_I rfl rfl rfl rfl rfl ?_ | refine st_B rfl rfl rfl rfl rfl ?_ | refine st_S rfl rfl rfl rfl rfl ?_ | refine st_T rfl rfl rfl rfl rfl ?_)
    simp only [EC_seq, EC_region, EC_block, EC_scope, EC_skip, EC_exit, EC_ret, EC_label, EO_nil, ED_nil, after_normal, after_exit, after_ret, leave_normal, leave_exit, leave_ret, goesOn_exit, goesOn_ret, cut_exit, cut_ret, cutx_exit, cutx_ret, reduceIte, Nat.reduceEqDiff, reduceCtorEq, Nat.one_ne_zero, Nat.zero_ne_one]
    rw [EC_cond_false rfl]
    simp only [EC_seq, EC_region, EC_block, EC_scope, EC_skip, EC_exit, EC_ret, EC_label, EO_nil, ED_nil, after_normal, after_exit, after_ret, leave_normal, leave_exit, leave_ret, goesOn_exit, goesOn_ret, cut_exit, cut_ret, cutx_exit, cutx_ret, reduceIte, Nat.reduceEqDiff, reduceCtorEq, Nat.one_ne_zero, Nat.zero_ne_one]
    repeat (first | refine st_ltT rfl rfl rfl rfl rfl rfl (by omega) ?_ | refine st_ltF rfl rfl rfl rfl rfl rfl (by omega) ?_ | refine st_add rfl rfl rfl rfl rfl rfl (by omega) ?_ | refine st_I rfl rfl rfl rfl rfl ?_ | refine st_B rfl rfl rfl rfl rfl ?_ | refine st_S rfl rfl rfl rfl rfl ?_ | refine st_T rfl rfl rfl rfl rfl ?_)
    simp only [EC_seq, EC_region, EC_block, EC_scope, EC_skip, EC_exit, EC_ret, EC_label, EO_nil, ED_nil, after_normal, after_exit, after_ret, leave_normal, leave_exit, leave_ret, goesOn_exit, goesOn_ret, cut_exit, cut_ret, cutx_exit, cutx_ret, reduceIte, Nat.reduceEqDiff, reduceCtorEq, Nat.one_ne_zero, Nat.zero_ne_one]
    exact goOn (j + 1) (by show S.length - (j + 1) < S.length - j; omega) ⟨rfl, rfl, by show Value.int .i64 _ = Value.int .i64 _; congr 1, trivial⟩ ⟨rfl, rfl, rfl, by show j + 1 ≤ S.length; omega⟩
end Go.Proofs.YtokfihhdllmbmaaGreatDoor
namespace Go.Proofs.YtokfihhdllmbmaaGreatDoor
open Go Go.GL
/-! Package sdp: Valid at programs of the scene. -/
theorem ents_at : ∀ {E : List Ent} {j : Nat} {e : Ent}, E[j]? = some e → ((ents E).drop (j * 4)).take 4 = entC e := by
  intro E
  induction E with
  | nil => intro j e h; simp at h
  | cons x E ih =>
    intro j e h
    cases j with
    | zero =>
      simp at h; subst h
      rfl
    | succ j =>
      have := ih (j := j) (e := e) (by simpa using h)
      rw [show (j + 1) * 4 = (entC x).length + j * 4 from by simp [entC]; omega]
      show ((entC x ++ ents E).drop _).take 4 = _
      rw [← List.drop_drop, List.drop_left' rfl]
      exact this
theorem take_at {cs cells : List Value} {off m j k : Nat} (he : (cs.drop off).take m = cells) (hj : j + k ≤ m) : (cs.drop (off + j)).take k = (cells.drop j).take k := by
  rw [← he, List.drop_take, List.take_take, List.drop_drop, Nat.min_eq_left (by omega)]
set_option maxHeartbeats 4000000
theorem validList_ok (k : Nat) {h : HF} (hG : GK.G h) {n : Nat} {aE aB : Option Addr} {lE cE lB cB : Nat} {E : List Ent} {B : List Int} (hn : 20 ≤ n) (hE : Sl h n 4 (.slice aE lE cE) (ents E)) (hB : Sl h n 1 (.slice aB lB cB) (i64s B)) (hok : ∀ e ∈ E, EntOk B e) (hasc : E.Pairwise ltE) (hb : E.length < 1000000 ∧ B.length < 1000000) : VF (cal (k + 2)) 61 [.slice aE lE cE, .slice aB lB cB] h n fun v => v = .bool true := by
  refine CF_flat (fn := Tryz.f61) rfl rfl rfl rfl ?_
  have hlE : lE = E.length := by
    obtain ⟨a', len', cap', e, hl⟩ := hE.len
    injection e with e1 e2 e3
    rw [ents_len] at hl
    omega
  have hlB : lB = B.length := by
    obtain ⟨a', len', cap', e, hl⟩ := hB.len
    injection e with e1 e2 e3
    simp [i64s] at hl
    omega
  subst hlE hlB
  simp only [EC_seq, EC_region, EC_block, EC_scope, EC_skip, EC_exit, EC_ret, EC_label, EO_nil, ED_nil, after_normal, after_exit, after_ret, leave_normal, leave_exit, leave_ret, goesOn_exit, goesOn_ret, cut_exit, cut_ret, cutx_exit, cutx_ret, reduceIte, Nat.reduceEqDiff, reduceCtorEq, Nat.one_ne_zero, Nat.zero_ne_one]
  repeat (first | refine st_ltT rfl rfl rfl rfl rfl rfl (by omega) ?_ | refine st_ltF rfl rfl rfl rfl rfl rfl (by omega) ?_ | refine st_gtF rfl rfl rfl rfl rfl rfl (by omega) ?_ | refine st_geF rfl rfl rfl rfl rfl rfl (by omega) ?_ | refine st_add rfl rfl rfl rfl rfl rfl (by omega) ?_ | refine st_I rfl rfl rfl rfl rfl ?_ | refine st_B rfl rfl rfl rfl rfl ?_ | refine st_S rfl rfl rfl rfl rfl ?_ | refine st_P rfl rfl rfl rfl rfl ?_)
  simp only [EC_seq, EC_region, EC_block, EC_scope, EC_skip, EC_exit, EC_ret, EC_label, EO_nil, ED_nil, after_normal, after_exit, after_ret, leave_normal, leave_exit, leave_ret, goesOn_exit, goesOn_ret, cut_exit, cut_ret, cutx_exit, cutx_ret, reduceIte, Nat.reduceEqDiff, reduceCtorEq, Nat.one_ne_zero, Nat.zero_ne_one]
  repeat (first | refine st_ltT rfl rfl rfl rfl rfl rfl (by omega) ?_ | refine st_ltF rfl rfl rfl rfl rfl rfl (by omega) ?_ | refine st_gtF rfl rfl rfl rfl rfl rfl (by omega) ?_ | refine st_geF rfl rfl rfl rfl rfl rfl (by omega) ?_ | refine st_add rfl rfl rfl rfl rfl rfl (by omega) ?_ | refine st_I rfl rfl rfl rfl rfl ?_ | refine st_B rfl rfl rfl rfl rfl ?_ | refine st_S rfl rfl rfl rfl rfl ?_ | refine st_P rfl rfl rfl rfl rfl ?_)
  simp only [EC_seq, EC_region, EC_block, EC_scope, EC_skip, EC_exit, EC_ret, EC_label, EO_nil, ED_nil, after_normal, after_exit, after_ret, leave_normal, leave_exit, leave_ret, goesOn_exit, goesOn_ret, cut_exit, cut_ret, cutx_exit, cutx_ret, reduceIte, Nat.reduceEqDiff, reduceCtorEq, Nat.one_ne_zero, Nat.zero_ne_one]
  refine EC_for (α := Nat) (fun j => [(0, .slice aE E.length cE), (1, .slice aB B.length cB), (7, .slice aE E.length cE), (8, .int .i64 (E.length : Int)), (9, .int .i64 (j : Int))]) (fun j h' n' w => Ext n h h' ∧ n ≤ n' ∧ w = [] ∧ j ≤ E.length) (fun j => E.length - j) 0 ⟨rfl, rfl, rfl, rfl, rfl, trivial⟩ ⟨Ext.refl _ _, Nat.le_refl _, rfl, Nat.zero_le _⟩ (by show E.length - 0 < LL; unfold LL; omega) ?_
  rintro j t h1 n1 _ ⟨hx1, hn1, rfl, hj⟩
  simp only [EC_seq, EC_region, EC_block, EC_scope, EC_skip, EC_exit, EC_ret, EC_label, EO_nil, ED_nil, after_normal, after_exit, after_ret, leave_normal, leave_exit, leave_ret, goesOn_exit, goesOn_ret, cut_exit, cut_ret, cutx_exit, cutx_ret, reduceIte, Nat.reduceEqDiff, reduceCtorEq, Nat.one_ne_zero, Nat.zero_ne_one]
  by_cases hjE : j = E.length
  · repeat (first | refine st_ltT rfl rfl rfl rfl rfl rfl (by omega) ?_ | refine st_ltF rfl rfl rfl rfl rfl rfl (by omega) ?_ | refine st_gtF rfl rfl rfl rfl rfl rfl (by omega) ?_ | refine st_geF rfl rfl rfl rfl rfl rfl (by omega) ?_ | refine st_add rfl rfl rfl rfl rfl rfl (by omega) ?_ | refine st_I rfl rfl rfl rfl rfl ?_ | refine st_B rfl rfl rfl rfl rfl ?_ | refine st_S rfl rfl rfl rfl rfl ?_ | refine st_P rfl rfl rfl rfl rfl ?_)
    simp only [EC_seq, EC_region, EC_block, EC_scope, EC_skip, EC_exit, EC_ret, EC_label, EO_nil, ED_nil, after_normal, after_exit, after_ret, leave_normal, leave_exit, leave_ret, goesOn_exit, goesOn_ret, cut_exit, cut_ret, cutx_exit, cutx_ret, reduceIte, Nat.reduceEqDiff, reduceCtorEq, Nat.one_ne_zero, Nat.zero_ne_one]
    rw [EC_cond_false rfl]
    simp only [EC_seq, EC_region, EC_block, EC_scope, EC_skip, EC_exit, EC_ret, EC_label, EO_nil, ED_nil, after_normal, after_exit, after_ret, leave_normal, leave_exit, leave_ret, goesOn_exit, goesOn_ret, cut_exit, cut_ret, cutx_exit, cutx_ret, reduceIte, Nat.reduceEqDiff, reduceCtorEq, Nat.one_ne_zero, Nat.zero_ne_one]
    repeat (first | refine st_ltT rfl rfl rfl rfl rfl rfl (by omega) ?_ | refine st_ltF rfl rfl rfl rfl rfl rfl (by omega) ?_ | refine st_gtF rfl rfl rfl rfl rfl rfl (by omega) ?_ | refine st_geF rfl rfl rfl rfl rfl rfl (by omega) ?_ | refine st_add rfl rfl rfl rfl rfl rfl (by omega) ?_ | refine st_I rfl rfl rfl rfl rfl ?_ | refine st_B rfl rfl rfl rfl rfl ?_ | refine st_S rfl rfl rfl rfl rfl ?_ | refine st_P rfl rfl rfl rfl rfl ?_)
    simp only [EC_seq, EC_region, EC_block, EC_scope, EC_skip, EC_exit, EC_ret, EC_label, EO_nil, ED_nil, after_normal, after_exit, after_ret, leave_normal, leave_exit, leave_ret, goesOn_exit, goesOn_ret, cut_exit, cut_ret, cutx_exit, cutx_ret, reduceIte, Nat.reduceEqDiff, reduceCtorEq, Nat.one_ne_zero, Nat.zero_ne_one]
    exact retF _ rfl (resF_tmp rfl) rfl rfl rfl
  obtain ⟨e, he'⟩ : ∃ e, E[j]? = some e := ⟨E[j]'(by omega), List.getElem?_eq_getElem (by omega)⟩
  obtain ⟨hb1, hrc, hcc, y, hy0, hy1, hyn, hyv⟩ := hok e (List.mem_of_getElem? he')
  obtain ⟨bE, oE, xE, csE, rfl, hbE, hxE, hcE, hcapE, hleE, heE⟩ := hE.inv (by omega)
  obtain ⟨bB, oB, xB, csB, rfl, hbB, hxB, hcB, hcapB, hleB, heB⟩ := hB.inv (by omega)
  have hcell : (csE.drop (oE + j * 4)).take 4 = entC e := by rw [take_at heE (by omega), ents_at he']
  have hxE1 : h1 bE = some xE := by rw [hx1 bE hbE]; exact hxE
  have hxB1 : h1 bB = some xB := by rw [hx1 bB hbB]; exact hxB
  repeat (first | refine st_ltT rfl rfl rfl rfl rfl rfl (by omega) ?_ | refine st_ltF rfl rfl rfl rfl rfl rfl (by omega) ?_ | refine st_gtF rfl rfl rfl rfl rfl rfl (by omega) ?_ | refine st_geF rfl rfl rfl rfl rfl rfl (by omega) ?_ | refine st_add rfl rfl rfl rfl rfl rfl (by omega) ?_ | refine st_I rfl rfl rfl rfl rfl ?_ | refine st_B rfl rfl rfl rfl rfl ?_ | refine st_S rfl rfl rfl rfl rfl ?_ | refine st_P rfl rfl rfl rfl rfl ?_)
  simp only [EC_seq, EC_region, EC_block, EC_scope, EC_skip, EC_exit, EC_ret, EC_label, EO_nil, ED_nil, after_normal, after_exit, after_ret, leave_normal, leave_exit, leave_ret, goesOn_exit, goesOn_ret, cut_exit, cut_ret, cutx_exit, cutx_ret, reduceIte, Nat.reduceEqDiff, reduceCtorEq, Nat.one_ne_zero, Nat.zero_ne_one]
  rw [EC_cond_true rfl]
  simp only [EC_seq, EC_region, EC_block, EC_scope, EC_skip, EC_exit, EC_ret, EC_label, EO_nil, ED_nil, after_normal, after_exit, after_ret, leave_normal, leave_exit, leave_ret, goesOn_exit, goesOn_ret, cut_exit, cut_ret, cutx_exit, cutx_ret, reduceIte, Nat.reduceEqDiff, reduceCtorEq, Nat.one_ne_zero, Nat.zero_ne_one]
  repeat (first | refine st_ltT rfl rfl rfl rfl rfl rfl (by omega) ?_ | refine st_ltF rfl rfl rfl rfl rfl rfl (by omega) ?_ | refine st_gtF rfl rfl rfl rfl rfl rfl (by omega) ?_ | refine st_geF rfl rfl rfl rfl rfl rfl (by omega) ?_ | refine st_add rfl rfl rfl rfl rfl rfl (by omega) ?_ | refine st_I rfl rfl rfl rfl rfl ?_ | refine st_B rfl rfl rfl rfl rfl ?_ | refine st_S rfl rfl rfl rfl rfl ?_ | refine st_P rfl rfl rfl rfl rfl ?_)
  refine st_idx rfl rfl rfl rfl rfl rfl rfl rfl (by omega) ?_
  refine st_load (v := .agg (entC e).toArray) rfl rfl rfl rfl rfl (loadn_eq rfl rfl hxE1 hcE (by omega) (by rw [← hcell]; congr 2 <;> omega)) ?_
  refine st_alloc rfl rfl rfl rfl rfl ?_
  repeat (first | refine st_ltT rfl rfl rfl rfl rfl rfl (by omega) ?_ | refine st_ltF rfl rfl rfl rfl rfl rfl (by omega) ?_ | refine st_gtF rfl rfl rfl rfl rfl rfl (by omega) ?_ | refine st_geF rfl rfl rfl rfl rfl rfl (by omega) ?_ | refine st_add rfl rfl rfl rfl rfl rfl (by omega) ?_ | refine st_I rfl rfl rfl rfl rfl ?_ | refine st_B rfl rfl rfl rfl rfl ?_ | refine st_S rfl rfl rfl rfl rfl ?_ | refine st_P rfl rfl rfl rfl rfl ?_)
  refine st_storeW (entC e) rfl rfl rfl rfl rfl rfl rfl rfl (upd_same _ _ _) rfl (by show 3 * n ≤ 3 * n1 + 2; omega) ?_
  rw [upd_upd]
  generalize hh : upd h1 (3 * n1 + 2) _ = h2
  have hp2 : ∃ ty, h2 (3 * n1 + 2) = some (.row (entC e) ty) := ⟨_, by rw [← hh, upd_same]⟩
  obtain ⟨ty2, hp2⟩ := hp2
  have hx2 : Ext n1 h1 h2 := by rw [← hh]; exact Ext.upd (by omega)
  have hxE2 : h2 bE = some xE := by rw [hx2 bE (by omega)]; exact hxE1
  have hxB2 : h2 bB = some xB := by rw [hx2 bB (by omega)]; exact hxB1
  have hG2 : GK.G h2 := G_ext hG (hx1.trans hx2 hn1) hn
  obtain ⟨dd, hdd⟩ : ∃ d, B[e.b.toNat]? = some d := ⟨B[e.b.toNat]'(by omega), List.getElem?_eq_getElem (by omega)⟩
  have hcd := hcc dd hdd
  have hcellB : csB[oB + e.b.toNat]? = some (.int .i64 dd) := cell_at heB (by rw [i64s, List.getElem?_map, hdd]; rfl)
  simp only [EC_seq, EC_region, EC_block, EC_scope, EC_skip, EC_exit, EC_ret, EC_label, EO_nil, ED_nil, after_normal, after_exit, after_ret, leave_normal, leave_exit, leave_ret, goesOn_exit, goesOn_ret, cut_exit, cut_ret, cutx_exit, cutx_ret, reduceIte, Nat.reduceEqDiff, reduceCtorEq, Nat.one_ne_zero, Nat.zero_ne_one]
  rw [EC_quiet rfl]
  repeat (first | refine st_ltT rfl rfl rfl rfl rfl rfl (by omega) ?_ | refine st_ltF rfl rfl rfl rfl rfl rfl (by omega) ?_ | refine st_gtF rfl rfl rfl rfl rfl rfl (by omega) ?_ | refine st_geF rfl rfl rfl rfl rfl rfl (by omega) ?_ | refine st_add rfl rfl rfl rfl rfl rfl (by omega) ?_ | refine st_I rfl rfl rfl rfl rfl ?_ | refine st_B rfl rfl rfl rfl rfl ?_ | refine st_S rfl rfl rfl rfl rfl ?_ | refine st_P rfl rfl rfl rfl rfl ?_)
  refine st_load1 rfl rfl rfl rfl rfl rfl hp2 rfl (v := .int .i64 e.b) rfl ?_
  repeat (first | refine st_ltT rfl rfl rfl rfl rfl rfl (by omega) ?_ | refine st_ltF rfl rfl rfl rfl rfl rfl (by omega) ?_ | refine st_gtF rfl rfl rfl rfl rfl rfl (by omega) ?_ | refine st_geF rfl rfl rfl rfl rfl rfl (by omega) ?_ | refine st_add rfl rfl rfl rfl rfl rfl (by omega) ?_ | refine st_I rfl rfl rfl rfl rfl ?_ | refine st_B rfl rfl rfl rfl rfl ?_ | refine st_S rfl rfl rfl rfl rfl ?_ | refine st_P rfl rfl rfl rfl rfl ?_)
  refine st_load1 rfl rfl rfl rfl rfl rfl hp2 rfl (v := .int .i64 e.b) rfl ?_
  repeat (first | refine st_ltT rfl rfl rfl rfl rfl rfl (by omega) ?_ | refine st_ltF rfl rfl rfl rfl rfl rfl (by omega) ?_ | refine st_gtF rfl rfl rfl rfl rfl rfl (by omega) ?_ | refine st_geF rfl rfl rfl rfl rfl rfl (by omega) ?_ | refine st_add rfl rfl rfl rfl rfl rfl (by omega) ?_ | refine st_I rfl rfl rfl rfl rfl ?_ | refine st_B rfl rfl rfl rfl rfl ?_ | refine st_S rfl rfl rfl rfl rfl ?_ | refine st_P rfl rfl rfl rfl rfl ?_)
  refine st_load1 rfl rfl rfl rfl rfl rfl hp2 rfl (v := .int .i64 e.r) rfl ?_
  repeat (first | refine st_ltT rfl rfl rfl rfl rfl rfl (by omega) ?_ | refine st_ltF rfl rfl rfl rfl rfl rfl (by omega) ?_ | refine st_gtF rfl rfl rfl rfl rfl rfl (by omega) ?_ | refine st_geF rfl rfl rfl rfl rfl rfl (by omega) ?_ | refine st_add rfl rfl rfl rfl rfl rfl (by omega) ?_ | refine st_I rfl rfl rfl rfl rfl ?_ | refine st_B rfl rfl rfl rfl rfl ?_ | refine st_S rfl rfl rfl rfl rfl ?_ | refine st_P rfl rfl rfl rfl rfl ?_)
  refine st_load1 rfl rfl rfl rfl rfl rfl hp2 rfl (v := .int .i64 e.r) rfl ?_
  repeat (first | refine st_ltT rfl rfl rfl rfl rfl rfl (by omega) ?_ | refine st_ltF rfl rfl rfl rfl rfl rfl (by omega) ?_ | refine st_gtF rfl rfl rfl rfl rfl rfl (by omega) ?_ | refine st_geF rfl rfl rfl rfl rfl rfl (by omega) ?_ | refine st_add rfl rfl rfl rfl rfl rfl (by omega) ?_ | refine st_I rfl rfl rfl rfl rfl ?_ | refine st_B rfl rfl rfl rfl rfl ?_ | refine st_S rfl rfl rfl rfl rfl ?_ | refine st_P rfl rfl rfl rfl rfl ?_)
  refine st_load1 rfl rfl rfl rfl rfl rfl hp2 rfl (v := .int .i64 e.c) rfl ?_
  repeat (first | refine st_ltT rfl rfl rfl rfl rfl rfl (by omega) ?_ | refine st_ltF rfl rfl rfl rfl rfl rfl (by omega) ?_ | refine st_gtF rfl rfl rfl rfl rfl rfl (by omega) ?_ | refine st_geF rfl rfl rfl rfl rfl rfl (by omega) ?_ | refine st_add rfl rfl rfl rfl rfl rfl (by omega) ?_ | refine st_I rfl rfl rfl rfl rfl ?_ | refine st_B rfl rfl rfl rfl rfl ?_ | refine st_S rfl rfl rfl rfl rfl ?_ | refine st_P rfl rfl rfl rfl rfl ?_)
  refine st_load1 rfl rfl rfl rfl rfl rfl hp2 rfl (v := .int .i64 e.c) rfl ?_
  repeat (first | refine st_ltT rfl rfl rfl rfl rfl rfl (by omega) ?_ | refine st_ltF rfl rfl rfl rfl rfl rfl (by omega) ?_ | refine st_gtF rfl rfl rfl rfl rfl rfl (by omega) ?_ | refine st_geF rfl rfl rfl rfl rfl rfl (by omega) ?_ | refine st_add rfl rfl rfl rfl rfl rfl (by omega) ?_ | refine st_I rfl rfl rfl rfl rfl ?_ | refine st_B rfl rfl rfl rfl rfl ?_ | refine st_S rfl rfl rfl rfl rfl ?_ | refine st_P rfl rfl rfl rfl rfl ?_)
  refine st_load1 rfl rfl rfl rfl rfl rfl hp2 rfl (v := .int .i64 e.b) rfl ?_
  refine st_idx rfl rfl rfl rfl rfl rfl rfl rfl (by omega) ?_
  refine st_load1 rfl rfl rfl rfl rfl rfl hxB2 hcB (v := .int .i64 dd) (by rw [← hcellB]; congr 1; omega) ?_
  repeat (first | refine st_ltT rfl rfl rfl rfl rfl rfl (by omega) ?_ | refine st_ltF rfl rfl rfl rfl rfl rfl (by omega) ?_ | refine st_gtF rfl rfl rfl rfl rfl rfl (by omega) ?_ | refine st_geF rfl rfl rfl rfl rfl rfl (by omega) ?_ | refine st_add rfl rfl rfl rfl rfl rfl (by omega) ?_ | refine st_I rfl rfl rfl rfl rfl ?_ | refine st_B rfl rfl rfl rfl rfl ?_ | refine st_S rfl rfl rfl rfl rfl ?_ | refine st_P rfl rfl rfl rfl rfl ?_)
  simp only [EC_seq, EC_region, EC_block, EC_scope, EC_skip, EC_exit, EC_ret, EC_label, EO_nil, ED_nil, after_normal, after_exit, after_ret, leave_normal, leave_exit, leave_ret, goesOn_exit, goesOn_ret, cut_exit, cut_ret, cutx_exit, cutx_ret, reduceIte, Nat.reduceEqDiff, reduceCtorEq, Nat.one_ne_zero, Nat.zero_ne_one]
  rw [EC_cond_false rfl]
  simp only [EC_seq, EC_region, EC_block, EC_scope, EC_skip, EC_exit, EC_ret, EC_label, EO_nil, ED_nil, after_normal, after_exit, after_ret, leave_normal, leave_exit, leave_ret, goesOn_exit, goesOn_ret, cut_exit, cut_ret, cutx_exit, cutx_ret, reduceIte, Nat.reduceEqDiff, reduceCtorEq, Nat.one_ne_zero, Nat.zero_ne_one]
  refine EC_draw [0, 1, 3, 7, 7, 23, 63, 127, 7, 511, 1023, 2047, 4095, 8191, 16383, 32767, 65535, 131071, 262143, 524287, 1048575, 2097151, 4194303] rfl ?_
  have hsm : GK.isSmall e.v = true := small_is (K := 2) (by omega) ⟨y, hy0, hy1, hyv⟩
  have hnz : (e.v == [48]) = false := by
    rw [hyv]
    simpa using zero_text (by omega) hyn
  have tail : ∀ (Q : SV → Prop) (t : TF), True := fun _ _ => trivial
  by_cases hj0 : j = 0
  · repeat (first | refine dr_gtT rfl rfl rfl rfl rfl rfl (by omega) ?_ | refine dr_gtF rfl rfl rfl rfl rfl rfl (by omega) ?_ | refine dr_sub rfl rfl rfl rfl rfl rfl (by omega) ?_ | refine dr_I rfl rfl rfl rfl rfl ?_ | refine dr_B rfl rfl rfl rfl rfl ?_ | refine dr_S rfl rfl rfl rfl rfl ?_ | refine dr_P rfl rfl rfl rfl rfl ?_ | refine dr_off rfl rfl rfl ?_)
    refine dr_load rfl rfl rfl rfl rfl rfl (load1_eq rfl hp2 rfl (v := .string ⟨⟨e.v⟩⟩) rfl) rfl rfl ?_
    refine dr_vf _ rfl rfl rfl rfl rfl rfl rfl (rvalid_small k hG2 _ hsm) ?_
    rintro _ rfl
    repeat (first | refine dr_gtT rfl rfl rfl rfl rfl rfl (by omega) ?_ | refine dr_gtF rfl rfl rfl rfl rfl rfl (by omega) ?_ | refine dr_sub rfl rfl rfl rfl rfl rfl (by omega) ?_ | refine dr_I rfl rfl rfl rfl rfl ?_ | refine dr_B rfl rfl rfl rfl rfl ?_ | refine dr_S rfl rfl rfl rfl rfl ?_ | refine dr_P rfl rfl rfl rfl rfl ?_ | refine dr_off rfl rfl rfl ?_)
    refine dr_load rfl rfl rfl rfl rfl rfl (load1_eq rfl hp2 rfl (v := .string ⟨⟨e.v⟩⟩) rfl) (okEffsF_nil (by simp)) rfl ?_
    refine dr_val (v := .bool false) rfl rfl rfl rfl (by show some (Value.bool (e.v == [48])) = _; rw [hnz]) ?_
    repeat (first | refine dr_gtT rfl rfl rfl rfl rfl rfl (by omega) ?_ | refine dr_gtF rfl rfl rfl rfl rfl rfl (by omega) ?_ | refine dr_sub rfl rfl rfl rfl rfl rfl (by omega) ?_ | refine dr_I rfl rfl rfl rfl rfl ?_ | refine dr_B rfl rfl rfl rfl rfl ?_ | refine dr_S rfl rfl rfl rfl rfl ?_ | refine dr_P rfl rfl rfl rfl rfl ?_ | refine dr_off rfl rfl rfl ?_)
    simp only [EC_seq, EC_region, EC_block, EC_scope, EC_skip, EC_exit, EC_ret, EC_label, EO_nil, ED_nil, after_normal, after_exit, after_ret, leave_normal, leave_exit, leave_ret, goesOn_exit, goesOn_ret, cut_exit, cut_ret, cutx_exit, cutx_ret, reduceIte, Nat.reduceEqDiff, reduceCtorEq, Nat.one_ne_zero, Nat.zero_ne_one]
    rw [EC_cond_false rfl]
    simp only [EC_seq, EC_region, EC_block, EC_scope, EC_skip, EC_exit, EC_ret, EC_label, EO_nil, ED_nil, after_normal, after_exit, after_ret, leave_normal, leave_exit, leave_ret, goesOn_exit, goesOn_ret, cut_exit, cut_ret, cutx_exit, cutx_ret, reduceIte, Nat.reduceEqDiff, reduceCtorEq, Nat.one_ne_zero, Nat.zero_ne_one]
    repeat (first | refine st_ltT rfl rfl rfl rfl rfl rfl (by omega) ?_ | refine st_ltF rfl rfl rfl rfl rfl rfl (by omega) ?_ | refine st_gtF rfl rfl rfl rfl rfl rfl (by omega) ?_ | refine st_geF rfl rfl rfl rfl rfl rfl (by omega) ?_ | refine st_add rfl rfl rfl rfl rfl rfl (by omega) ?_ | refine st_I rfl rfl rfl rfl rfl ?_ | refine st_B rfl rfl rfl rfl rfl ?_ | refine st_S rfl rfl rfl rfl rfl ?_ | refine st_P rfl rfl rfl rfl rfl ?_)
    simp only [EC_seq, EC_region, EC_block, EC_scope, EC_skip, EC_exit, EC_ret, EC_label, EO_nil, ED_nil, after_normal, after_exit, after_ret, leave_normal, leave_exit, leave_ret, goesOn_exit, goesOn_ret, cut_exit, cut_ret, cutx_exit, cutx_ret, reduceIte, Nat.reduceEqDiff, reduceCtorEq, Nat.one_ne_zero, Nat.zero_ne_one]
    exact goOn (j + 1) (by show E.length - (j + 1) < E.length - j; omega) ⟨rfl, rfl, rfl, rfl, by show Value.int .i64 _ = Value.int .i64 _; congr 1, trivial⟩ ⟨hx1.trans hx2 hn1, by show n ≤ n1 + 1; omega, rfl, by show j + 1 ≤ E.length; omega⟩
  · obtain ⟨f, hf'⟩ : ∃ f, E[j - 1]? = some f := ⟨E[j - 1]'(by omega), List.getElem?_eq_getElem (by omega)⟩
    have hlt : ltE f e := by
      obtain ⟨p1, q1⟩ := List.getElem?_eq_some_iff.1 hf'
      obtain ⟨p2, q2⟩ := List.getElem?_eq_some_iff.1 he'
      have := List.pairwise_iff_getElem.1 hasc (j - 1) j p1 p2 (by omega)
      rw [q1, q2] at this
      exact this
    have hcellf : (csE.drop (oE + (j - 1) * 4)).take 4 = entC f := by rw [take_at heE (by omega), ents_at hf']
    repeat (first | refine dr_gtT rfl rfl rfl rfl rfl rfl (by omega) ?_ | refine dr_gtF rfl rfl rfl rfl rfl rfl (by omega) ?_ | refine dr_sub rfl rfl rfl rfl rfl rfl (by omega) ?_ | refine dr_I rfl rfl rfl rfl rfl ?_ | refine dr_B rfl rfl rfl rfl rfl ?_ | refine dr_S rfl rfl rfl rfl rfl ?_ | refine dr_P rfl rfl rfl rfl rfl ?_ | refine dr_off rfl rfl rfl ?_)
    refine dr_idx rfl rfl rfl rfl rfl rfl rfl rfl (by omega) ?_
    refine dr_load (v := .agg (entC f).toArray) rfl rfl rfl rfl rfl rfl (loadn_eq rfl rfl hxE2 hcE (by omega) (by rw [← hcellf]; congr 2 <;> omega)) rfl rfl ?_
    refine dr_load (v := .agg (entC e).toArray) rfl rfl rfl rfl rfl rfl (loadn_eq rfl rfl hp2 rfl (Nat.le_of_ble_eq_true rfl) rfl) rfl rfl ?_
    refine dr_vf _ rfl rfl rfl rfl rfl rfl rfl (ascending_ok k h2 (n1 + 1) f e) ?_
    rintro _ ⟨b, rfl, hbb⟩
    have : b = true := hbb.2 hlt
    subst this
    repeat (first | refine dr_gtT rfl rfl rfl rfl rfl rfl (by omega) ?_ | refine dr_gtF rfl rfl rfl rfl rfl rfl (by omega) ?_ | refine dr_sub rfl rfl rfl rfl rfl rfl (by omega) ?_ | refine dr_I rfl rfl rfl rfl rfl ?_ | refine dr_B rfl rfl rfl rfl rfl ?_ | refine dr_S rfl rfl rfl rfl rfl ?_ | refine dr_P rfl rfl rfl rfl rfl ?_ | refine dr_off rfl rfl rfl ?_)
    refine dr_load rfl rfl rfl rfl rfl rfl (load1_eq rfl hp2 rfl (v := .string ⟨⟨e.v⟩⟩) rfl) (okEffsF_nil (by simp)) rfl ?_
    refine dr_vf _ rfl rfl rfl rfl rfl rfl rfl (rvalid_small k hG2 _ hsm) ?_
    rintro _ rfl
    repeat (first | refine dr_gtT rfl rfl rfl rfl rfl rfl (by omega) ?_ | refine dr_gtF rfl rfl rfl rfl rfl rfl (by omega) ?_ | refine dr_sub rfl rfl rfl rfl rfl rfl (by omega) ?_ | refine dr_I rfl rfl rfl rfl rfl ?_ | refine dr_B rfl rfl rfl rfl rfl ?_ | refine dr_S rfl rfl rfl rfl rfl ?_ | refine dr_P rfl rfl rfl rfl rfl ?_ | refine dr_off rfl rfl rfl ?_)
    refine dr_load rfl rfl rfl rfl rfl rfl (load1_eq rfl hp2 rfl (v := .string ⟨⟨e.v⟩⟩) rfl) (okEffsF_nil (by simp)) rfl ?_
    refine dr_val (v := .bool false) rfl rfl rfl rfl (by show some (Value.bool (e.v == [48])) = _; rw [hnz]) ?_
    repeat (first | refine dr_gtT rfl rfl rfl rfl rfl rfl (by omega) ?_ | refine dr_gtF rfl rfl rfl rfl rfl rfl (by omega) ?_ | refine dr_sub rfl rfl rfl rfl rfl rfl (by omega) ?_ | refine dr_I rfl rfl rfl rfl rfl ?_ | refine dr_B rfl rfl rfl rfl rfl ?_ | refine dr_S rfl rfl rfl rfl rfl ?_ | refine dr_P rfl rfl rfl rfl rfl ?_ | refine dr_off rfl rfl rfl ?_)
    simp only [EC_seq, EC_region, EC_block, EC_scope, EC_skip, EC_exit, EC_ret, EC_label, EO_nil, ED_nil, after_normal, after_exit, after_ret, leave_normal, leave_exit, leave_ret, goesOn_exit, goesOn_ret, cut_exit, cut_ret, cutx_exit, cutx_ret, reduceIte, Nat.reduceEqDiff, reduceCtorEq, Nat.one_ne_zero, Nat.zero_ne_one]
    rw [EC_cond_false rfl]
    simp only [EC_seq, EC_region, EC_block, EC_scope, EC_skip, EC_exit, EC_ret, EC_label, EO_nil, ED_nil, after_normal, after_exit, after_ret, leave_normal, leave_exit, leave_ret, goesOn_exit, goesOn_ret, cut_exit, cut_ret, cutx_exit, cutx_ret, reduceIte, Nat.reduceEqDiff, reduceCtorEq, Nat.one_ne_zero, Nat.zero_ne_one]
    repeat (first | refine st_ltT rfl rfl rfl rfl rfl rfl (by omega) ?_ | refine st_ltF rfl rfl rfl rfl rfl rfl (by omega) ?_ | refine st_gtF rfl rfl rfl rfl rfl rfl (by omega) ?_ | refine st_geF rfl rfl rfl rfl rfl rfl (by omega) ?_ | refine st_add rfl rfl rfl rfl rfl rfl (by omega) ?_ | refine st_I rfl rfl rfl rfl rfl ?_ | refine st_B rfl rfl rfl rfl rfl ?_ | refine st_S rfl rfl rfl rfl rfl ?_ | refine st_P rfl rfl rfl rfl rfl ?_)
    simp only [EC_seq, EC_region, EC_block, EC_scope, EC_skip, EC_exit, EC_ret, EC_label, EO_nil, ED_nil, after_normal, after_exit, after_ret, leave_normal, leave_exit, leave_ret, goesOn_exit, goesOn_ret, cut_exit, cut_ret, cutx_exit, cutx_ret, reduceIte, Nat.reduceEqDiff, reduceCtorEq, Nat.one_ne_zero, Nat.zero_ne_one]
    exact goOn (j + 1) (by show E.length - (j + 1) < E.length - j; omega) ⟨rfl, rfl, rfl, rfl, by show Value.int .i64 _ = Value.int .i64 _; congr 1, trivial⟩ ⟨hx1.trans hx2 hn1, by show n ≤ n1 + 1; omega, rfl, by show j + 1 ≤ E.length; omega⟩
end Go.Proofs.YtokfihhdllmbmaaGreatDoor
namespace Go.Proofs.YtokfihhdllmbmaaGreatDoor
open Go Go.GL
theorem EqR.get {h : HF} {n : Nat} {ce : List Value} {qs : List Eqn} (e : EqR h n ce qs) : ∀ {j : Nat} {q : Eqn}, qs[j]? = some q → ∃ ve vf, (ce.drop (j * 3)).take 3 = [ve, vf, .string ⟨⟨q.rhs⟩⟩] ∧ Sl h n 4 ve (ents q.es) ∧ Sl h n 1 vf (strs q.fr) := by
  induction e with
  | nil => intro j q hq; simp at hq
  | cons h1 h2 h3 ih =>
    intro j q hq
    cases j with
    | zero => simp at hq; subst hq; exact ⟨_, _, rfl, h1, h2⟩
    | succ j =>
      obtain ⟨ve, vf, g1, g2, g3⟩ := ih (j := j) (q := q) (by simpa using hq)
      refine ⟨ve, vf, ?_, g2, g3⟩
      rw [← g1, show (j + 1) * 3 = 3 + j * 3 from by omega, ← List.drop_drop]
      rfl
theorem Sl.lenEq {h : HF} {n sz m : Nat} {a : Option Addr} {len cap : Nat} {c : List Value} (s : Sl h n sz (.slice a len cap) c) (hsz : 0 < sz) (hc : c.length = m * sz) : len = m := by
  obtain ⟨a', len', cap', e, hl⟩ := s.len
  injection e with e1 e2 e3
  subst e2
  exact Nat.eq_of_mul_eq_mul_right hsz (hl.symm.trans hc)
set_option maxHeartbeats 4000000
theorem valid_ok (k : Nat) {h : HF} (hG : GK.G h) {n : Nat} {vB vO vF vE : Value} {p : Sdp} {F least : Nat} (hF : F ≤ 100) (hn : 20 ≤ n) (hp : SdpR h n vB vO vF vE p) (hok : SdpOk F least p) : VF (cal (k + 3)) 15 [.agg #[vB, .int .i64 (p.free : Int), vO, vF, vE]] h n fun v => v = .bool true := by
  refine CF_flat (fn := Tryz.f15) rfl rfl rfl rfl ?_
  obtain ⟨hB, hO, hFr, ce, hE, hEq⟩ := hp
  obtain ⟨aB, lB, cB, rfl, _⟩ := hB.len
  obtain ⟨aO, lO, cO, rfl, _⟩ := hO.len
  obtain ⟨aF, lF, cF, rfl, _⟩ := hFr.len
  obtain ⟨aE, lE, cE, rfl, _⟩ := hE.len
  have hlB := hB.lenEq (m := p.blocks.length) (by omega) (by simp [i64s])
  have hlO := hO.lenEq (m := p.obj.length) (by omega) (ents_len _)
  have hlF := hFr.lenEq (m := p.objFree.length) (by omega) (by simp [strs])
  have hlE := hE.lenEq (m := p.eqs.length) (by omega) hEq.len
  subst hlB hlO hlF hlE
  have hbl := hok.bl
  have hfr := hok.free
  have hofl := hok.ofl
  have heql := hok.eql
  simp only [EC_seq, EC_region, EC_block, EC_scope, EC_skip, EC_exit, EC_ret, EC_label, EO_nil, ED_nil, after_normal, after_exit, after_ret, leave_normal, leave_exit, leave_ret, goesOn_exit, goesOn_ret, cut_exit, cut_ret, cutx_exit, cutx_ret, reduceIte, Nat.reduceEqDiff, reduceCtorEq, Nat.one_ne_zero, Nat.zero_ne_one]
  refine st_mkp (cs := [.slice aB p.blocks.length cB, .int .i64 (p.free : Int), .slice aO p.obj.length cO, .slice aF p.objFree.length cF, .slice aE p.eqs.length cE]) rfl rfl rfl rfl rfl ?_
  generalize hh : upd h (3 * n + 2) _ = h1
  have hx1 : Ext n h h1 := by rw [← hh]; exact Ext.upd (by omega)
  have hr1 : ∃ ty, h1 (3 * n + 2) = some (.row [.slice aB p.blocks.length cB, .int .i64 (p.free : Int), .slice aO p.obj.length cO, .slice aF p.objFree.length cF, .slice aE p.eqs.length cE] ty) := ⟨_, by rw [← hh, upd_same]⟩
  obtain ⟨ty1, hr1⟩ := hr1
  have hG1 : GK.G h1 := G_ext hG hx1 hn
  repeat (first | refine st_ltT rfl rfl rfl rfl rfl rfl (by omega) ?_ | refine st_ltF rfl rfl rfl rfl rfl rfl (by omega) ?_ | refine st_gtF rfl rfl rfl rfl rfl rfl (by omega) ?_ | refine st_neqF rfl rfl rfl rfl rfl rfl (by omega) ?_ | refine st_add rfl rfl rfl rfl rfl rfl (by omega) ?_ | refine st_I rfl rfl rfl rfl rfl ?_ | refine st_B rfl rfl rfl rfl rfl ?_ | refine st_P rfl rfl rfl rfl rfl ?_)
  simp only [EC_seq, EC_region, EC_block, EC_scope, EC_skip, EC_exit, EC_ret, EC_label, EO_nil, ED_nil, after_normal, after_exit, after_ret, leave_normal, leave_exit, leave_ret, goesOn_exit, goesOn_ret, cut_exit, cut_ret, cutx_exit, cutx_ret, reduceIte, Nat.reduceEqDiff, reduceCtorEq, Nat.one_ne_zero, Nat.zero_ne_one]
  repeat (first | refine st_ltT rfl rfl rfl rfl rfl rfl (by omega) ?_ | refine st_ltF rfl rfl rfl rfl rfl rfl (by omega) ?_ | refine st_gtF rfl rfl rfl rfl rfl rfl (by omega) ?_ | refine st_neqF rfl rfl rfl rfl rfl rfl (by omega) ?_ | refine st_add rfl rfl rfl rfl rfl rfl (by omega) ?_ | refine st_I rfl rfl rfl rfl rfl ?_ | refine st_B rfl rfl rfl rfl rfl ?_ | refine st_P rfl rfl rfl rfl rfl ?_)
  refine st_load1 rfl rfl rfl rfl rfl rfl hr1 rfl (v := .slice aB p.blocks.length cB) rfl ?_
  repeat (first | refine st_ltT rfl rfl rfl rfl rfl rfl (by omega) ?_ | refine st_ltF rfl rfl rfl rfl rfl rfl (by omega) ?_ | refine st_gtF rfl rfl rfl rfl rfl rfl (by omega) ?_ | refine st_neqF rfl rfl rfl rfl rfl rfl (by omega) ?_ | refine st_add rfl rfl rfl rfl rfl rfl (by omega) ?_ | refine st_I rfl rfl rfl rfl rfl ?_ | refine st_B rfl rfl rfl rfl rfl ?_ | refine st_P rfl rfl rfl rfl rfl ?_)
  refine st_load1 rfl rfl rfl rfl rfl rfl hr1 rfl (v := .slice aB p.blocks.length cB) rfl ?_
  repeat (first | refine st_ltT rfl rfl rfl rfl rfl rfl (by omega) ?_ | refine st_ltF rfl rfl rfl rfl rfl rfl (by omega) ?_ | refine st_gtF rfl rfl rfl rfl rfl rfl (by omega) ?_ | refine st_neqF rfl rfl rfl rfl rfl rfl (by omega) ?_ | refine st_add rfl rfl rfl rfl rfl rfl (by omega) ?_ | refine st_I rfl rfl rfl rfl rfl ?_ | refine st_B rfl rfl rfl rfl rfl ?_ | refine st_P rfl rfl rfl rfl rfl ?_)
  refine st_load1 rfl rfl rfl rfl rfl rfl hr1 rfl (v := .int .i64 (p.free : Int)) rfl ?_
  repeat (first | refine st_ltT rfl rfl rfl rfl rfl rfl (by omega) ?_ | refine st_ltF rfl rfl rfl rfl rfl rfl (by omega) ?_ | refine st_gtF rfl rfl rfl rfl rfl rfl (by omega) ?_ | refine st_neqF rfl rfl rfl rfl rfl rfl (by omega) ?_ | refine st_add rfl rfl rfl rfl rfl rfl (by omega) ?_ | refine st_I rfl rfl rfl rfl rfl ?_ | refine st_B rfl rfl rfl rfl rfl ?_ | refine st_P rfl rfl rfl rfl rfl ?_)
  refine st_load1 rfl rfl rfl rfl rfl rfl hr1 rfl (v := .int .i64 (p.free : Int)) rfl ?_
  repeat (first | refine st_ltT rfl rfl rfl rfl rfl rfl (by omega) ?_ | refine st_ltF rfl rfl rfl rfl rfl rfl (by omega) ?_ | refine st_gtF rfl rfl rfl rfl rfl rfl (by omega) ?_ | refine st_neqF rfl rfl rfl rfl rfl rfl (by omega) ?_ | refine st_add rfl rfl rfl rfl rfl rfl (by omega) ?_ | refine st_I rfl rfl rfl rfl rfl ?_ | refine st_B rfl rfl rfl rfl rfl ?_ | refine st_P rfl rfl rfl rfl rfl ?_)
  refine st_load1 rfl rfl rfl rfl rfl rfl hr1 rfl (v := .slice aE p.eqs.length cE) rfl ?_
  repeat (first | refine st_ltT rfl rfl rfl rfl rfl rfl (by omega) ?_ | refine st_ltF rfl rfl rfl rfl rfl rfl (by omega) ?_ | refine st_gtF rfl rfl rfl rfl rfl rfl (by omega) ?_ | refine st_neqF rfl rfl rfl rfl rfl rfl (by omega) ?_ | refine st_add rfl rfl rfl rfl rfl rfl (by omega) ?_ | refine st_I rfl rfl rfl rfl rfl ?_ | refine st_B rfl rfl rfl rfl rfl ?_ | refine st_P rfl rfl rfl rfl rfl ?_)
  simp only [EC_seq, EC_region, EC_block, EC_scope, EC_skip, EC_exit, EC_ret, EC_label, EO_nil, ED_nil, after_normal, after_exit, after_ret, leave_normal, leave_exit, leave_ret, goesOn_exit, goesOn_ret, cut_exit, cut_ret, cutx_exit, cutx_ret, reduceIte, Nat.reduceEqDiff, reduceCtorEq, Nat.one_ne_zero, Nat.zero_ne_one]
  rw [EC_cond_false rfl]
  simp only [EC_seq, EC_region, EC_block, EC_scope, EC_skip, EC_exit, EC_ret, EC_label, EO_nil, ED_nil, after_normal, after_exit, after_ret, leave_normal, leave_exit, leave_ret, goesOn_exit, goesOn_ret, cut_exit, cut_ret, cutx_exit, cutx_ret, reduceIte, Nat.reduceEqDiff, reduceCtorEq, Nat.one_ne_zero, Nat.zero_ne_one]
  repeat (first | refine st_ltT rfl rfl rfl rfl rfl rfl (by omega) ?_ | refine st_ltF rfl rfl rfl rfl rfl rfl (by omega) ?_ | refine st_gtF rfl rfl rfl rfl rfl rfl (by omega) ?_ | refine st_neqF rfl rfl rfl rfl rfl rfl (by omega) ?_ | refine st_add rfl rfl rfl rfl rfl rfl (by omega) ?_ | refine st_I rfl rfl rfl rfl rfl ?_ | refine st_B rfl rfl rfl rfl rfl ?_ | refine st_P rfl rfl rfl rfl rfl ?_)
  refine st_load1 rfl rfl rfl rfl rfl rfl hr1 rfl (v := .slice aB p.blocks.length cB) rfl ?_
  repeat (first | refine st_ltT rfl rfl rfl rfl rfl rfl (by omega) ?_ | refine st_ltF rfl rfl rfl rfl rfl rfl (by omega) ?_ | refine st_gtF rfl rfl rfl rfl rfl rfl (by omega) ?_ | refine st_neqF rfl rfl rfl rfl rfl rfl (by omega) ?_ | refine st_add rfl rfl rfl rfl rfl rfl (by omega) ?_ | refine st_I rfl rfl rfl rfl rfl ?_ | refine st_B rfl rfl rfl rfl rfl ?_ | refine st_P rfl rfl rfl rfl rfl ?_)
  simp only [EC_seq, EC_region, EC_block, EC_scope, EC_skip, EC_exit, EC_ret, EC_label, EO_nil, ED_nil, after_normal, after_exit, after_ret, leave_normal, leave_exit, leave_ret, goesOn_exit, goesOn_ret, cut_exit, cut_ret, cutx_exit, cutx_ret, reduceIte, Nat.reduceEqDiff, reduceCtorEq, Nat.one_ne_zero, Nat.zero_ne_one]
  refine EC_for (α := Nat) (fun j => [(1, .pointer (some ⟨3 * n + 2, 0, none⟩)), (34, .slice aB p.blocks.length cB), (35, .int .i64 (p.blocks.length : Int)), (36, .int .i64 (j : Int))]) (fun j h' n' w => h1 = h' ∧ n' = n + 1 ∧ w = [] ∧ j ≤ p.blocks.length) (fun j => p.blocks.length - j) 0 ⟨rfl, rfl, rfl, rfl, trivial⟩ ⟨rfl, rfl, rfl, Nat.zero_le _⟩ (by show p.blocks.length - 0 < LL; unfold LL; omega) ?_
  rintro j t _ _ _ ⟨rfl, rfl, rfl, hj⟩
  simp only [EC_seq, EC_region, EC_block, EC_scope, EC_skip, EC_exit, EC_ret, EC_label, EO_nil, ED_nil, after_normal, after_exit, after_ret, leave_normal, leave_exit, leave_ret, goesOn_exit, goesOn_ret, cut_exit, cut_ret, cutx_exit, cutx_ret, reduceIte, Nat.reduceEqDiff, reduceCtorEq, Nat.one_ne_zero, Nat.zero_ne_one]
  by_cases hjB : j ≠ p.blocks.length
  · obtain ⟨d, hd⟩ : ∃ d, p.blocks[j]? = some d := ⟨p.blocks[j]'(by omega), List.getElem?_eq_getElem (by omega)⟩
    have hd3 := hok.b3 d (List.mem_of_getElem? hd)
    obtain ⟨bB, oB, xB, csB, rfl, hbB, hxB, hcB, hcapB, hleB, heB⟩ := hB.inv (by omega)
    have hcell : csB[oB + j]? = some (.int .i64 d) := cell_at heB (by rw [i64s, List.getElem?_map, hd]; rfl)
    have hxB1 : h1 bB = some xB := by rw [hx1 bB hbB]; exact hxB
    repeat (first | refine st_ltT rfl rfl rfl rfl rfl rfl (by omega) ?_ | refine st_ltF rfl rfl rfl rfl rfl rfl (by omega) ?_ | refine st_gtF rfl rfl rfl rfl rfl rfl (by omega) ?_ | refine st_neqF rfl rfl rfl rfl rfl rfl (by omega) ?_ | refine st_add rfl rfl rfl rfl rfl rfl (by omega) ?_ | refine st_I rfl rfl rfl rfl rfl ?_ | refine st_B rfl rfl rfl rfl rfl ?_ | refine st_P rfl rfl rfl rfl rfl ?_)
    simp only [EC_seq, EC_region, EC_block, EC_scope, EC_skip, EC_exit, EC_ret, EC_label, EO_nil, ED_nil, after_normal, after_exit, after_ret, leave_normal, leave_exit, leave_ret, goesOn_exit, goesOn_ret, cut_exit, cut_ret, cutx_exit, cutx_ret, reduceIte, Nat.reduceEqDiff, reduceCtorEq, Nat.one_ne_zero, Nat.zero_ne_one]
    rw [EC_cond_true rfl]
    simp only [EC_seq, EC_region, EC_block, EC_scope, EC_skip, EC_exit, EC_ret, EC_label, EO_nil, ED_nil, after_normal, after_exit, after_ret, leave_normal, leave_exit, leave_ret, goesOn_exit, goesOn_ret, cut_exit, cut_ret, cutx_exit, cutx_ret, reduceIte, Nat.reduceEqDiff, reduceCtorEq, Nat.one_ne_zero, Nat.zero_ne_one]
    refine st_idx rfl rfl rfl rfl rfl rfl rfl rfl (by omega) ?_
    refine st_load1 rfl rfl rfl rfl rfl rfl hxB1 hcB (v := .int .i64 d) (by rw [← hcell]; congr 1; omega) ?_
    repeat (first | refine st_ltT rfl rfl rfl rfl rfl rfl (by omega) ?_ | refine st_ltF rfl rfl rfl rfl rfl rfl (by omega) ?_ | refine st_gtF rfl rfl rfl rfl rfl rfl (by omega) ?_ | refine st_neqF rfl rfl rfl rfl rfl rfl (by omega) ?_ | refine st_add rfl rfl rfl rfl rfl rfl (by omega) ?_ | refine st_I rfl rfl rfl rfl rfl ?_ | refine st_B rfl rfl rfl rfl rfl ?_ | refine st_P rfl rfl rfl rfl rfl ?_)
    simp only [EC_seq, EC_region, EC_block, EC_scope, EC_skip, EC_exit, EC_ret, EC_label, EO_nil, ED_nil, after_normal, after_exit, after_ret, leave_normal, leave_exit, leave_ret, goesOn_exit, goesOn_ret, cut_exit, cut_ret, cutx_exit, cutx_ret, reduceIte, Nat.reduceEqDiff, reduceCtorEq, Nat.one_ne_zero, Nat.zero_ne_one]
    repeat (first | refine st_ltT rfl rfl rfl rfl rfl rfl (by omega) ?_ | refine st_ltF rfl rfl rfl rfl rfl rfl (by omega) ?_ | refine st_gtF rfl rfl rfl rfl rfl rfl (by omega) ?_ | refine st_neqF rfl rfl rfl rfl rfl rfl (by omega) ?_ | refine st_add rfl rfl rfl rfl rfl rfl (by omega) ?_ | refine st_I rfl rfl rfl rfl rfl ?_ | refine st_B rfl rfl rfl rfl rfl ?_ | refine st_P rfl rfl rfl rfl rfl ?_)
    simp only [EC_seq, EC_region, EC_block, EC_scope, EC_skip, EC_exit, EC_ret, EC_label, EO_nil, ED_nil, after_normal, after_exit, after_ret, leave_normal, leave_exit, leave_ret, goesOn_exit, goesOn_ret, cut_exit, cut_ret, cutx_exit, cutx_ret, reduceIte, Nat.reduceEqDiff, reduceCtorEq, Nat.one_ne_zero, Nat.zero_ne_one]
    rw [EC_cond_false rfl]
    simp only [EC_seq, EC_region, EC_block, EC_scope, EC_skip, EC_exit, EC_ret, EC_label, EO_nil, ED_nil, after_normal, after_exit, after_ret, leave_normal, leave_exit, leave_ret, goesOn_exit, goesOn_ret, cut_exit, cut_ret, cutx_exit, cutx_ret, reduceIte, Nat.reduceEqDiff, reduceCtorEq, Nat.one_ne_zero, Nat.zero_ne_one]
    repeat (first | refine st_ltT rfl rfl rfl rfl rfl rfl (by omega) ?_ | refine st_ltF rfl rfl rfl rfl rfl rfl (by omega) ?_ | refine st_gtF rfl rfl rfl rfl rfl rfl (by omega) ?_ | refine st_neqF rfl rfl rfl rfl rfl rfl (by omega) ?_ | refine st_add rfl rfl rfl rfl rfl rfl (by omega) ?_ | refine st_I rfl rfl rfl rfl rfl ?_ | refine st_B rfl rfl rfl rfl rfl ?_ | refine st_P rfl rfl rfl rfl rfl ?_)
    simp only [EC_seq, EC_region, EC_block, EC_scope, EC_skip, EC_exit, EC_ret, EC_label, EO_nil, ED_nil, after_normal, after_exit, after_ret, leave_normal, leave_exit, leave_ret, goesOn_exit, goesOn_ret, cut_exit, cut_ret, cutx_exit, cutx_ret, reduceIte, Nat.reduceEqDiff, reduceCtorEq, Nat.one_ne_zero, Nat.zero_ne_one]
    exact goOn (j + 1) (by show p.blocks.length - (j + 1) < p.blocks.length - j; omega) ⟨rfl, rfl, rfl, by show Value.int .i64 _ = Value.int .i64 _; congr 1, trivial⟩ ⟨rfl, rfl, rfl, by show j + 1 ≤ p.blocks.length; omega⟩
  have hjB : j = p.blocks.length := Classical.not_not.1 hjB
  have hsmall : ∀ {s : List UInt8}, SmallS 2 s → GK.isSmall s = true := fun hs => small_is (by omega) hs
  have hB1 := hB.ext hx1 (Nat.le_succ n)
  have hO1 := hO.ext hx1 (Nat.le_succ n)
  have hF1 := hFr.ext hx1 (Nat.le_succ n)
  have hE1 := hE.ext hx1 (Nat.le_succ n)
  have hEq1 := hEq.ext hx1 (Nat.le_succ n)
  repeat (first | refine st_ltT rfl rfl rfl rfl rfl rfl (by omega) ?_ | refine st_ltF rfl rfl rfl rfl rfl rfl (by omega) ?_ | refine st_gtF rfl rfl rfl rfl rfl rfl (by omega) ?_ | refine st_neqF rfl rfl rfl rfl rfl rfl (by omega) ?_ | refine st_add rfl rfl rfl rfl rfl rfl (by omega) ?_ | refine st_I rfl rfl rfl rfl rfl ?_ | refine st_B rfl rfl rfl rfl rfl ?_ | refine st_P rfl rfl rfl rfl rfl ?_)
  simp only [EC_seq, EC_region, EC_block, EC_scope, EC_skip, EC_exit, EC_ret, EC_label, EO_nil, ED_nil, after_normal, after_exit, after_ret, leave_normal, leave_exit, leave_ret, goesOn_exit, goesOn_ret, cut_exit, cut_ret, cutx_exit, cutx_ret, reduceIte, Nat.reduceEqDiff, reduceCtorEq, Nat.one_ne_zero, Nat.zero_ne_one]
  rw [EC_cond_false rfl]
  simp only [EC_seq, EC_region, EC_block, EC_scope, EC_skip, EC_exit, EC_ret, EC_label, EO_nil, ED_nil, after_normal, after_exit, after_ret, leave_normal, leave_exit, leave_ret, goesOn_exit, goesOn_ret, cut_exit, cut_ret, cutx_exit, cutx_ret, reduceIte, Nat.reduceEqDiff, reduceCtorEq, Nat.one_ne_zero, Nat.zero_ne_one]
  repeat (first | refine st_ltT rfl rfl rfl rfl rfl rfl (by omega) ?_ | refine st_ltF rfl rfl rfl rfl rfl rfl (by omega) ?_ | refine st_gtF rfl rfl rfl rfl rfl rfl (by omega) ?_ | refine st_neqF rfl rfl rfl rfl rfl rfl (by omega) ?_ | refine st_add rfl rfl rfl rfl rfl rfl (by omega) ?_ | refine st_I rfl rfl rfl rfl rfl ?_ | refine st_B rfl rfl rfl rfl rfl ?_ | refine st_P rfl rfl rfl rfl rfl ?_)
  refine st_load1 rfl rfl rfl rfl rfl rfl hr1 rfl (v := .slice aF p.objFree.length cF) rfl ?_
  repeat (first | refine st_ltT rfl rfl rfl rfl rfl rfl (by omega) ?_ | refine st_ltF rfl rfl rfl rfl rfl rfl (by omega) ?_ | refine st_gtF rfl rfl rfl rfl rfl rfl (by omega) ?_ | refine st_neqF rfl rfl rfl rfl rfl rfl (by omega) ?_ | refine st_add rfl rfl rfl rfl rfl rfl (by omega) ?_ | refine st_I rfl rfl rfl rfl rfl ?_ | refine st_B rfl rfl rfl rfl rfl ?_ | refine st_P rfl rfl rfl rfl rfl ?_)
  refine st_load1 rfl rfl rfl rfl rfl rfl hr1 rfl (v := .int .i64 (p.free : Int)) rfl ?_
  repeat (first | refine st_ltT rfl rfl rfl rfl rfl rfl (by omega) ?_ | refine st_ltF rfl rfl rfl rfl rfl rfl (by omega) ?_ | refine st_gtF rfl rfl rfl rfl rfl rfl (by omega) ?_ | refine st_neqF rfl rfl rfl rfl rfl rfl (by omega) ?_ | refine st_add rfl rfl rfl rfl rfl rfl (by omega) ?_ | refine st_I rfl rfl rfl rfl rfl ?_ | refine st_B rfl rfl rfl rfl rfl ?_ | refine st_P rfl rfl rfl rfl rfl ?_)
  refine st_load1 rfl rfl rfl rfl rfl rfl hr1 rfl (v := .slice aO p.obj.length cO) rfl ?_
  repeat (first | refine st_ltT rfl rfl rfl rfl rfl rfl (by omega) ?_ | refine st_ltF rfl rfl rfl rfl rfl rfl (by omega) ?_ | refine st_gtF rfl rfl rfl rfl rfl rfl (by omega) ?_ | refine st_neqF rfl rfl rfl rfl rfl rfl (by omega) ?_ | refine st_add rfl rfl rfl rfl rfl rfl (by omega) ?_ | refine st_I rfl rfl rfl rfl rfl ?_ | refine st_B rfl rfl rfl rfl rfl ?_ | refine st_P rfl rfl rfl rfl rfl ?_)
  refine st_load1 rfl rfl rfl rfl rfl rfl hr1 rfl (v := .slice aB p.blocks.length cB) rfl ?_
  refine st_vf _ rfl rfl rfl rfl rfl (validList_ok k hG1 (by omega) hO1 hB1 hok.obj.ok hok.obj.asc (by have := hok.objl; omega)) ?_
  rintro _ rfl
  repeat (first | refine st_ltT rfl rfl rfl rfl rfl rfl (by omega) ?_ | refine st_ltF rfl rfl rfl rfl rfl rfl (by omega) ?_ | refine st_gtF rfl rfl rfl rfl rfl rfl (by omega) ?_ | refine st_neqF rfl rfl rfl rfl rfl rfl (by omega) ?_ | refine st_add rfl rfl rfl rfl rfl rfl (by omega) ?_ | refine st_I rfl rfl rfl rfl rfl ?_ | refine st_B rfl rfl rfl rfl rfl ?_ | refine st_P rfl rfl rfl rfl rfl ?_)
  refine st_load1 rfl rfl rfl rfl rfl rfl hr1 rfl (v := .slice aF p.objFree.length cF) rfl ?_
  refine st_vf _ rfl rfl rfl rfl rfl (numbers_ok k hG1 (by omega) hF1 (fun s hs => hsmall (hok.ofs s hs)) (by omega)) ?_
  rintro _ rfl
  repeat (first | refine st_ltT rfl rfl rfl rfl rfl rfl (by omega) ?_ | refine st_ltF rfl rfl rfl rfl rfl rfl (by omega) ?_ | refine st_gtF rfl rfl rfl rfl rfl rfl (by omega) ?_ | refine st_neqF rfl rfl rfl rfl rfl rfl (by omega) ?_ | refine st_add rfl rfl rfl rfl rfl rfl (by omega) ?_ | refine st_I rfl rfl rfl rfl rfl ?_ | refine st_B rfl rfl rfl rfl rfl ?_ | refine st_P rfl rfl rfl rfl rfl ?_)
  simp only [EC_seq, EC_region, EC_block, EC_scope, EC_skip, EC_exit, EC_ret, EC_label, EO_nil, ED_nil, after_normal, after_exit, after_ret, leave_normal, leave_exit, leave_ret, goesOn_exit, goesOn_ret, cut_exit, cut_ret, cutx_exit, cutx_ret, reduceIte, Nat.reduceEqDiff, reduceCtorEq, Nat.one_ne_zero, Nat.zero_ne_one]
  rw [EC_cond_false rfl]
  simp only [EC_seq, EC_region, EC_block, EC_scope, EC_skip, EC_exit, EC_ret, EC_label, EO_nil, ED_nil, after_normal, after_exit, after_ret, leave_normal, leave_exit, leave_ret, goesOn_exit, goesOn_ret, cut_exit, cut_ret, cutx_exit, cutx_ret, reduceIte, Nat.reduceEqDiff, reduceCtorEq, Nat.one_ne_zero, Nat.zero_ne_one]
  repeat (first | refine st_ltT rfl rfl rfl rfl rfl rfl (by omega) ?_ | refine st_ltF rfl rfl rfl rfl rfl rfl (by omega) ?_ | refine st_gtF rfl rfl rfl rfl rfl rfl (by omega) ?_ | refine st_neqF rfl rfl rfl rfl rfl rfl (by omega) ?_ | refine st_add rfl rfl rfl rfl rfl rfl (by omega) ?_ | refine st_I rfl rfl rfl rfl rfl ?_ | refine st_B rfl rfl rfl rfl rfl ?_ | refine st_P rfl rfl rfl rfl rfl ?_)
  refine st_load1 rfl rfl rfl rfl rfl rfl hr1 rfl (v := .slice aE p.eqs.length cE) rfl ?_
  repeat (first | refine st_ltT rfl rfl rfl rfl rfl rfl (by omega) ?_ | refine st_ltF rfl rfl rfl rfl rfl rfl (by omega) ?_ | refine st_gtF rfl rfl rfl rfl rfl rfl (by omega) ?_ | refine st_neqF rfl rfl rfl rfl rfl rfl (by omega) ?_ | refine st_add rfl rfl rfl rfl rfl rfl (by omega) ?_ | refine st_I rfl rfl rfl rfl rfl ?_ | refine st_B rfl rfl rfl rfl rfl ?_ | refine st_P rfl rfl rfl rfl rfl ?_)
  simp only [EC_seq, EC_region, EC_block, EC_scope, EC_skip, EC_exit, EC_ret, EC_label, EO_nil, ED_nil, after_normal, after_exit, after_ret, leave_normal, leave_exit, leave_ret, goesOn_exit, goesOn_ret, cut_exit, cut_ret, cutx_exit, cutx_ret, reduceIte, Nat.reduceEqDiff, reduceCtorEq, Nat.one_ne_zero, Nat.zero_ne_one]
  refine EC_for (α := Nat) (fun j => [(1, .pointer (some ⟨3 * n + 2, 0, none⟩)), (68, .slice aE p.eqs.length cE), (69, .int .i64 (p.eqs.length : Int)), (70, .int .i64 (j : Int))]) (fun j h' n' w => Ext (n + 1) h1 h' ∧ n + 1 ≤ n' ∧ w = [] ∧ j ≤ p.eqs.length) (fun j => p.eqs.length - j) 0 ⟨rfl, rfl, rfl, rfl, trivial⟩ ⟨Ext.refl _ _, Nat.le_refl _, rfl, Nat.zero_le _⟩ (by show p.eqs.length - 0 < LL; unfold LL; omega) ?_
  rintro i t h2 n2 _ ⟨hx2, hn2, rfl, hi⟩
  simp only [EC_seq, EC_region, EC_block, EC_scope, EC_skip, EC_exit, EC_ret, EC_label, EO_nil, ED_nil, after_normal, after_exit, after_ret, leave_normal, leave_exit, leave_ret, goesOn_exit, goesOn_ret, cut_exit, cut_ret, cutx_exit, cutx_ret, reduceIte, Nat.reduceEqDiff, reduceCtorEq, Nat.one_ne_zero, Nat.zero_ne_one]
  by_cases hiE : i = p.eqs.length
  · repeat (first | refine st_ltT rfl rfl rfl rfl rfl rfl (by omega) ?_ | refine st_ltF rfl rfl rfl rfl rfl rfl (by omega) ?_ | refine st_gtF rfl rfl rfl rfl rfl rfl (by omega) ?_ | refine st_neqF rfl rfl rfl rfl rfl rfl (by omega) ?_ | refine st_add rfl rfl rfl rfl rfl rfl (by omega) ?_ | refine st_I rfl rfl rfl rfl rfl ?_ | refine st_B rfl rfl rfl rfl rfl ?_ | refine st_P rfl rfl rfl rfl rfl ?_)
    simp only [EC_seq, EC_region, EC_block, EC_scope, EC_skip, EC_exit, EC_ret, EC_label, EO_nil, ED_nil, after_normal, after_exit, after_ret, leave_normal, leave_exit, leave_ret, goesOn_exit, goesOn_ret, cut_exit, cut_ret, cutx_exit, cutx_ret, reduceIte, Nat.reduceEqDiff, reduceCtorEq, Nat.one_ne_zero, Nat.zero_ne_one]
    rw [EC_cond_false rfl]
    simp only [EC_seq, EC_region, EC_block, EC_scope, EC_skip, EC_exit, EC_ret, EC_label, EO_nil, ED_nil, after_normal, after_exit, after_ret, leave_normal, leave_exit, leave_ret, goesOn_exit, goesOn_ret, cut_exit, cut_ret, cutx_exit, cutx_ret, reduceIte, Nat.reduceEqDiff, reduceCtorEq, Nat.one_ne_zero, Nat.zero_ne_one]
    repeat (first | refine st_ltT rfl rfl rfl rfl rfl rfl (by omega) ?_ | refine st_ltF rfl rfl rfl rfl rfl rfl (by omega) ?_ | refine st_gtF rfl rfl rfl rfl rfl rfl (by omega) ?_ | refine st_neqF rfl rfl rfl rfl rfl rfl (by omega) ?_ | refine st_add rfl rfl rfl rfl rfl rfl (by omega) ?_ | refine st_I rfl rfl rfl rfl rfl ?_ | refine st_B rfl rfl rfl rfl rfl ?_ | refine st_P rfl rfl rfl rfl rfl ?_)
    simp only [EC_seq, EC_region, EC_block, EC_scope, EC_skip, EC_exit, EC_ret, EC_label, EO_nil, ED_nil, after_normal, after_exit, after_ret, leave_normal, leave_exit, leave_ret, goesOn_exit, goesOn_ret, cut_exit, cut_ret, cutx_exit, cutx_ret, reduceIte, Nat.reduceEqDiff, reduceCtorEq, Nat.one_ne_zero, Nat.zero_ne_one]
    exact retF _ rfl (resF_tmp rfl) rfl rfl rfl
  obtain ⟨q, hq⟩ : ∃ q, p.eqs[i]? = some q := ⟨p.eqs[i]'(by omega), List.getElem?_eq_getElem (by omega)⟩
  obtain ⟨q1, q2, q3, q4, q5⟩ := hok.eqo q (List.mem_of_getElem? hq)
  obtain ⟨ve, vf, hce, hve, hvf⟩ := hEq1.get hq
  obtain ⟨ae, le, cce, rfl, _⟩ := hve.len
  obtain ⟨af, lf, ccf, rfl, _⟩ := hvf.len
  have hle := hve.lenEq (m := q.es.length) (by omega) (ents_len _)
  have hlf := hvf.lenEq (m := q.fr.length) (by omega) (by simp [strs])
  subst hle hlf
  obtain ⟨bE, oE, xE, csE, rfl, hbE, hxE, hcE, hcapE, hleE, heE⟩ := hE1.inv (by omega)
  have hcell : (csE.drop (oE + i * 3)).take 3 = [.slice ae q.es.length cce, .slice af q.fr.length ccf, .string ⟨⟨q.rhs⟩⟩] := by rw [take_at heE (by omega), hce]
  have hxE2 : h2 bE = some xE := by rw [hx2 bE hbE]; exact hxE
  repeat (first | refine st_ltT rfl rfl rfl rfl rfl rfl (by omega) ?_ | refine st_ltF rfl rfl rfl rfl rfl rfl (by omega) ?_ | refine st_gtF rfl rfl rfl rfl rfl rfl (by omega) ?_ | refine st_neqF rfl rfl rfl rfl rfl rfl (by omega) ?_ | refine st_add rfl rfl rfl rfl rfl rfl (by omega) ?_ | refine st_I rfl rfl rfl rfl rfl ?_ | refine st_B rfl rfl rfl rfl rfl ?_ | refine st_P rfl rfl rfl rfl rfl ?_)
  simp only [EC_seq, EC_region, EC_block, EC_scope, EC_skip, EC_exit, EC_ret, EC_label, EO_nil, ED_nil, after_normal, after_exit, after_ret, leave_normal, leave_exit, leave_ret, goesOn_exit, goesOn_ret, cut_exit, cut_ret, cutx_exit, cutx_ret, reduceIte, Nat.reduceEqDiff, reduceCtorEq, Nat.one_ne_zero, Nat.zero_ne_one]
  rw [EC_cond_true rfl]
  simp only [EC_seq, EC_region, EC_block, EC_scope, EC_skip, EC_exit, EC_ret, EC_label, EO_nil, ED_nil, after_normal, after_exit, after_ret, leave_normal, leave_exit, leave_ret, goesOn_exit, goesOn_ret, cut_exit, cut_ret, cutx_exit, cutx_ret, reduceIte, Nat.reduceEqDiff, reduceCtorEq, Nat.one_ne_zero, Nat.zero_ne_one]
  refine st_idx rfl rfl rfl rfl rfl rfl rfl rfl (by omega) ?_
  refine st_load (v := .agg #[.slice ae q.es.length cce, .slice af q.fr.length ccf, .string ⟨⟨q.rhs⟩⟩]) rfl rfl rfl rfl rfl (loadn_eq rfl rfl hxE2 hcE (by omega) (by rw [← hcell]; congr 2 <;> omega)) ?_
  refine st_alloc rfl rfl rfl rfl rfl ?_
  refine st_storeW [.slice ae q.es.length cce, .slice af q.fr.length ccf, .string ⟨⟨q.rhs⟩⟩] rfl rfl rfl rfl rfl rfl rfl rfl (upd_same _ _ _) rfl (by show 3 * n ≤ 3 * n2 + 2; omega) ?_
  rw [upd_upd]
  generalize hh : upd h2 (3 * n2 + 2) _ = h3
  have hp3 : ∃ ty, h3 (3 * n2 + 2) = some (.row [.slice ae q.es.length cce, .slice af q.fr.length ccf, .string ⟨⟨q.rhs⟩⟩] ty) := ⟨_, by rw [← hh, upd_same]⟩
  obtain ⟨ty3, hp3⟩ := hp3
  have hx3 : Ext n2 h2 h3 := by rw [← hh]; exact Ext.upd (by omega)
  have hx13 : Ext (n + 1) h1 h3 := hx2.trans hx3 hn2
  have hr3 : h3 (3 * n + 2) = some (.row [.slice aB p.blocks.length cB, .int .i64 (p.free : Int), .slice aO p.obj.length cO, .slice aF p.objFree.length cF, .slice (some ⟨bE, oE, none⟩) p.eqs.length cE] ty1) := by rw [hx13 _ (by omega)]; exact hr1
  have hG3 : GK.G h3 := G_ext hG1 hx13 (by omega)
  simp only [EC_seq, EC_region, EC_block, EC_scope, EC_skip, EC_exit, EC_ret, EC_label, EO_nil, ED_nil, after_normal, after_exit, after_ret, leave_normal, leave_exit, leave_ret, goesOn_exit, goesOn_ret, cut_exit, cut_ret, cutx_exit, cutx_ret, reduceIte, Nat.reduceEqDiff, reduceCtorEq, Nat.one_ne_zero, Nat.zero_ne_one]
  repeat (first | refine st_ltT rfl rfl rfl rfl rfl rfl (by omega) ?_ | refine st_ltF rfl rfl rfl rfl rfl rfl (by omega) ?_ | refine st_gtF rfl rfl rfl rfl rfl rfl (by omega) ?_ | refine st_neqF rfl rfl rfl rfl rfl rfl (by omega) ?_ | refine st_add rfl rfl rfl rfl rfl rfl (by omega) ?_ | refine st_I rfl rfl rfl rfl rfl ?_ | refine st_B rfl rfl rfl rfl rfl ?_ | refine st_P rfl rfl rfl rfl rfl ?_)
  refine st_load1 rfl rfl rfl rfl rfl rfl hp3 rfl (v := .slice af q.fr.length ccf) rfl ?_
  repeat (first | refine st_ltT rfl rfl rfl rfl rfl rfl (by omega) ?_ | refine st_ltF rfl rfl rfl rfl rfl rfl (by omega) ?_ | refine st_gtF rfl rfl rfl rfl rfl rfl (by omega) ?_ | refine st_neqF rfl rfl rfl rfl rfl rfl (by omega) ?_ | refine st_add rfl rfl rfl rfl rfl rfl (by omega) ?_ | refine st_I rfl rfl rfl rfl rfl ?_ | refine st_B rfl rfl rfl rfl rfl ?_ | refine st_P rfl rfl rfl rfl rfl ?_)
  refine st_load1 rfl rfl rfl rfl rfl rfl hr3 rfl (v := .int .i64 (p.free : Int)) rfl ?_
  repeat (first | refine st_ltT rfl rfl rfl rfl rfl rfl (by omega) ?_ | refine st_ltF rfl rfl rfl rfl rfl rfl (by omega) ?_ | refine st_gtF rfl rfl rfl rfl rfl rfl (by omega) ?_ | refine st_neqF rfl rfl rfl rfl rfl rfl (by omega) ?_ | refine st_add rfl rfl rfl rfl rfl rfl (by omega) ?_ | refine st_I rfl rfl rfl rfl rfl ?_ | refine st_B rfl rfl rfl rfl rfl ?_ | refine st_P rfl rfl rfl rfl rfl ?_)
  refine st_load1 rfl rfl rfl rfl rfl rfl hp3 rfl (v := .slice ae q.es.length cce) rfl ?_
  repeat (first | refine st_ltT rfl rfl rfl rfl rfl rfl (by omega) ?_ | refine st_ltF rfl rfl rfl rfl rfl rfl (by omega) ?_ | refine st_gtF rfl rfl rfl rfl rfl rfl (by omega) ?_ | refine st_neqF rfl rfl rfl rfl rfl rfl (by omega) ?_ | refine st_add rfl rfl rfl rfl rfl rfl (by omega) ?_ | refine st_I rfl rfl rfl rfl rfl ?_ | refine st_B rfl rfl rfl rfl rfl ?_ | refine st_P rfl rfl rfl rfl rfl ?_)
  refine st_load1 rfl rfl rfl rfl rfl rfl hr3 rfl (v := .slice aB p.blocks.length cB) rfl ?_
  refine st_vf _ rfl rfl rfl rfl rfl (validList_ok k hG3 (by omega) (hve.ext hx13 (by omega)) (hB1.ext hx13 (by omega)) q1.ok q1.asc (by omega)) ?_
  rintro _ rfl
  repeat (first | refine st_ltT rfl rfl rfl rfl rfl rfl (by omega) ?_ | refine st_ltF rfl rfl rfl rfl rfl rfl (by omega) ?_ | refine st_gtF rfl rfl rfl rfl rfl rfl (by omega) ?_ | refine st_neqF rfl rfl rfl rfl rfl rfl (by omega) ?_ | refine st_add rfl rfl rfl rfl rfl rfl (by omega) ?_ | refine st_I rfl rfl rfl rfl rfl ?_ | refine st_B rfl rfl rfl rfl rfl ?_ | refine st_P rfl rfl rfl rfl rfl ?_)
  refine st_load1 rfl rfl rfl rfl rfl rfl hp3 rfl (v := .slice af q.fr.length ccf) rfl ?_
  refine st_vf _ rfl rfl rfl rfl rfl (numbers_ok k hG3 (by omega) (hvf.ext hx13 (by omega)) (fun s hs => hsmall (q4 s hs)) (by omega)) ?_
  rintro _ rfl
  repeat (first | refine st_ltT rfl rfl rfl rfl rfl rfl (by omega) ?_ | refine st_ltF rfl rfl rfl rfl rfl rfl (by omega) ?_ | refine st_gtF rfl rfl rfl rfl rfl rfl (by omega) ?_ | refine st_neqF rfl rfl rfl rfl rfl rfl (by omega) ?_ | refine st_add rfl rfl rfl rfl rfl rfl (by omega) ?_ | refine st_I rfl rfl rfl rfl rfl ?_ | refine st_B rfl rfl rfl rfl rfl ?_ | refine st_P rfl rfl rfl rfl rfl ?_)
  refine st_load1 rfl rfl rfl rfl rfl rfl hp3 rfl (v := .string ⟨⟨q.rhs⟩⟩) rfl ?_
  refine st_vf _ rfl rfl rfl rfl rfl (rvalid_small (k + 1) hG3 _ (small_is (by omega) q5)) ?_
  rintro _ rfl
  repeat (first | refine st_ltT rfl rfl rfl rfl rfl rfl (by omega) ?_ | refine st_ltF rfl rfl rfl rfl rfl rfl (by omega) ?_ | refine st_gtF rfl rfl rfl rfl rfl rfl (by omega) ?_ | refine st_neqF rfl rfl rfl rfl rfl rfl (by omega) ?_ | refine st_add rfl rfl rfl rfl rfl rfl (by omega) ?_ | refine st_I rfl rfl rfl rfl rfl ?_ | refine st_B rfl rfl rfl rfl rfl ?_ | refine st_P rfl rfl rfl rfl rfl ?_)
  simp only [EC_seq, EC_region, EC_block, EC_scope, EC_skip, EC_exit, EC_ret, EC_label, EO_nil, ED_nil, after_normal, after_exit, after_ret, leave_normal, leave_exit, leave_ret, goesOn_exit, goesOn_ret, cut_exit, cut_ret, cutx_exit, cutx_ret, reduceIte, Nat.reduceEqDiff, reduceCtorEq, Nat.one_ne_zero, Nat.zero_ne_one]
  rw [EC_cond_false rfl]
  simp only [EC_seq, EC_region, EC_block, EC_scope, EC_skip, EC_exit, EC_ret, EC_label, EO_nil, ED_nil, after_normal, after_exit, after_ret, leave_normal, leave_exit, leave_ret, goesOn_exit, goesOn_ret, cut_exit, cut_ret, cutx_exit, cutx_ret, reduceIte, Nat.reduceEqDiff, reduceCtorEq, Nat.one_ne_zero, Nat.zero_ne_one]
  repeat (first | refine st_ltT rfl rfl rfl rfl rfl rfl (by omega) ?_ | refine st_ltF rfl rfl rfl rfl rfl rfl (by omega) ?_ | refine st_gtF rfl rfl rfl rfl rfl rfl (by omega) ?_ | refine st_neqF rfl rfl rfl rfl rfl rfl (by omega) ?_ | refine st_add rfl rfl rfl rfl rfl rfl (by omega) ?_ | refine st_I rfl rfl rfl rfl rfl ?_ | refine st_B rfl rfl rfl rfl rfl ?_ | refine st_P rfl rfl rfl rfl rfl ?_)
  simp only [EC_seq, EC_region, EC_block, EC_scope, EC_skip, EC_exit, EC_ret, EC_label, EO_nil, ED_nil, after_normal, after_exit, after_ret, leave_normal, leave_exit, leave_ret, goesOn_exit, goesOn_ret, cut_exit, cut_ret, cutx_exit, cutx_ret, reduceIte, Nat.reduceEqDiff, reduceCtorEq, Nat.one_ne_zero, Nat.zero_ne_one]
  exact goOn (i + 1) (by show p.eqs.length - (i + 1) < p.eqs.length - i; omega) ⟨rfl, rfl, rfl, by show Value.int .i64 _ = Value.int .i64 _; congr 1, trivial⟩ ⟨hx13, by show n + 1 ≤ n2 + 1; omega, rfl, by show i + 1 ≤ p.eqs.length; omega⟩
end Go.Proofs.YtokfihhdllmbmaaGreatDoor
namespace Go.Proofs.YtokfihhdllmbmaaGreatDoor
open Go Go.GL
/-! Copies. -/
theorem gro_made (n : Nat) : gro (3 * n + 2) = false := by
  unfold gro
  rw [show (3 * n + 2) % 3 = 2 from by omega]
  rfl
/-- An append onto an empty slice that does not grow. -/
theorem append_emp {E : Env} {h : HF} {n : Nat} {sT e : TypeId} {size bytes m b : Nat} {z x : Value} {new : List Value} (hu : E.und sT = some (.slice e)) (hi : E.inf e = some (size, bytes, z)) (hz : (vcells z).length = size) (h1 : 1 ≤ size ∧ 1 ≤ bytes) (hx : argS h size x m new) (hb : m * bytes ≤ 1099511627776) (hg : gro b = false) (hl : new.length = m * size) :
    ∃ v' h' n', appendF E h n sT (.slice (some ⟨b, 0, none⟩) 0 0) x = some (.val v' h' n' []) ∧ n ≤ n' ∧ Ext n h h' ∧ (b < 3 * n → Sl h' n' size v' new) ∧ (∀ lo, lo ≤ n → 3 * lo ≤ b → Fresh lo v') ∧ ∃ a, v' = .slice a m m := by
  obtain ⟨hl', hc⟩ := hx
  have c1 : Nat.ble (m * bytes) 1099511627776 = true := Nat.ble_eq_true_of_le hb
  have c2 : Nat.beq (vcells z).length size = true := by rw [hz]; exact Nat.beq_refl _
  have c3 : Nat.ble 1 size = true := Nat.ble_eq_true_of_le h1.1
  have c4 : Nat.ble 1 bytes = true := Nat.ble_eq_true_of_le h1.2
  by_cases hm : m = 0
  · subst hm
    have hn0 : new = [] := List.length_eq_zero_iff.1 (by rw [hl]; simp)
    subst hn0
    refine ⟨.slice (some ⟨b, 0, none⟩) 0 0, h, n, ?_, Nat.le_refl _, Ext.refl _ _, fun hb => .nil (.inr ⟨_, _, rfl, hb⟩), fun lo _ hlo => hlo, _, rfl⟩
    simp only [appendF, hu, hi, hl', hc, Nat.zero_add, c1, c2, c3, c4, Bool.and_self, show Nat.ble 0 0 = true from rfl, inPlaceF]
  · have c5 : Nat.ble m 0 = false := by
      cases hb : Nat.ble m 0 with
      | false => rfl
      | true => have := Nat.le_of_ble_eq_true hb; omega
    have c6 : argCellsF h size 0 (.slice (some ⟨b, 0, none⟩) 0 0) = some [] := by simp [argCellsF]
    refine ⟨.slice (some ⟨3 * n + 1, 0, none⟩) m m, _, n + 1, ?_, Nat.le_succ _, Ext.upd (b := 3 * n + 1) (x := some (.row new e)) (by omega), fun _ => .at_ (by omega) (upd_same _ _ _) rfl (Nat.le_refl _) (by omega) (by rw [List.drop_zero, List.take_of_length_le (by omega)]), fun lo hlo _ => by show 3 * lo ≤ 3 * n + 1; omega, _, rfl⟩
    simp only [appendF, hu, hi, hl', hc, Nat.zero_add, c1, c2, c3, c4, c5, c6, Bool.and_self, growF, hg, List.nil_append]
set_option maxHeartbeats 1000000
theorem clone_int (k : Nat) {h : HF} {n : Nat} {a : Option Addr} {len cap : Nat} {c : List Value} (hs : Sl h n 1 (.slice a len cap) c) (hl : len < 1000000) : CF (cal (k + 1)) 84 [.slice a len cap] h n fun v h' n' w => w = [] ∧ n ≤ n' ∧ Ext n h h' ∧ Sl h' n' 1 v c ∧ Fresh n v ∧ ∃ a' c', v = .slice a' len c' := by
  refine CF_heap (fn := Tryz.f84) rfl rfl rfl rfl ?_
  have hcl : c.length = len * 1 := by
    obtain ⟨a', len', cap', e, hl⟩ := hs.len
    injection e with e1 e2 e3
    subst e2
    exact hl
  simp only [EC_seq, EC_region, EC_block, EC_scope, EC_skip, EC_exit, EC_ret, EC_label, EO_nil, ED_nil, after_normal, after_exit, after_ret, leave_normal, leave_exit, leave_ret, goesOn_exit, goesOn_ret, cut_exit, cut_ret, cutx_exit, cutx_ret, reduceIte, Nat.reduceEqDiff, reduceCtorEq, Nat.one_ne_zero, Nat.zero_ne_one]
  repeat (first | refine st_B rfl rfl rfl rfl rfl ?_ | refine st_S rfl rfl rfl rfl rfl ?_)
  simp only [EC_seq, EC_region, EC_block, EC_scope, EC_skip, EC_exit, EC_ret, EC_label, EO_nil, ED_nil, after_normal, after_exit, after_ret, leave_normal, leave_exit, leave_ret, goesOn_exit, goesOn_ret, cut_exit, cut_ret, cutx_exit, cutx_ret, reduceIte, Nat.reduceEqDiff, reduceCtorEq, Nat.one_ne_zero, Nat.zero_ne_one]
  repeat (first | refine st_B rfl rfl rfl rfl rfl ?_ | refine st_S rfl rfl rfl rfl rfl ?_)
  rcases hs.addr with rfl | ⟨b, off, rfl⟩
  · have hl0 : len = 0 := by
      apply Classical.byContradiction
      intro h0
      obtain ⟨b, off, x, cs, e, _⟩ := hs.inv h0
      cases e
    subst hl0
    have hc0 : c = [] := List.length_eq_zero_iff.1 (by rw [hcl])
    subst hc0
    simp only [EC_seq, EC_region, EC_block, EC_scope, EC_skip, EC_exit, EC_ret, EC_label, EO_nil, ED_nil, after_normal, after_exit, after_ret, leave_normal, leave_exit, leave_ret, goesOn_exit, goesOn_ret, cut_exit, cut_ret, cutx_exit, cutx_ret, reduceIte, Nat.reduceEqDiff, reduceCtorEq, Nat.one_ne_zero, Nat.zero_ne_one]
    rw [EC_cond_true rfl]
    simp only [EC_seq, EC_region, EC_block, EC_scope, EC_skip, EC_exit, EC_ret, EC_label, EO_nil, ED_nil, after_normal, after_exit, after_ret, leave_normal, leave_exit, leave_ret, goesOn_exit, goesOn_ret, cut_exit, cut_ret, cutx_exit, cutx_ret, reduceIte, Nat.reduceEqDiff, reduceCtorEq, Nat.one_ne_zero, Nat.zero_ne_one]
    repeat (first | refine st_B rfl rfl rfl rfl rfl ?_ | refine st_S rfl rfl rfl rfl rfl ?_)
    simp only [EC_seq, EC_region, EC_block, EC_scope, EC_skip, EC_exit, EC_ret, EC_label, EO_nil, ED_nil, after_normal, after_exit, after_ret, leave_normal, leave_exit, leave_ret, goesOn_exit, goesOn_ret, cut_exit, cut_ret, cutx_exit, cutx_ret, reduceIte, Nat.reduceEqDiff, reduceCtorEq, Nat.one_ne_zero, Nat.zero_ne_one]
    exact retH _ rfl (resF_tmp rfl) rfl ⟨rfl, Nat.le_refl _, Ext.refl _ _, .nil (.inl rfl), trivial, _, _, rfl⟩
  · simp only [EC_seq, EC_region, EC_block, EC_scope, EC_skip, EC_exit, EC_ret, EC_label, EO_nil, ED_nil, after_normal, after_exit, after_ret, leave_normal, leave_exit, leave_ret, goesOn_exit, goesOn_ret, cut_exit, cut_ret, cutx_exit, cutx_ret, reduceIte, Nat.reduceEqDiff, reduceCtorEq, Nat.one_ne_zero, Nat.zero_ne_one]
    rw [EC_cond_false rfl]
    simp only [EC_seq, EC_region, EC_block, EC_scope, EC_skip, EC_exit, EC_ret, EC_label, EO_nil, ED_nil, after_normal, after_exit, after_ret, leave_normal, leave_exit, leave_ret, goesOn_exit, goesOn_ret, cut_exit, cut_ret, cutx_exit, cutx_ret, reduceIte, Nat.reduceEqDiff, reduceCtorEq, Nat.one_ne_zero, Nat.zero_ne_one]
    refine st_mks (cs := []) rfl rfl rfl rfl rfl ?_
    repeat (first | refine st_B rfl rfl rfl rfl rfl ?_ | refine st_S rfl rfl rfl rfl rfl ?_)
    obtain ⟨v', h', n', g1, g2, g3, g4, g5, a', rfl⟩ := append_emp (E := env) (h := upd h (3 * n + 2) (some (.row [] 3))) (n := n + 1) (sT := 22) (b := 3 * n + 2) rfl rfl rfl (by decide) (argS_sl (hs.ext (Ext.upd (by omega)) (Nat.le_succ n))) (by omega) (gro_made n) hcl
    refine st_append rfl rfl rfl rfl rfl g1 ?_
    repeat (first | refine st_B rfl rfl rfl rfl rfl ?_ | refine st_S rfl rfl rfl rfl rfl ?_)
    simp only [EC_seq, EC_region, EC_block, EC_scope, EC_skip, EC_exit, EC_ret, EC_label, EO_nil, ED_nil, after_normal, after_exit, after_ret, leave_normal, leave_exit, leave_ret, goesOn_exit, goesOn_ret, cut_exit, cut_ret, cutx_exit, cutx_ret, reduceIte, Nat.reduceEqDiff, reduceCtorEq, Nat.one_ne_zero, Nat.zero_ne_one]
    exact retH _ rfl (resF_tmp rfl) rfl ⟨rfl, by show n ≤ n'; omega, (Ext.upd (by omega)).trans g3 (Nat.le_succ n), g4 (by omega), g5 n (Nat.le_succ n) (by omega), _, _, rfl⟩
theorem clone_ent (k : Nat) {h : HF} {n : Nat} {a : Option Addr} {len cap : Nat} {c : List Value} (hs : Sl h n 4 (.slice a len cap) c) (hl : len < 1000000) : CF (cal (k + 1)) 85 [.slice a len cap] h n fun v h' n' w => w = [] ∧ n ≤ n' ∧ Ext n h h' ∧ Sl h' n' 4 v c ∧ Fresh n v ∧ ∃ a' c', v = .slice a' len c' := by
  refine CF_heap (fn := Tryz.f85) rfl rfl rfl rfl ?_
  have hcl : c.length = len * 4 := by
    obtain ⟨a', len', cap', e, hl⟩ := hs.len
    injection e with e1 e2 e3
    subst e2
    exact hl
  simp only [EC_seq, EC_region, EC_block, EC_scope, EC_skip, EC_exit, EC_ret, EC_label, EO_nil, ED_nil, after_normal, after_exit, after_ret, leave_normal, leave_exit, leave_ret, goesOn_exit, goesOn_ret, cut_exit, cut_ret, cutx_exit, cutx_ret, reduceIte, Nat.reduceEqDiff, reduceCtorEq, Nat.one_ne_zero, Nat.zero_ne_one]
  repeat (first | refine st_B rfl rfl rfl rfl rfl ?_ | refine st_S rfl rfl rfl rfl rfl ?_)
  simp only [EC_seq, EC_region, EC_block, EC_scope, EC_skip, EC_exit, EC_ret, EC_label, EO_nil, ED_nil, after_normal, after_exit, after_ret, leave_normal, leave_exit, leave_ret, goesOn_exit, goesOn_ret, cut_exit, cut_ret, cutx_exit, cutx_ret, reduceIte, Nat.reduceEqDiff, reduceCtorEq, Nat.one_ne_zero, Nat.zero_ne_one]
  repeat (first | refine st_B rfl rfl rfl rfl rfl ?_ | refine st_S rfl rfl rfl rfl rfl ?_)
  rcases hs.addr with rfl | ⟨b, off, rfl⟩
  · have hl0 : len = 0 := by
      apply Classical.byContradiction
      intro h0
      obtain ⟨b, off, x, cs, e, _⟩ := hs.inv h0
      cases e
    subst hl0
    have hc0 : c = [] := List.length_eq_zero_iff.1 (by rw [hcl])
    subst hc0
    simp only [EC_seq, EC_region, EC_block, EC_scope, EC_skip, EC_exit, EC_ret, EC_label, EO_nil, ED_nil, after_normal, after_exit, after_ret, leave_normal, leave_exit, leave_ret, goesOn_exit, goesOn_ret, cut_exit, cut_ret, cutx_exit, cutx_ret, reduceIte, Nat.reduceEqDiff, reduceCtorEq, Nat.one_ne_zero, Nat.zero_ne_one]
    rw [EC_cond_true rfl]
    simp only [EC_seq, EC_region, EC_block, EC_scope, EC_skip, EC_exit, EC_ret, EC_label, EO_nil, ED_nil, after_normal, after_exit, after_ret, leave_normal, leave_exit, leave_ret, goesOn_exit, goesOn_ret, cut_exit, cut_ret, cutx_exit, cutx_ret, reduceIte, Nat.reduceEqDiff, reduceCtorEq, Nat.one_ne_zero, Nat.zero_ne_one]
    repeat (first | refine st_B rfl rfl rfl rfl rfl ?_ | refine st_S rfl rfl rfl rfl rfl ?_)
    simp only [EC_seq, EC_region, EC_block, EC_scope, EC_skip, EC_exit, EC_ret, EC_label, EO_nil, ED_nil, after_normal, after_exit, after_ret, leave_normal, leave_exit, leave_ret, goesOn_exit, goesOn_ret, cut_exit, cut_ret, cutx_exit, cutx_ret, reduceIte, Nat.reduceEqDiff, reduceCtorEq, Nat.one_ne_zero, Nat.zero_ne_one]
    exact retH _ rfl (resF_tmp rfl) rfl ⟨rfl, Nat.le_refl _, Ext.refl _ _, .nil (.inl rfl), trivial, _, _, rfl⟩
  · simp only [EC_seq, EC_region, EC_block, EC_scope, EC_skip, EC_exit, EC_ret, EC_label, EO_nil, ED_nil, after_normal, after_exit, after_ret, leave_normal, leave_exit, leave_ret, goesOn_exit, goesOn_ret, cut_exit, cut_ret, cutx_exit, cutx_ret, reduceIte, Nat.reduceEqDiff, reduceCtorEq, Nat.one_ne_zero, Nat.zero_ne_one]
    rw [EC_cond_false rfl]
    simp only [EC_seq, EC_region, EC_block, EC_scope, EC_skip, EC_exit, EC_ret, EC_label, EO_nil, ED_nil, after_normal, after_exit, after_ret, leave_normal, leave_exit, leave_ret, goesOn_exit, goesOn_ret, cut_exit, cut_ret, cutx_exit, cutx_ret, reduceIte, Nat.reduceEqDiff, reduceCtorEq, Nat.one_ne_zero, Nat.zero_ne_one]
    refine st_mks (cs := []) rfl rfl rfl rfl rfl ?_
    repeat (first | refine st_B rfl rfl rfl rfl rfl ?_ | refine st_S rfl rfl rfl rfl rfl ?_)
    obtain ⟨v', h', n', g1, g2, g3, g4, g5, a', rfl⟩ := append_emp (E := env) (h := upd h (3 * n + 2) (some (.row [] 37))) (n := n + 1) (sT := 23) (b := 3 * n + 2) rfl rfl rfl (by decide) (argS_sl (hs.ext (Ext.upd (by omega)) (Nat.le_succ n))) (by omega) (gro_made n) hcl
    refine st_append rfl rfl rfl rfl rfl g1 ?_
    repeat (first | refine st_B rfl rfl rfl rfl rfl ?_ | refine st_S rfl rfl rfl rfl rfl ?_)
    simp only [EC_seq, EC_region, EC_block, EC_scope, EC_skip, EC_exit, EC_ret, EC_label, EO_nil, ED_nil, after_normal, after_exit, after_ret, leave_normal, leave_exit, leave_ret, goesOn_exit, goesOn_ret, cut_exit, cut_ret, cutx_exit, cutx_ret, reduceIte, Nat.reduceEqDiff, reduceCtorEq, Nat.one_ne_zero, Nat.zero_ne_one]
    exact retH _ rfl (resF_tmp rfl) rfl ⟨rfl, by show n ≤ n'; omega, (Ext.upd (by omega)).trans g3 (Nat.le_succ n), g4 (by omega), g5 n (Nat.le_succ n) (by omega), _, _, rfl⟩
theorem clone_str (k : Nat) {h : HF} {n : Nat} {a : Option Addr} {len cap : Nat} {c : List Value} (hs : Sl h n 1 (.slice a len cap) c) (hl : len < 1000000) : CF (cal (k + 1)) 86 [.slice a len cap] h n fun v h' n' w => w = [] ∧ n ≤ n' ∧ Ext n h h' ∧ Sl h' n' 1 v c ∧ Fresh n v ∧ ∃ a' c', v = .slice a' len c' := by
  refine CF_heap (fn := Tryz.f86) rfl rfl rfl rfl ?_
  have hcl : c.length = len * 1 := by
    obtain ⟨a', len', cap', e, hl⟩ := hs.len
    injection e with e1 e2 e3
    subst e2
    exact hl
  simp only [EC_seq, EC_region, EC_block, EC_scope, EC_skip, EC_exit, EC_ret, EC_label, EO_nil, ED_nil, after_normal, after_exit, after_ret, leave_normal, leave_exit, leave_ret, goesOn_exit, goesOn_ret, cut_exit, cut_ret, cutx_exit, cutx_ret, reduceIte, Nat.reduceEqDiff, reduceCtorEq, Nat.one_ne_zero, Nat.zero_ne_one]
  repeat (first | refine st_B rfl rfl rfl rfl rfl ?_ | refine st_S rfl rfl rfl rfl rfl ?_)
  simp only [EC_seq, EC_region, EC_block, EC_scope, EC_skip, EC_exit, EC_ret, EC_label, EO_nil, ED_nil, after_normal, after_exit, after_ret, leave_normal, leave_exit, leave_ret, goesOn_exit, goesOn_ret, cut_exit, cut_ret, cutx_exit, cutx_ret, reduceIte, Nat.reduceEqDiff, reduceCtorEq, Nat.one_ne_zero, Nat.zero_ne_one]
  repeat (first | refine st_B rfl rfl rfl rfl rfl ?_ | refine st_S rfl rfl rfl rfl rfl ?_)
  rcases hs.addr with rfl | ⟨b, off, rfl⟩
  · have hl0 : len = 0 := by
      apply Classical.byContradiction
      intro h0
      obtain ⟨b, off, x, cs, e, _⟩ := hs.inv h0
      cases e
    subst hl0
    have hc0 : c = [] := List.length_eq_zero_iff.1 (by rw [hcl])
    subst hc0
    simp only [EC_seq, EC_region, EC_block, EC_scope, EC_skip, EC_exit, EC_ret, EC_label, EO_nil, ED_nil, after_normal, after_exit, after_ret, leave_normal, leave_exit, leave_ret, goesOn_exit, goesOn_ret, cut_exit, cut_ret, cutx_exit, cutx_ret, reduceIte, Nat.reduceEqDiff, reduceCtorEq, Nat.one_ne_zero, Nat.zero_ne_one]
    rw [EC_cond_true rfl]
    simp only [EC_seq, EC_region, EC_block, EC_scope, EC_skip, EC_exit, EC_ret, EC_label, EO_nil, ED_nil, after_normal, after_exit, after_ret, leave_normal, leave_exit, leave_ret, goesOn_exit, goesOn_ret, cut_exit, cut_ret, cutx_exit, cutx_ret, reduceIte, Nat.reduceEqDiff, reduceCtorEq, Nat.one_ne_zero, Nat.zero_ne_one]
    repeat (first | refine st_B rfl rfl rfl rfl rfl ?_ | refine st_S rfl rfl rfl rfl rfl ?_)
    simp only [EC_seq, EC_region, EC_block, EC_scope, EC_skip, EC_exit, EC_ret, EC_label, EO_nil, ED_nil, after_normal, after_exit, after_ret, leave_normal, leave_exit, leave_ret, goesOn_exit, goesOn_ret, cut_exit, cut_ret, cutx_exit, cutx_ret, reduceIte, Nat.reduceEqDiff, reduceCtorEq, Nat.one_ne_zero, Nat.zero_ne_one]
    exact retH _ rfl (resF_tmp rfl) rfl ⟨rfl, Nat.le_refl _, Ext.refl _ _, .nil (.inl rfl), trivial, _, _, rfl⟩
  · simp only [EC_seq, EC_region, EC_block, EC_scope, EC_skip, EC_exit, EC_ret, EC_label, EO_nil, ED_nil, after_normal, after_exit, after_ret, leave_normal, leave_exit, leave_ret, goesOn_exit, goesOn_ret, cut_exit, cut_ret, cutx_exit, cutx_ret, reduceIte, Nat.reduceEqDiff, reduceCtorEq, Nat.one_ne_zero, Nat.zero_ne_one]
    rw [EC_cond_false rfl]
    simp only [EC_seq, EC_region, EC_block, EC_scope, EC_skip, EC_exit, EC_ret, EC_label, EO_nil, ED_nil, after_normal, after_exit, after_ret, leave_normal, leave_exit, leave_ret, goesOn_exit, goesOn_ret, cut_exit, cut_ret, cutx_exit, cutx_ret, reduceIte, Nat.reduceEqDiff, reduceCtorEq, Nat.one_ne_zero, Nat.zero_ne_one]
    refine st_mks (cs := []) rfl rfl rfl rfl rfl ?_
    repeat (first | refine st_B rfl rfl rfl rfl rfl ?_ | refine st_S rfl rfl rfl rfl rfl ?_)
    obtain ⟨v', h', n', g1, g2, g3, g4, g5, a', rfl⟩ := append_emp (E := env) (h := upd h (3 * n + 2) (some (.row [] 9))) (n := n + 1) (sT := 24) (b := 3 * n + 2) rfl rfl rfl (by decide) (argS_sl (hs.ext (Ext.upd (by omega)) (Nat.le_succ n))) (by omega) (gro_made n) hcl
    refine st_append rfl rfl rfl rfl rfl g1 ?_
    repeat (first | refine st_B rfl rfl rfl rfl rfl ?_ | refine st_S rfl rfl rfl rfl rfl ?_)
    simp only [EC_seq, EC_region, EC_block, EC_scope, EC_skip, EC_exit, EC_ret, EC_label, EO_nil, ED_nil, after_normal, after_exit, after_ret, leave_normal, leave_exit, leave_ret, goesOn_exit, goesOn_ret, cut_exit, cut_ret, cutx_exit, cutx_ret, reduceIte, Nat.reduceEqDiff, reduceCtorEq, Nat.one_ne_zero, Nat.zero_ne_one]
    exact retH _ rfl (resF_tmp rfl) rfl ⟨rfl, by show n ≤ n'; omega, (Ext.upd (by omega)).trans g3 (Nat.le_succ n), g4 (by omega), g5 n (Nat.le_succ n) (by omega), _, _, rfl⟩
/-- A copy of an equation. -/
theorem copyEquation_ok (k : Nat) {h : HF} {n : Nat} {ve vf : Value} {q : Eqn} (h1 : Sl h n 4 ve (ents q.es)) (h2 : Sl h n 1 vf (strs q.fr)) (hb : q.es.length < 1000000 ∧ q.fr.length < 1000000) : CF (cal (k + 2)) 87 [.agg #[ve, vf, .string ⟨⟨q.rhs⟩⟩]] h n fun v h' n' w => w = [] ∧ n ≤ n' ∧ Ext n h h' ∧ ∃ ae ce af cf, v = .agg #[.slice ae q.es.length ce, .slice af q.fr.length cf, .string ⟨⟨q.rhs⟩⟩] ∧ Sl h' n' 4 (.slice ae q.es.length ce) (ents q.es) ∧ Sl h' n' 1 (.slice af q.fr.length cf) (strs q.fr) ∧ Fresh n (.slice ae q.es.length ce) ∧ Fresh n (.slice af q.fr.length cf) := by
  refine CF_heap (fn := Tryz.f87) rfl rfl rfl rfl ?_
  obtain ⟨a1, l1, c1, rfl, _⟩ := h1.len
  obtain ⟨a2, l2, c2, rfl, _⟩ := h2.len
  have e1 := h1.lenEq (m := q.es.length) (by omega) (ents_len _)
  have e2 := h2.lenEq (m := q.fr.length) (by omega) (by simp [strs])
  subst e1 e2
  simp only [EC_seq, EC_region, EC_block, EC_scope, EC_skip, EC_exit, EC_ret, EC_label, EO_nil, ED_nil, after_normal, after_exit, after_ret, leave_normal, leave_exit, leave_ret, goesOn_exit, goesOn_ret, cut_exit, cut_ret, cutx_exit, cutx_ret, reduceIte, Nat.reduceEqDiff, reduceCtorEq, Nat.one_ne_zero, Nat.zero_ne_one]
  refine st_mkp (cs := [.slice a1 q.es.length c1, .slice a2 q.fr.length c2, .string ⟨⟨q.rhs⟩⟩]) rfl rfl rfl rfl rfl ?_
  refine st_alloc rfl rfl rfl rfl rfl ?_
  generalize hh : upd (upd h (3 * n + 2) _) (3 * (n + 1) + 2) _ = h3
  have hb1 : ∃ ty, h3 (3 * n + 2) = some (.row [.slice a1 q.es.length c1, .slice a2 q.fr.length c2, .string ⟨⟨q.rhs⟩⟩] ty) := ⟨_, by rw [← hh, upd_ne (by omega), upd_same]⟩
  have hb2 : ∃ ty, h3 (3 * (n + 1) + 2) = some (.row [.slice none 0 0, .slice none 0 0, .string ⟨⟨[]⟩⟩] ty) := ⟨_, by rw [← hh, upd_same]; rfl⟩
  obtain ⟨t1, hb1⟩ := hb1
  obtain ⟨t2, hb2⟩ := hb2
  have hx3 : Ext n h h3 := fun b hb => by rw [← hh, upd_ne (by omega), upd_ne (by omega)]
  simp only [EC_seq, EC_region, EC_block, EC_scope, EC_skip, EC_exit, EC_ret, EC_label, EO_nil, ED_nil, after_normal, after_exit, after_ret, leave_normal, leave_exit, leave_ret, goesOn_exit, goesOn_ret, cut_exit, cut_ret, cutx_exit, cutx_ret, reduceIte, Nat.reduceEqDiff, reduceCtorEq, Nat.one_ne_zero, Nat.zero_ne_one]
  refine EC_draw [0, 1, 3, 0, 8, 31, 0, 64, 255, 511] rfl ?_
  repeat (refine dr_P rfl rfl rfl rfl rfl ?_)
  refine dr_load rfl rfl rfl rfl rfl rfl (load1_eq rfl hb1 rfl (v := .slice a1 q.es.length c1) rfl) rfl rfl ?_
  refine dr_call _ rfl rfl rfl rfl rfl rfl rfl (clone_ent k (h1.ext hx3 (show n ≤ n + 1 + 1 by omega)) hb.1) ?_
  rintro _ h4 n4 _ ⟨rfl, hn4, hx4, hs4, hf4, a4, c4, rfl⟩
  refine ⟨okLoads_nil, hn4, ?_⟩
  repeat (refine dr_P rfl rfl rfl rfl rfl ?_)
  refine dr_load rfl rfl rfl rfl rfl rfl (load1_eq rfl hb1 rfl (v := .slice a2 q.fr.length c2) rfl) (okEffsF_nil (by simp)) rfl ?_
  refine dr_call _ rfl rfl rfl rfl rfl rfl rfl (clone_str k (h2.ext (hx3.trans (hx4.mono (show n + 1 + 1 ≤ n + 1 + 1 by omega)) (show n ≤ n + 1 + 1 by omega)) (show n ≤ n4 by omega)) hb.2) ?_
  rintro _ h5 n5 _ ⟨rfl, hn5, hx5, hs5, hf5, a5, c5, rfl⟩
  refine ⟨okLoads_nil, hn5, ?_⟩
  repeat (refine dr_P rfl rfl rfl rfl rfl ?_)
  refine dr_load rfl rfl rfl rfl rfl rfl (load1_eq rfl hb1 rfl (v := .string ⟨⟨q.rhs⟩⟩) rfl) (okEffsF_nil (by simp)) rfl ?_
  refine dr_val (v := .agg #[.slice a4 q.es.length c4, .slice a5 q.fr.length c5, .string ⟨⟨q.rhs⟩⟩]) rfl rfl rfl rfl rfl ?_
  have hb5 : h5 (3 * (n + 1) + 2) = some (.row [.slice none 0 0, .slice none 0 0, .string ⟨⟨[]⟩⟩] t2) := by rw [hx5 _ (by omega), hx4 _ (by omega)]; exact hb2
  refine dr_storeN (cs := [.slice a4 q.es.length c4, .slice a5 q.fr.length c5, .string ⟨⟨q.rhs⟩⟩]) rfl rfl rfl rfl rfl rfl rfl rfl hb5 (Nat.le_of_ble_eq_true rfl) (by show 3 * n ≤ 3 * (n + 1) + 2; omega) rfl rfl rfl ?_
  simp only [EC_seq, EC_region, EC_block, EC_scope, EC_skip, EC_exit, EC_ret, EC_label, EO_nil, ED_nil, after_normal, after_exit, after_ret, leave_normal, leave_exit, leave_ret, goesOn_exit, goesOn_ret, cut_exit, cut_ret, cutx_exit, cutx_ret, reduceIte, Nat.reduceEqDiff, reduceCtorEq, Nat.one_ne_zero, Nat.zero_ne_one]
  exact retCell rfl rfl rfl rfl rfl (upd_same _ _ _) rfl ⟨rfl, by show n ≤ n5; omega, fun b hb => by rw [upd_ne (by omega), hx5 b (by omega), hx4 b (by omega), hx3 b hb], _, _, _, _, rfl, (hs4.ext hx5 hn5).old (m := n + 1 + 1) hf4 (by omega), hs5.old (m := n4) hf5 (by omega), hf4.mono (by omega), hf5.mono (by omega)⟩
end Go.Proofs.YtokfihhdllmbmaaGreatDoor
namespace Go.Proofs.YtokfihhdllmbmaaGreatDoor
open Go Go.GL
/-! Package sosoptref25: equal data. -/
theorem neq_self (e : Ent) : binE env .neq 37 (.agg (entC e).toArray) (.agg (entC e).toArray) = some (.bool false) := by
  have h1 : ∀ x : Int, x1 x x = true := fun x => by rw [x1_eq]; simp
  have h2 : ∀ l : List UInt8, (l == l) = true := fun l => by simp
  show aggE env .neq 37 (entC e) (entC e) = _
  show (match (match some (x1 e.b e.b) with | some true => (match some (x1 e.r e.r) with | some true => (match some (x1 e.c e.c) with | some true => (match some (e.v == e.v) with | some true => some true | some false => some false | none => none) | some false => some false | none => none) | some false => some false | none => none) | some false => some false | none => none : Option Bool) with | some v => some (Value.bool (!v)) | none => none) = _
  rw [h1, h1, h1, h2]
  rfl
set_option maxHeartbeats 2000000
theorem sameInts_ok (k : Nat) {h : HF} {n : Nat} {a1 a2 : Option Addr} {l1 c1 l2 c2 : Nat} {L : List Int} (s1 : Sl h n 1 (.slice a1 l1 c1) (i64s L)) (s2 : Sl h n 1 (.slice a2 l2 c2) (i64s L)) (hb : L.length < 1000000) : VF (cal (k + 1)) 54 [.slice a1 l1 c1, .slice a2 l2 c2] h n fun v => v = .bool true := by
  refine CF_flat (fn := Tryz.f54) rfl rfl rfl rfl ?_
  have e1 := s1.lenEq (m := L.length) (by omega) (by simp [i64s])
  have e2 := s2.lenEq (m := L.length) (by omega) (by simp [i64s])
  subst e1 e2
  simp only [EC_seq, EC_region, EC_block, EC_scope, EC_skip, EC_exit, EC_ret, EC_label, EO_nil, ED_nil, after_normal, after_exit, after_ret, leave_normal, leave_exit, leave_ret, goesOn_exit, goesOn_ret, cut_exit, cut_ret, cutx_exit, cutx_ret, reduceIte, Nat.reduceEqDiff, reduceCtorEq, Nat.one_ne_zero, Nat.zero_ne_one]
  repeat (first | refine st_ltT rfl rfl rfl rfl rfl rfl (by omega) ?_ | refine st_ltF rfl rfl rfl rfl rfl rfl (by omega) ?_ | refine st_neqF rfl rfl rfl rfl rfl rfl (by omega) ?_ | refine st_add rfl rfl rfl rfl rfl rfl (by omega) ?_ | refine st_I rfl rfl rfl rfl rfl ?_ | refine st_B rfl rfl rfl rfl rfl ?_ | refine st_S rfl rfl rfl rfl rfl ?_)
  simp only [EC_seq, EC_region, EC_block, EC_scope, EC_skip, EC_exit, EC_ret, EC_label, EO_nil, ED_nil, after_normal, after_exit, after_ret, leave_normal, leave_exit, leave_ret, goesOn_exit, goesOn_ret, cut_exit, cut_ret, cutx_exit, cutx_ret, reduceIte, Nat.reduceEqDiff, reduceCtorEq, Nat.one_ne_zero, Nat.zero_ne_one]
  repeat (first | refine st_ltT rfl rfl rfl rfl rfl rfl (by omega) ?_ | refine st_ltF rfl rfl rfl rfl rfl rfl (by omega) ?_ | refine st_neqF rfl rfl rfl rfl rfl rfl (by omega) ?_ | refine st_add rfl rfl rfl rfl rfl rfl (by omega) ?_ | refine st_I rfl rfl rfl rfl rfl ?_ | refine st_B rfl rfl rfl rfl rfl ?_ | refine st_S rfl rfl rfl rfl rfl ?_)
  simp only [EC_seq, EC_region, EC_block, EC_scope, EC_skip, EC_exit, EC_ret, EC_label, EO_nil, ED_nil, after_normal, after_exit, after_ret, leave_normal, leave_exit, leave_ret, goesOn_exit, goesOn_ret, cut_exit, cut_ret, cutx_exit, cutx_ret, reduceIte, Nat.reduceEqDiff, reduceCtorEq, Nat.one_ne_zero, Nat.zero_ne_one]
  rw [EC_cond_false rfl]
  simp only [EC_seq, EC_region, EC_block, EC_scope, EC_skip, EC_exit, EC_ret, EC_label, EO_nil, ED_nil, after_normal, after_exit, after_ret, leave_normal, leave_exit, leave_ret, goesOn_exit, goesOn_ret, cut_exit, cut_ret, cutx_exit, cutx_ret, reduceIte, Nat.reduceEqDiff, reduceCtorEq, Nat.one_ne_zero, Nat.zero_ne_one]
  repeat (first | refine st_ltT rfl rfl rfl rfl rfl rfl (by omega) ?_ | refine st_ltF rfl rfl rfl rfl rfl rfl (by omega) ?_ | refine st_neqF rfl rfl rfl rfl rfl rfl (by omega) ?_ | refine st_add rfl rfl rfl rfl rfl rfl (by omega) ?_ | refine st_I rfl rfl rfl rfl rfl ?_ | refine st_B rfl rfl rfl rfl rfl ?_ | refine st_S rfl rfl rfl rfl rfl ?_)
  simp only [EC_seq, EC_region, EC_block, EC_scope, EC_skip, EC_exit, EC_ret, EC_label, EO_nil, ED_nil, after_normal, after_exit, after_ret, leave_normal, leave_exit, leave_ret, goesOn_exit, goesOn_ret, cut_exit, cut_ret, cutx_exit, cutx_ret, reduceIte, Nat.reduceEqDiff, reduceCtorEq, Nat.one_ne_zero, Nat.zero_ne_one]
  refine EC_for (α := Nat) (fun j => [(0, .slice a1 L.length c1), (1, .slice a2 L.length c2), (12, .int .i64 (L.length : Int)), (13, .int .i64 (j : Int))]) (fun j h' n' w => h = h' ∧ n = n' ∧ w = [] ∧ j ≤ L.length) (fun j => L.length - j) 0 ⟨rfl, rfl, rfl, rfl, trivial⟩ ⟨rfl, rfl, rfl, Nat.zero_le _⟩ (by show L.length - 0 < LL; unfold LL; omega) ?_
  rintro j t _ _ _ ⟨rfl, rfl, rfl, hj⟩
  simp only [EC_seq, EC_region, EC_block, EC_scope, EC_skip, EC_exit, EC_ret, EC_label, EO_nil, ED_nil, after_normal, after_exit, after_ret, leave_normal, leave_exit, leave_ret, goesOn_exit, goesOn_ret, cut_exit, cut_ret, cutx_exit, cutx_ret, reduceIte, Nat.reduceEqDiff, reduceCtorEq, Nat.one_ne_zero, Nat.zero_ne_one]
  by_cases hjL : j = L.length
  · repeat (first | refine st_ltT rfl rfl rfl rfl rfl rfl (by omega) ?_ | refine st_ltF rfl rfl rfl rfl rfl rfl (by omega) ?_ | refine st_neqF rfl rfl rfl rfl rfl rfl (by omega) ?_ | refine st_add rfl rfl rfl rfl rfl rfl (by omega) ?_ | refine st_I rfl rfl rfl rfl rfl ?_ | refine st_B rfl rfl rfl rfl rfl ?_ | refine st_S rfl rfl rfl rfl rfl ?_)
    simp only [EC_seq, EC_region, EC_block, EC_scope, EC_skip, EC_exit, EC_ret, EC_label, EO_nil, ED_nil, after_normal, after_exit, after_ret, leave_normal, leave_exit, leave_ret, goesOn_exit, goesOn_ret, cut_exit, cut_ret, cutx_exit, cutx_ret, reduceIte, Nat.reduceEqDiff, reduceCtorEq, Nat.one_ne_zero, Nat.zero_ne_one]
    rw [EC_cond_false rfl]
    simp only [EC_seq, EC_region, EC_block, EC_scope, EC_skip, EC_exit, EC_ret, EC_label, EO_nil, ED_nil, after_normal, after_exit, after_ret, leave_normal, leave_exit, leave_ret, goesOn_exit, goesOn_ret, cut_exit, cut_ret, cutx_exit, cutx_ret, reduceIte, Nat.reduceEqDiff, reduceCtorEq, Nat.one_ne_zero, Nat.zero_ne_one]
    repeat (first | refine st_ltT rfl rfl rfl rfl rfl rfl (by omega) ?_ | refine st_ltF rfl rfl rfl rfl rfl rfl (by omega) ?_ | refine st_neqF rfl rfl rfl rfl rfl rfl (by omega) ?_ | refine st_add rfl rfl rfl rfl rfl rfl (by omega) ?_ | refine st_I rfl rfl rfl rfl rfl ?_ | refine st_B rfl rfl rfl rfl rfl ?_ | refine st_S rfl rfl rfl rfl rfl ?_)
    simp only [EC_seq, EC_region, EC_block, EC_scope, EC_skip, EC_exit, EC_ret, EC_label, EO_nil, ED_nil, after_normal, after_exit, after_ret, leave_normal, leave_exit, leave_ret, goesOn_exit, goesOn_ret, cut_exit, cut_ret, cutx_exit, cutx_ret, reduceIte, Nat.reduceEqDiff, reduceCtorEq, Nat.one_ne_zero, Nat.zero_ne_one]
    exact retF _ rfl (resF_tmp rfl) rfl rfl rfl
  obtain ⟨x, hx⟩ : ∃ x, L[j]? = some x := ⟨L[j]'(by omega), List.getElem?_eq_getElem (by omega)⟩
  obtain ⟨b1, o1, x1, cs1, rfl, hb1, hx1, hc1, _, _, he1⟩ := s1.inv (by omega)
  obtain ⟨b2, o2, x2, cs2, rfl, hb2, hx2, hc2, _, _, he2⟩ := s2.inv (by omega)
  have g1 : cs1[o1 + j]? = some (.int .i64 x) := cell_at he1 (by rw [i64s, List.getElem?_map, hx]; rfl)
  have g2 : cs2[o2 + j]? = some (.int .i64 x) := cell_at he2 (by rw [i64s, List.getElem?_map, hx]; rfl)
  repeat (first | refine st_ltT rfl rfl rfl rfl rfl rfl (by omega) ?_ | refine st_ltF rfl rfl rfl rfl rfl rfl (by omega) ?_ | refine st_neqF rfl rfl rfl rfl rfl rfl (by omega) ?_ | refine st_add rfl rfl rfl rfl rfl rfl (by omega) ?_ | refine st_I rfl rfl rfl rfl rfl ?_ | refine st_B rfl rfl rfl rfl rfl ?_ | refine st_S rfl rfl rfl rfl rfl ?_)
  simp only [EC_seq, EC_region, EC_block, EC_scope, EC_skip, EC_exit, EC_ret, EC_label, EO_nil, ED_nil, after_normal, after_exit, after_ret, leave_normal, leave_exit, leave_ret, goesOn_exit, goesOn_ret, cut_exit, cut_ret, cutx_exit, cutx_ret, reduceIte, Nat.reduceEqDiff, reduceCtorEq, Nat.one_ne_zero, Nat.zero_ne_one]
  rw [EC_cond_true rfl]
  simp only [EC_seq, EC_region, EC_block, EC_scope, EC_skip, EC_exit, EC_ret, EC_label, EO_nil, ED_nil, after_normal, after_exit, after_ret, leave_normal, leave_exit, leave_ret, goesOn_exit, goesOn_ret, cut_exit, cut_ret, cutx_exit, cutx_ret, reduceIte, Nat.reduceEqDiff, reduceCtorEq, Nat.one_ne_zero, Nat.zero_ne_one]
  repeat (first | refine st_ltT rfl rfl rfl rfl rfl rfl (by omega) ?_ | refine st_ltF rfl rfl rfl rfl rfl rfl (by omega) ?_ | refine st_neqF rfl rfl rfl rfl rfl rfl (by omega) ?_ | refine st_add rfl rfl rfl rfl rfl rfl (by omega) ?_ | refine st_I rfl rfl rfl rfl rfl ?_ | refine st_B rfl rfl rfl rfl rfl ?_ | refine st_S rfl rfl rfl rfl rfl ?_)
  simp only [EC_seq, EC_region, EC_block, EC_scope, EC_skip, EC_exit, EC_ret, EC_label, EO_nil, ED_nil, after_normal, after_exit, after_ret, leave_normal, leave_exit, leave_ret, goesOn_exit, goesOn_ret, cut_exit, cut_ret, cutx_exit, cutx_ret, reduceIte, Nat.reduceEqDiff, reduceCtorEq, Nat.one_ne_zero, Nat.zero_ne_one]
  rw [EC_quiet rfl]
  repeat (first | refine st_ltT rfl rfl rfl rfl rfl rfl (by omega) ?_ | refine st_ltF rfl rfl rfl rfl rfl rfl (by omega) ?_ | refine st_neqF rfl rfl rfl rfl rfl rfl (by omega) ?_ | refine st_add rfl rfl rfl rfl rfl rfl (by omega) ?_ | refine st_I rfl rfl rfl rfl rfl ?_ | refine st_B rfl rfl rfl rfl rfl ?_ | refine st_S rfl rfl rfl rfl rfl ?_)
  refine st_idx rfl rfl rfl rfl rfl rfl rfl rfl (by omega) ?_
  refine st_load1 rfl rfl rfl rfl rfl rfl hx1 hc1 (v := .int .i64 x) (by rw [← g1]; congr 1; omega) ?_
  repeat (first | refine st_ltT rfl rfl rfl rfl rfl rfl (by omega) ?_ | refine st_ltF rfl rfl rfl rfl rfl rfl (by omega) ?_ | refine st_neqF rfl rfl rfl rfl rfl rfl (by omega) ?_ | refine st_add rfl rfl rfl rfl rfl rfl (by omega) ?_ | refine st_I rfl rfl rfl rfl rfl ?_ | refine st_B rfl rfl rfl rfl rfl ?_ | refine st_S rfl rfl rfl rfl rfl ?_)
  refine st_idx rfl rfl rfl rfl rfl rfl rfl rfl (by omega) ?_
  refine st_load1 rfl rfl rfl rfl rfl rfl hx2 hc2 (v := .int .i64 x) (by rw [← g2]; congr 1; omega) ?_
  repeat (first | refine st_ltT rfl rfl rfl rfl rfl rfl (by omega) ?_ | refine st_ltF rfl rfl rfl rfl rfl rfl (by omega) ?_ | refine st_neqF rfl rfl rfl rfl rfl rfl (by omega) ?_ | refine st_add rfl rfl rfl rfl rfl rfl (by omega) ?_ | refine st_I rfl rfl rfl rfl rfl ?_ | refine st_B rfl rfl rfl rfl rfl ?_ | refine st_S rfl rfl rfl rfl rfl ?_)
  simp only [EC_seq, EC_region, EC_block, EC_scope, EC_skip, EC_exit, EC_ret, EC_label, EO_nil, ED_nil, after_normal, after_exit, after_ret, leave_normal, leave_exit, leave_ret, goesOn_exit, goesOn_ret, cut_exit, cut_ret, cutx_exit, cutx_ret, reduceIte, Nat.reduceEqDiff, reduceCtorEq, Nat.one_ne_zero, Nat.zero_ne_one]
  rw [EC_cond_false rfl]
  simp only [EC_seq, EC_region, EC_block, EC_scope, EC_skip, EC_exit, EC_ret, EC_label, EO_nil, ED_nil, after_normal, after_exit, after_ret, leave_normal, leave_exit, leave_ret, goesOn_exit, goesOn_ret, cut_exit, cut_ret, cutx_exit, cutx_ret, reduceIte, Nat.reduceEqDiff, reduceCtorEq, Nat.one_ne_zero, Nat.zero_ne_one]
  repeat (first | refine st_ltT rfl rfl rfl rfl rfl rfl (by omega) ?_ | refine st_ltF rfl rfl rfl rfl rfl rfl (by omega) ?_ | refine st_neqF rfl rfl rfl rfl rfl rfl (by omega) ?_ | refine st_add rfl rfl rfl rfl rfl rfl (by omega) ?_ | refine st_I rfl rfl rfl rfl rfl ?_ | refine st_B rfl rfl rfl rfl rfl ?_ | refine st_S rfl rfl rfl rfl rfl ?_)
  simp only [EC_seq, EC_region, EC_block, EC_scope, EC_skip, EC_exit, EC_ret, EC_label, EO_nil, ED_nil, after_normal, after_exit, after_ret, leave_normal, leave_exit, leave_ret, goesOn_exit, goesOn_ret, cut_exit, cut_ret, cutx_exit, cutx_ret, reduceIte, Nat.reduceEqDiff, reduceCtorEq, Nat.one_ne_zero, Nat.zero_ne_one]
  exact goOn (j + 1) (by show L.length - (j + 1) < L.length - j; omega) ⟨rfl, rfl, rfl, by show Value.int .i64 _ = Value.int .i64 _; congr 1, trivial⟩ ⟨rfl, rfl, rfl, by show j + 1 ≤ L.length; omega⟩
theorem sameStrings_ok (k : Nat) {h : HF} {n : Nat} {a1 a2 : Option Addr} {l1 c1 l2 c2 : Nat} {L : List (List UInt8)} (s1 : Sl h n 1 (.slice a1 l1 c1) (strs L)) (s2 : Sl h n 1 (.slice a2 l2 c2) (strs L)) (hb : L.length < 1000000) : VF (cal (k + 1)) 29 [.slice a1 l1 c1, .slice a2 l2 c2] h n fun v => v = .bool true := by
  refine CF_flat (fn := Tryz.f29) rfl rfl rfl rfl ?_
  have e1 := s1.lenEq (m := L.length) (by omega) (by simp [strs])
  have e2 := s2.lenEq (m := L.length) (by omega) (by simp [strs])
  subst e1 e2
  simp only [EC_seq, EC_region, EC_block, EC_scope, EC_skip, EC_exit, EC_ret, EC_label, EO_nil, ED_nil, after_normal, after_exit, after_ret, leave_normal, leave_exit, leave_ret, goesOn_exit, goesOn_ret, cut_exit, cut_ret, cutx_exit, cutx_ret, reduceIte, Nat.reduceEqDiff, reduceCtorEq, Nat.one_ne_zero, Nat.zero_ne_one]
  repeat (first | refine st_ltT rfl rfl rfl rfl rfl rfl (by omega) ?_ | refine st_ltF rfl rfl rfl rfl rfl rfl (by omega) ?_ | refine st_neqF rfl rfl rfl rfl rfl rfl (by omega) ?_ | refine st_add rfl rfl rfl rfl rfl rfl (by omega) ?_ | refine st_I rfl rfl rfl rfl rfl ?_ | refine st_B rfl rfl rfl rfl rfl ?_ | refine st_S rfl rfl rfl rfl rfl ?_ | refine st_val (v := .pointer none) rfl rfl rfl rfl rfl ?_)
  simp only [EC_seq, EC_region, EC_block, EC_scope, EC_skip, EC_exit, EC_ret, EC_label, EO_nil, ED_nil, after_normal, after_exit, after_ret, leave_normal, leave_exit, leave_ret, goesOn_exit, goesOn_ret, cut_exit, cut_ret, cutx_exit, cutx_ret, reduceIte, Nat.reduceEqDiff, reduceCtorEq, Nat.one_ne_zero, Nat.zero_ne_one]
  repeat (first | refine st_ltT rfl rfl rfl rfl rfl rfl (by omega) ?_ | refine st_ltF rfl rfl rfl rfl rfl rfl (by omega) ?_ | refine st_neqF rfl rfl rfl rfl rfl rfl (by omega) ?_ | refine st_add rfl rfl rfl rfl rfl rfl (by omega) ?_ | refine st_I rfl rfl rfl rfl rfl ?_ | refine st_B rfl rfl rfl rfl rfl ?_ | refine st_S rfl rfl rfl rfl rfl ?_ | refine st_val (v := .pointer none) rfl rfl rfl rfl rfl ?_)
  simp only [EC_seq, EC_region, EC_block, EC_scope, EC_skip, EC_exit, EC_ret, EC_label, EO_nil, ED_nil, after_normal, after_exit, after_ret, leave_normal, leave_exit, leave_ret, goesOn_exit, goesOn_ret, cut_exit, cut_ret, cutx_exit, cutx_ret, reduceIte, Nat.reduceEqDiff, reduceCtorEq, Nat.one_ne_zero, Nat.zero_ne_one]
  rw [EC_cond_false rfl]
  simp only [EC_seq, EC_region, EC_block, EC_scope, EC_skip, EC_exit, EC_ret, EC_label, EO_nil, ED_nil, after_normal, after_exit, after_ret, leave_normal, leave_exit, leave_ret, goesOn_exit, goesOn_ret, cut_exit, cut_ret, cutx_exit, cutx_ret, reduceIte, Nat.reduceEqDiff, reduceCtorEq, Nat.one_ne_zero, Nat.zero_ne_one]
  repeat (first | refine st_ltT rfl rfl rfl rfl rfl rfl (by omega) ?_ | refine st_ltF rfl rfl rfl rfl rfl rfl (by omega) ?_ | refine st_neqF rfl rfl rfl rfl rfl rfl (by omega) ?_ | refine st_add rfl rfl rfl rfl rfl rfl (by omega) ?_ | refine st_I rfl rfl rfl rfl rfl ?_ | refine st_B rfl rfl rfl rfl rfl ?_ | refine st_S rfl rfl rfl rfl rfl ?_ | refine st_val (v := .pointer none) rfl rfl rfl rfl rfl ?_)
  simp only [EC_seq, EC_region, EC_block, EC_scope, EC_skip, EC_exit, EC_ret, EC_label, EO_nil, ED_nil, after_normal, after_exit, after_ret, leave_normal, leave_exit, leave_ret, goesOn_exit, goesOn_ret, cut_exit, cut_ret, cutx_exit, cutx_ret, reduceIte, Nat.reduceEqDiff, reduceCtorEq, Nat.one_ne_zero, Nat.zero_ne_one]
  refine EC_for (α := Nat) (fun j => [(0, .slice a1 L.length c1), (1, .slice a2 L.length c2), (12, .int .i64 (L.length : Int)), (13, .int .i64 (j : Int))]) (fun j h' n' w => h = h' ∧ n = n' ∧ w = [] ∧ j ≤ L.length) (fun j => L.length - j) 0 ⟨rfl, rfl, rfl, rfl, trivial⟩ ⟨rfl, rfl, rfl, Nat.zero_le _⟩ (by show L.length - 0 < LL; unfold LL; omega) ?_
  rintro j t _ _ _ ⟨rfl, rfl, rfl, hj⟩
  simp only [EC_seq, EC_region, EC_block, EC_scope, EC_skip, EC_exit, EC_ret, EC_label, EO_nil, ED_nil, after_normal, after_exit, after_ret, leave_normal, leave_exit, leave_ret, goesOn_exit, goesOn_ret, cut_exit, cut_ret, cutx_exit, cutx_ret, reduceIte, Nat.reduceEqDiff, reduceCtorEq, Nat.one_ne_zero, Nat.zero_ne_one]
  by_cases hjL : j = L.length
  · repeat (first | refine st_ltT rfl rfl rfl rfl rfl rfl (by omega) ?_ | refine st_ltF rfl rfl rfl rfl rfl rfl (by omega) ?_ | refine st_neqF rfl rfl rfl rfl rfl rfl (by omega) ?_ | refine st_add rfl rfl rfl rfl rfl rfl (by omega) ?_ | refine st_I rfl rfl rfl rfl rfl ?_ | refine st_B rfl rfl rfl rfl rfl ?_ | refine st_S rfl rfl rfl rfl rfl ?_ | refine st_val (v := .pointer none) rfl rfl rfl rfl rfl ?_)
    simp only [EC_seq, EC_region, EC_block, EC_scope, EC_skip, EC_exit, EC_ret, EC_label, EO_nil, ED_nil, after_normal, after_exit, after_ret, leave_normal, leave_exit, leave_ret, goesOn_exit, goesOn_ret, cut_exit, cut_ret, cutx_exit, cutx_ret, reduceIte, Nat.reduceEqDiff, reduceCtorEq, Nat.one_ne_zero, Nat.zero_ne_one]
    rw [EC_cond_false rfl]
    simp only [EC_seq, EC_region, EC_block, EC_scope, EC_skip, EC_exit, EC_ret, EC_label, EO_nil, ED_nil, after_normal, after_exit, after_ret, leave_normal, leave_exit, leave_ret, goesOn_exit, goesOn_ret, cut_exit, cut_ret, cutx_exit, cutx_ret, reduceIte, Nat.reduceEqDiff, reduceCtorEq, Nat.one_ne_zero, Nat.zero_ne_one]
    repeat (first | refine st_ltT rfl rfl rfl rfl rfl rfl (by omega) ?_ | refine st_ltF rfl rfl rfl rfl rfl rfl (by omega) ?_ | refine st_neqF rfl rfl rfl rfl rfl rfl (by omega) ?_ | refine st_add rfl rfl rfl rfl rfl rfl (by omega) ?_ | refine st_I rfl rfl rfl rfl rfl ?_ | refine st_B rfl rfl rfl rfl rfl ?_ | refine st_S rfl rfl rfl rfl rfl ?_ | refine st_val (v := .pointer none) rfl rfl rfl rfl rfl ?_)
    simp only [EC_seq, EC_region, EC_block, EC_scope, EC_skip, EC_exit, EC_ret, EC_label, EO_nil, ED_nil, after_normal, after_exit, after_ret, leave_normal, leave_exit, leave_ret, goesOn_exit, goesOn_ret, cut_exit, cut_ret, cutx_exit, cutx_ret, reduceIte, Nat.reduceEqDiff, reduceCtorEq, Nat.one_ne_zero, Nat.zero_ne_one]
    exact retF _ rfl (resF_tmp rfl) rfl rfl rfl
  obtain ⟨x, hx⟩ : ∃ x, L[j]? = some x := ⟨L[j]'(by omega), List.getElem?_eq_getElem (by omega)⟩
  obtain ⟨b1, o1, x1, cs1, rfl, hb1, hx1, hc1, _, _, he1⟩ := s1.inv (by omega)
  obtain ⟨b2, o2, x2, cs2, rfl, hb2, hx2, hc2, _, _, he2⟩ := s2.inv (by omega)
  have g1 : cs1[o1 + j]? = some (.string ⟨⟨x⟩⟩) := cell_at he1 (by rw [strs, List.getElem?_map, hx]; rfl)
  have g2 : cs2[o2 + j]? = some (.string ⟨⟨x⟩⟩) := cell_at he2 (by rw [strs, List.getElem?_map, hx]; rfl)
  repeat (first | refine st_ltT rfl rfl rfl rfl rfl rfl (by omega) ?_ | refine st_ltF rfl rfl rfl rfl rfl rfl (by omega) ?_ | refine st_neqF rfl rfl rfl rfl rfl rfl (by omega) ?_ | refine st_add rfl rfl rfl rfl rfl rfl (by omega) ?_ | refine st_I rfl rfl rfl rfl rfl ?_ | refine st_B rfl rfl rfl rfl rfl ?_ | refine st_S rfl rfl rfl rfl rfl ?_ | refine st_val (v := .pointer none) rfl rfl rfl rfl rfl ?_)
  simp only [EC_seq, EC_region, EC_block, EC_scope, EC_skip, EC_exit, EC_ret, EC_label, EO_nil, ED_nil, after_normal, after_exit, after_ret, leave_normal, leave_exit, leave_ret, goesOn_exit, goesOn_ret, cut_exit, cut_ret, cutx_exit, cutx_ret, reduceIte, Nat.reduceEqDiff, reduceCtorEq, Nat.one_ne_zero, Nat.zero_ne_one]
  rw [EC_cond_true rfl]
  simp only [EC_seq, EC_region, EC_block, EC_scope, EC_skip, EC_exit, EC_ret, EC_label, EO_nil, ED_nil, after_normal, after_exit, after_ret, leave_normal, leave_exit, leave_ret, goesOn_exit, goesOn_ret, cut_exit, cut_ret, cutx_exit, cutx_ret, reduceIte, Nat.reduceEqDiff, reduceCtorEq, Nat.one_ne_zero, Nat.zero_ne_one]
  repeat (first | refine st_ltT rfl rfl rfl rfl rfl rfl (by omega) ?_ | refine st_ltF rfl rfl rfl rfl rfl rfl (by omega) ?_ | refine st_neqF rfl rfl rfl rfl rfl rfl (by omega) ?_ | refine st_add rfl rfl rfl rfl rfl rfl (by omega) ?_ | refine st_I rfl rfl rfl rfl rfl ?_ | refine st_B rfl rfl rfl rfl rfl ?_ | refine st_S rfl rfl rfl rfl rfl ?_ | refine st_val (v := .pointer none) rfl rfl rfl rfl rfl ?_)
  simp only [EC_seq, EC_region, EC_block, EC_scope, EC_skip, EC_exit, EC_ret, EC_label, EO_nil, ED_nil, after_normal, after_exit, after_ret, leave_normal, leave_exit, leave_ret, goesOn_exit, goesOn_ret, cut_exit, cut_ret, cutx_exit, cutx_ret, reduceIte, Nat.reduceEqDiff, reduceCtorEq, Nat.one_ne_zero, Nat.zero_ne_one]
  rw [EC_quiet rfl]
  repeat (first | refine st_ltT rfl rfl rfl rfl rfl rfl (by omega) ?_ | refine st_ltF rfl rfl rfl rfl rfl rfl (by omega) ?_ | refine st_neqF rfl rfl rfl rfl rfl rfl (by omega) ?_ | refine st_add rfl rfl rfl rfl rfl rfl (by omega) ?_ | refine st_I rfl rfl rfl rfl rfl ?_ | refine st_B rfl rfl rfl rfl rfl ?_ | refine st_S rfl rfl rfl rfl rfl ?_ | refine st_val (v := .pointer none) rfl rfl rfl rfl rfl ?_)
  refine st_idx rfl rfl rfl rfl rfl rfl rfl rfl (by omega) ?_
  refine st_load1 rfl rfl rfl rfl rfl rfl hx1 hc1 (v := .string ⟨⟨x⟩⟩) (by rw [← g1]; congr 1; omega) ?_
  repeat (first | refine st_ltT rfl rfl rfl rfl rfl rfl (by omega) ?_ | refine st_ltF rfl rfl rfl rfl rfl rfl (by omega) ?_ | refine st_neqF rfl rfl rfl rfl rfl rfl (by omega) ?_ | refine st_add rfl rfl rfl rfl rfl rfl (by omega) ?_ | refine st_I rfl rfl rfl rfl rfl ?_ | refine st_B rfl rfl rfl rfl rfl ?_ | refine st_S rfl rfl rfl rfl rfl ?_ | refine st_val (v := .pointer none) rfl rfl rfl rfl rfl ?_)
  refine st_idx rfl rfl rfl rfl rfl rfl rfl rfl (by omega) ?_
  refine st_load1 rfl rfl rfl rfl rfl rfl hx2 hc2 (v := .string ⟨⟨x⟩⟩) (by rw [← g2]; congr 1; omega) ?_
  refine st_val (v := .bool false) rfl rfl rfl rfl (by show some (Value.bool (!(x == x))) = _; simp) ?_
  simp only [EC_seq, EC_region, EC_block, EC_scope, EC_skip, EC_exit, EC_ret, EC_label, EO_nil, ED_nil, after_normal, after_exit, after_ret, leave_normal, leave_exit, leave_ret, goesOn_exit, goesOn_ret, cut_exit, cut_ret, cutx_exit, cutx_ret, reduceIte, Nat.reduceEqDiff, reduceCtorEq, Nat.one_ne_zero, Nat.zero_ne_one]
  rw [EC_cond_false rfl]
  simp only [EC_seq, EC_region, EC_block, EC_scope, EC_skip, EC_exit, EC_ret, EC_label, EO_nil, ED_nil, after_normal, after_exit, after_ret, leave_normal, leave_exit, leave_ret, goesOn_exit, goesOn_ret, cut_exit, cut_ret, cutx_exit, cutx_ret, reduceIte, Nat.reduceEqDiff, reduceCtorEq, Nat.one_ne_zero, Nat.zero_ne_one]
  repeat (first | refine st_ltT rfl rfl rfl rfl rfl rfl (by omega) ?_ | refine st_ltF rfl rfl rfl rfl rfl rfl (by omega) ?_ | refine st_neqF rfl rfl rfl rfl rfl rfl (by omega) ?_ | refine st_add rfl rfl rfl rfl rfl rfl (by omega) ?_ | refine st_I rfl rfl rfl rfl rfl ?_ | refine st_B rfl rfl rfl rfl rfl ?_ | refine st_S rfl rfl rfl rfl rfl ?_ | refine st_val (v := .pointer none) rfl rfl rfl rfl rfl ?_)
  simp only [EC_seq, EC_region, EC_block, EC_scope, EC_skip, EC_exit, EC_ret, EC_label, EO_nil, ED_nil, after_normal, after_exit, after_ret, leave_normal, leave_exit, leave_ret, goesOn_exit, goesOn_ret, cut_exit, cut_ret, cutx_exit, cutx_ret, reduceIte, Nat.reduceEqDiff, reduceCtorEq, Nat.one_ne_zero, Nat.zero_ne_one]
  exact goOn (j + 1) (by show L.length - (j + 1) < L.length - j; omega) ⟨rfl, rfl, rfl, by show Value.int .i64 _ = Value.int .i64 _; congr 1, trivial⟩ ⟨rfl, rfl, rfl, by show j + 1 ≤ L.length; omega⟩
theorem sameList_ok (k : Nat) {h : HF} {n : Nat} {a1 a2 : Option Addr} {l1 c1 l2 c2 : Nat} {L : List Ent} (s1 : Sl h n 4 (.slice a1 l1 c1) (ents L)) (s2 : Sl h n 4 (.slice a2 l2 c2) (ents L)) (hb : L.length < 1000000) : VF (cal (k + 1)) 88 [.slice a1 l1 c1, .slice a2 l2 c2] h n fun v => v = .bool true := by
  refine CF_flat (fn := Tryz.f88) rfl rfl rfl rfl ?_
  have e1 := s1.lenEq (m := L.length) (by omega) (ents_len _)
  have e2 := s2.lenEq (m := L.length) (by omega) (ents_len _)
  subst e1 e2
  simp only [EC_seq, EC_region, EC_block, EC_scope, EC_skip, EC_exit, EC_ret, EC_label, EO_nil, ED_nil, after_normal, after_exit, after_ret, leave_normal, leave_exit, leave_ret, goesOn_exit, goesOn_ret, cut_exit, cut_ret, cutx_exit, cutx_ret, reduceIte, Nat.reduceEqDiff, reduceCtorEq, Nat.one_ne_zero, Nat.zero_ne_one]
  repeat (first | refine st_ltT rfl rfl rfl rfl rfl rfl (by omega) ?_ | refine st_ltF rfl rfl rfl rfl rfl rfl (by omega) ?_ | refine st_neqF rfl rfl rfl rfl rfl rfl (by omega) ?_ | refine st_add rfl rfl rfl rfl rfl rfl (by omega) ?_ | refine st_I rfl rfl rfl rfl rfl ?_ | refine st_B rfl rfl rfl rfl rfl ?_ | refine st_S rfl rfl rfl rfl rfl ?_ | refine st_val (v := .pointer none) rfl rfl rfl rfl rfl ?_)
  simp only [EC_seq, EC_region, EC_block, EC_scope, EC_skip, EC_exit, EC_ret, EC_label, EO_nil, ED_nil, after_normal, after_exit, after_ret, leave_normal, leave_exit, leave_ret, goesOn_exit, goesOn_ret, cut_exit, cut_ret, cutx_exit, cutx_ret, reduceIte, Nat.reduceEqDiff, reduceCtorEq, Nat.one_ne_zero, Nat.zero_ne_one]
  repeat (first | refine st_ltT rfl rfl rfl rfl rfl rfl (by omega) ?_ | refine st_ltF rfl rfl rfl rfl rfl rfl (by omega) ?_ | refine st_neqF rfl rfl rfl rfl rfl rfl (by omega) ?_ | refine st_add rfl rfl rfl rfl rfl rfl (by omega) ?_ | refine st_I rfl rfl rfl rfl rfl ?_ | refine st_B rfl rfl rfl rfl rfl ?_ | refine st_S rfl rfl rfl rfl rfl ?_ | refine st_val (v := .pointer none) rfl rfl rfl rfl rfl ?_)
  simp only [EC_seq, EC_region, EC_block, EC_scope, EC_skip, EC_exit, EC_ret, EC_label, EO_nil, ED_nil, after_normal, after_exit, after_ret, leave_normal, leave_exit, leave_ret, goesOn_exit, goesOn_ret, cut_exit, cut_ret, cutx_exit, cutx_ret, reduceIte, Nat.reduceEqDiff, reduceCtorEq, Nat.one_ne_zero, Nat.zero_ne_one]
  rw [EC_cond_false rfl]
  simp only [EC_seq, EC_region, EC_block, EC_scope, EC_skip, EC_exit, EC_ret, EC_label, EO_nil, ED_nil, after_normal, after_exit, after_ret, leave_normal, leave_exit, leave_ret, goesOn_exit, goesOn_ret, cut_exit, cut_ret, cutx_exit, cutx_ret, reduceIte, Nat.reduceEqDiff, reduceCtorEq, Nat.one_ne_zero, Nat.zero_ne_one]
  repeat (first | refine st_ltT rfl rfl rfl rfl rfl rfl (by omega) ?_ | refine st_ltF rfl rfl rfl rfl rfl rfl (by omega) ?_ | refine st_neqF rfl rfl rfl rfl rfl rfl (by omega) ?_ | refine st_add rfl rfl rfl rfl rfl rfl (by omega) ?_ | refine st_I rfl rfl rfl rfl rfl ?_ | refine st_B rfl rfl rfl rfl rfl ?_ | refine st_S rfl rfl rfl rfl rfl ?_ | refine st_val (v := .pointer none) rfl rfl rfl rfl rfl ?_)
  simp only [EC_seq, EC_region, EC_block, EC_scope, EC_skip, EC_exit, EC_ret, EC_label, EO_nil, ED_nil, after_normal, after_exit, after_ret, leave_normal, leave_exit, leave_ret, goesOn_exit, goesOn_ret, cut_exit, cut_ret, cutx_exit, cutx_ret, reduceIte, Nat.reduceEqDiff, reduceCtorEq, Nat.one_ne_zero, Nat.zero_ne_one]
  refine EC_for (α := Nat) (fun j => [(0, .slice a1 L.length c1), (1, .slice a2 L.length c2), (12, .int .i64 (L.length : Int)), (13, .int .i64 (j : Int))]) (fun j h' n' w => h = h' ∧ n = n' ∧ w = [] ∧ j ≤ L.length) (fun j => L.length - j) 0 ⟨rfl, rfl, rfl, rfl, trivial⟩ ⟨rfl, rfl, rfl, Nat.zero_le _⟩ (by show L.length - 0 < LL; unfold LL; omega) ?_
  rintro j t _ _ _ ⟨rfl, rfl, rfl, hj⟩
  simp only [EC_seq, EC_region, EC_block, EC_scope, EC_skip, EC_exit, EC_ret, EC_label, EO_nil, ED_nil, after_normal, after_exit, after_ret, leave_normal, leave_exit, leave_ret, goesOn_exit, goesOn_ret, cut_exit, cut_ret, cutx_exit, cutx_ret, reduceIte, Nat.reduceEqDiff, reduceCtorEq, Nat.one_ne_zero, Nat.zero_ne_one]
  by_cases hjL : j = L.length
  · repeat (first | refine st_ltT rfl rfl rfl rfl rfl rfl (by omega) ?_ | refine st_ltF rfl rfl rfl rfl rfl rfl (by omega) ?_ | refine st_neqF rfl rfl rfl rfl rfl rfl (by omega) ?_ | refine st_add rfl rfl rfl rfl rfl rfl (by omega) ?_ | refine st_I rfl rfl rfl rfl rfl ?_ | refine st_B rfl rfl rfl rfl rfl ?_ | refine st_S rfl rfl rfl rfl rfl ?_ | refine st_val (v := .pointer none) rfl rfl rfl rfl rfl ?_)
    simp only [EC_seq, EC_region, EC_block, EC_scope, EC_skip, EC_exit, EC_ret, EC_label, EO_nil, ED_nil, after_normal, after_exit, after_ret, leave_normal, leave_exit, leave_ret, goesOn_exit, goesOn_ret, cut_exit, cut_ret, cutx_exit, cutx_ret, reduceIte, Nat.reduceEqDiff, reduceCtorEq, Nat.one_ne_zero, Nat.zero_ne_one]
    rw [EC_cond_false rfl]
    simp only [EC_seq, EC_region, EC_block, EC_scope, EC_skip, EC_exit, EC_ret, EC_label, EO_nil, ED_nil, after_normal, after_exit, after_ret, leave_normal, leave_exit, leave_ret, goesOn_exit, goesOn_ret, cut_exit, cut_ret, cutx_exit, cutx_ret, reduceIte, Nat.reduceEqDiff, reduceCtorEq, Nat.one_ne_zero, Nat.zero_ne_one]
    repeat (first | refine st_ltT rfl rfl rfl rfl rfl rfl (by omega) ?_ | refine st_ltF rfl rfl rfl rfl rfl rfl (by omega) ?_ | refine st_neqF rfl rfl rfl rfl rfl rfl (by omega) ?_ | refine st_add rfl rfl rfl rfl rfl rfl (by omega) ?_ | refine st_I rfl rfl rfl rfl rfl ?_ | refine st_B rfl rfl rfl rfl rfl ?_ | refine st_S rfl rfl rfl rfl rfl ?_ | refine st_val (v := .pointer none) rfl rfl rfl rfl rfl ?_)
    simp only [EC_seq, EC_region, EC_block, EC_scope, EC_skip, EC_exit, EC_ret, EC_label, EO_nil, ED_nil, after_normal, after_exit, after_ret, leave_normal, leave_exit, leave_ret, goesOn_exit, goesOn_ret, cut_exit, cut_ret, cutx_exit, cutx_ret, reduceIte, Nat.reduceEqDiff, reduceCtorEq, Nat.one_ne_zero, Nat.zero_ne_one]
    exact retF _ rfl (resF_tmp rfl) rfl rfl rfl
  obtain ⟨x, hx⟩ : ∃ x, L[j]? = some x := ⟨L[j]'(by omega), List.getElem?_eq_getElem (by omega)⟩
  obtain ⟨b1, o1, x1, cs1, rfl, hb1, hx1, hc1, _, _, he1⟩ := s1.inv (by omega)
  obtain ⟨b2, o2, x2, cs2, rfl, hb2, hx2, hc2, _, _, he2⟩ := s2.inv (by omega)
  have g1 : (cs1.drop (o1 + j * 4)).take 4 = entC x := by rw [take_at he1 (by omega), ents_at hx]
  have g2 : (cs2.drop (o2 + j * 4)).take 4 = entC x := by rw [take_at he2 (by omega), ents_at hx]
  repeat (first | refine st_ltT rfl rfl rfl rfl rfl rfl (by omega) ?_ | refine st_ltF rfl rfl rfl rfl rfl rfl (by omega) ?_ | refine st_neqF rfl rfl rfl rfl rfl rfl (by omega) ?_ | refine st_add rfl rfl rfl rfl rfl rfl (by omega) ?_ | refine st_I rfl rfl rfl rfl rfl ?_ | refine st_B rfl rfl rfl rfl rfl ?_ | refine st_S rfl rfl rfl rfl rfl ?_ | refine st_val (v := .pointer none) rfl rfl rfl rfl rfl ?_)
  simp only [EC_seq, EC_region, EC_block, EC_scope, EC_skip, EC_exit, EC_ret, EC_label, EO_nil, ED_nil, after_normal, after_exit, after_ret, leave_normal, leave_exit, leave_ret, goesOn_exit, goesOn_ret, cut_exit, cut_ret, cutx_exit, cutx_ret, reduceIte, Nat.reduceEqDiff, reduceCtorEq, Nat.one_ne_zero, Nat.zero_ne_one]
  rw [EC_cond_true rfl]
  simp only [EC_seq, EC_region, EC_block, EC_scope, EC_skip, EC_exit, EC_ret, EC_label, EO_nil, ED_nil, after_normal, after_exit, after_ret, leave_normal, leave_exit, leave_ret, goesOn_exit, goesOn_ret, cut_exit, cut_ret, cutx_exit, cutx_ret, reduceIte, Nat.reduceEqDiff, reduceCtorEq, Nat.one_ne_zero, Nat.zero_ne_one]
  repeat (first | refine st_ltT rfl rfl rfl rfl rfl rfl (by omega) ?_ | refine st_ltF rfl rfl rfl rfl rfl rfl (by omega) ?_ | refine st_neqF rfl rfl rfl rfl rfl rfl (by omega) ?_ | refine st_add rfl rfl rfl rfl rfl rfl (by omega) ?_ | refine st_I rfl rfl rfl rfl rfl ?_ | refine st_B rfl rfl rfl rfl rfl ?_ | refine st_S rfl rfl rfl rfl rfl ?_ | refine st_val (v := .pointer none) rfl rfl rfl rfl rfl ?_)
  simp only [EC_seq, EC_region, EC_block, EC_scope, EC_skip, EC_exit, EC_ret, EC_label, EO_nil, ED_nil, after_normal, after_exit, after_ret, leave_normal, leave_exit, leave_ret, goesOn_exit, goesOn_ret, cut_exit, cut_ret, cutx_exit, cutx_ret, reduceIte, Nat.reduceEqDiff, reduceCtorEq, Nat.one_ne_zero, Nat.zero_ne_one]
  rw [EC_quiet rfl]
  repeat (first | refine st_ltT rfl rfl rfl rfl rfl rfl (by omega) ?_ | refine st_ltF rfl rfl rfl rfl rfl rfl (by omega) ?_ | refine st_neqF rfl rfl rfl rfl rfl rfl (by omega) ?_ | refine st_add rfl rfl rfl rfl rfl rfl (by omega) ?_ | refine st_I rfl rfl rfl rfl rfl ?_ | refine st_B rfl rfl rfl rfl rfl ?_ | refine st_S rfl rfl rfl rfl rfl ?_ | refine st_val (v := .pointer none) rfl rfl rfl rfl rfl ?_)
  refine st_idx rfl rfl rfl rfl rfl rfl rfl rfl (by omega) ?_
  refine st_load (v := .agg (entC x).toArray) rfl rfl rfl rfl rfl (loadn_eq rfl rfl hx1 hc1 (by omega) (by rw [← g1]; congr 2 <;> omega)) ?_
  repeat (first | refine st_ltT rfl rfl rfl rfl rfl rfl (by omega) ?_ | refine st_ltF rfl rfl rfl rfl rfl rfl (by omega) ?_ | refine st_neqF rfl rfl rfl rfl rfl rfl (by omega) ?_ | refine st_add rfl rfl rfl rfl rfl rfl (by omega) ?_ | refine st_I rfl rfl rfl rfl rfl ?_ | refine st_B rfl rfl rfl rfl rfl ?_ | refine st_S rfl rfl rfl rfl rfl ?_ | refine st_val (v := .pointer none) rfl rfl rfl rfl rfl ?_)
  refine st_idx rfl rfl rfl rfl rfl rfl rfl rfl (by omega) ?_
  refine st_load (v := .agg (entC x).toArray) rfl rfl rfl rfl rfl (loadn_eq rfl rfl hx2 hc2 (by omega) (by rw [← g2]; congr 2 <;> omega)) ?_
  refine st_val (v := .bool false) rfl rfl rfl rfl (neq_self x) ?_
  simp only [EC_seq, EC_region, EC_block, EC_scope, EC_skip, EC_exit, EC_ret, EC_label, EO_nil, ED_nil, after_normal, after_exit, after_ret, leave_normal, leave_exit, leave_ret, goesOn_exit, goesOn_ret, cut_exit, cut_ret, cutx_exit, cutx_ret, reduceIte, Nat.reduceEqDiff, reduceCtorEq, Nat.one_ne_zero, Nat.zero_ne_one]
  rw [EC_cond_false rfl]
  simp only [EC_seq, EC_region, EC_block, EC_scope, EC_skip, EC_exit, EC_ret, EC_label, EO_nil, ED_nil, after_normal, after_exit, after_ret, leave_normal, leave_exit, leave_ret, goesOn_exit, goesOn_ret, cut_exit, cut_ret, cutx_exit, cutx_ret, reduceIte, Nat.reduceEqDiff, reduceCtorEq, Nat.one_ne_zero, Nat.zero_ne_one]
  repeat (first | refine st_ltT rfl rfl rfl rfl rfl rfl (by omega) ?_ | refine st_ltF rfl rfl rfl rfl rfl rfl (by omega) ?_ | refine st_neqF rfl rfl rfl rfl rfl rfl (by omega) ?_ | refine st_add rfl rfl rfl rfl rfl rfl (by omega) ?_ | refine st_I rfl rfl rfl rfl rfl ?_ | refine st_B rfl rfl rfl rfl rfl ?_ | refine st_S rfl rfl rfl rfl rfl ?_ | refine st_val (v := .pointer none) rfl rfl rfl rfl rfl ?_)
  simp only [EC_seq, EC_region, EC_block, EC_scope, EC_skip, EC_exit, EC_ret, EC_label, EO_nil, ED_nil, after_normal, after_exit, after_ret, leave_normal, leave_exit, leave_ret, goesOn_exit, goesOn_ret, cut_exit, cut_ret, cutx_exit, cutx_ret, reduceIte, Nat.reduceEqDiff, reduceCtorEq, Nat.one_ne_zero, Nat.zero_ne_one]
  exact goOn (j + 1) (by show L.length - (j + 1) < L.length - j; omega) ⟨rfl, rfl, rfl, by show Value.int .i64 _ = Value.int .i64 _; congr 1, trivial⟩ ⟨rfl, rfl, rfl, by show j + 1 ≤ L.length; omega⟩
end Go.Proofs.YtokfihhdllmbmaaGreatDoor
namespace Go.Proofs.YtokfihhdllmbmaaGreatDoor
open Go Go.GL
/-! Package sdp: Select. -/
def GoodAt (m : Nat) (K : List Int) (j : Nat) : Prop := ∀ k, K[j]? = some k → 0 ≤ k ∧ k < m ∧ ∀ k', 0 < j → K[j - 1]? = some k' → k' < k
def sel (p : Sdp) (K : List Int) : Sdp := { p with eqs := K.filterMap fun k => p.eqs[k.toNat]? }
theorem sel_snoc {p : Sdp} {K : List Int} {j : Nat} {k : Int} {q : Eqn} (hk : K[j]? = some k) (hq : p.eqs[k.toNat]? = some q) : (K.take (j + 1)).filterMap (fun k => p.eqs[k.toNat]?) = (K.take j).filterMap (fun k => p.eqs[k.toNat]?) ++ [q] := by
  obtain ⟨hlt, rfl⟩ := List.getElem?_eq_some_iff.1 hk
  rw [List.take_add_one, List.filterMap_append]
  simp [hlt, hq]
/-- The cells of the program without contents. -/
def zeroSdp : List Value := [.slice none 0 0, .int .i64 0, .slice none 0 0, .slice none 0 0, .slice none 0 0]
theorem resF_ct {s : SV} {a c : Tmp} {ty : TypeId} {b : Nat} {v u : Value} (ha : s.t a = .pointer (some ⟨b, 0, none⟩)) (hc : s.t c = u) (hl : loadVF env ty s.h ⟨b, 0, none⟩ = some v) : resF env s [.cell a ty, .tmp c] = some [v, u] := by
  simp only [resF, ha, hc, hl]
set_option maxHeartbeats 4000000
theorem select_ok (k : Nat) {h : HF} (hG : GK.G h) {n : Nat} {vB vO vF vE : Value} {p : Sdp} {F least : Nat} (hF : F ≤ 100) (hn : 20 ≤ n) (hp : SdpR h n vB vO vF vE p) (hok : SdpOk F least p) {aK : Option Addr} {lK cK : Nat} {K : List Int} (hK : Sl h n 1 (.slice aK lK cK) (i64s K)) (hKl : K.length ≤ 1000) :
    CF (cal (k + 4)) 33 [.agg #[vB, .int .i64 (p.free : Int), vO, vF, vE], .slice aK lK cK] h n fun v h' n' w => w = [] ∧ n ≤ n' ∧ Ext n h h' ∧
      (((∀ j, j < K.length → GoodAt p.eqs.length K j) ∧ ∃ vB' vO' vF' vE', v = .tuple #[.agg #[vB', .int .i64 (p.free : Int), vO', vF', vE'], .int .i64 0] ∧ SdpR h' n' vB' vO' vF' vE' (sel p K)) ∨
       (∃ j, j < K.length ∧ (∀ i, i < j → GoodAt p.eqs.length K i) ∧ ¬ GoodAt p.eqs.length K j ∧ v = .tuple #[.agg zeroSdp.toArray, .int .i64 3])) := by
  refine CF_heap (fn := Tryz.f33) rfl rfl rfl rfl ?_
  have hp0 := hp
  obtain ⟨hB, hO, hFr, ce, hE, hEq⟩ := hp
  obtain ⟨aB, lB, cB, rfl, _⟩ := hB.len
  obtain ⟨aO, lO, cO, rfl, _⟩ := hO.len
  obtain ⟨aF, lF, cF, rfl, _⟩ := hFr.len
  obtain ⟨aE, lE, cE, rfl, _⟩ := hE.len
  have hlB := hB.lenEq (m := p.blocks.length) (by omega) (by simp [i64s])
  have hlO := hO.lenEq (m := p.obj.length) (by omega) (ents_len _)
  have hlF := hFr.lenEq (m := p.objFree.length) (by omega) (by simp [strs])
  have hlE := hE.lenEq (m := p.eqs.length) (by omega) hEq.len
  have hlK := hK.lenEq (m := K.length) (by omega) (by simp [i64s])
  subst hlB hlO hlF hlE hlK
  have hbl := hok.bl
  have hfr := hok.free
  have hofl := hok.ofl
  have heql := hok.eql
  simp only [EC_seq, EC_region, EC_block, EC_scope, EC_skip, EC_exit, EC_ret, EC_label, EO_nil, ED_nil, after_normal, after_exit, after_ret, leave_normal, leave_exit, leave_ret, goesOn_exit, goesOn_ret, cut_exit, cut_ret, cutx_exit, cutx_ret, reduceIte, Nat.reduceEqDiff, reduceCtorEq, Nat.one_ne_zero, Nat.zero_ne_one]
  refine st_mkp (cs := [.slice aB p.blocks.length cB, .int .i64 (p.free : Int), .slice aO p.obj.length cO, .slice aF p.objFree.length cF, .slice aE p.eqs.length cE]) rfl rfl rfl rfl rfl ?_
  refine st_alloc rfl rfl rfl rfl rfl ?_
  generalize hh : upd (upd h (3 * n + 2) _) (3 * (n + 1) + 2) _ = h1
  have hx1 : Ext n h h1 := fun b hb => by rw [← hh, upd_ne (by omega), upd_ne (by omega)]
  have hr1 : ∃ ty, h1 (3 * n + 2) = some (.row [.slice aB p.blocks.length cB, .int .i64 (p.free : Int), .slice aO p.obj.length cO, .slice aF p.objFree.length cF, .slice aE p.eqs.length cE] ty) := ⟨_, by rw [← hh, upd_ne (by omega), upd_same]⟩
  have hz1 : ∃ ty, h1 (3 * (n + 1) + 2) = some (.row zeroSdp ty) := ⟨_, by rw [← hh, upd_same]; rfl⟩
  obtain ⟨ty1, hr1⟩ := hr1
  obtain ⟨tyz, hz1⟩ := hz1
  have hG1 : GK.G h1 := G_ext hG hx1 hn
  repeat (first | refine st_ltT rfl rfl rfl rfl rfl rfl (by omega) ?_ | refine st_ltF rfl rfl rfl rfl rfl rfl (by omega) ?_ | refine st_gtT rfl rfl rfl rfl rfl rfl (by omega) ?_ | refine st_gtF rfl rfl rfl rfl rfl rfl (by omega) ?_ | refine st_geT rfl rfl rfl rfl rfl rfl (by omega) ?_ | refine st_geF rfl rfl rfl rfl rfl rfl (by omega) ?_ | refine st_add rfl rfl rfl rfl rfl rfl (by omega) ?_ | refine st_sub rfl rfl rfl rfl rfl rfl (by omega) ?_ | refine st_I rfl rfl rfl rfl rfl ?_ | refine st_B rfl rfl rfl rfl rfl ?_ | refine st_S rfl rfl rfl rfl rfl ?_ | refine st_P rfl rfl rfl rfl rfl ?_ | refine st_val (v := .pointer none) rfl rfl rfl rfl rfl ?_ | refine st_off rfl rfl rfl ?_)
  simp only [EC_seq, EC_region, EC_block, EC_scope, EC_skip, EC_exit, EC_ret, EC_label, EO_nil, ED_nil, after_normal, after_exit, after_ret, leave_normal, leave_exit, leave_ret, goesOn_exit, goesOn_ret, cut_exit, cut_ret, cutx_exit, cutx_ret, reduceIte, Nat.reduceEqDiff, reduceCtorEq, Nat.one_ne_zero, Nat.zero_ne_one]
  refine st_load (v := .agg #[.slice aB p.blocks.length cB, .int .i64 (p.free : Int), .slice aO p.obj.length cO, .slice aF p.objFree.length cF, .slice aE p.eqs.length cE]) rfl rfl rfl rfl rfl (loadn_eq rfl rfl hr1 rfl (Nat.le_of_ble_eq_true rfl) rfl) ?_
  refine st_vf _ rfl rfl rfl rfl rfl (valid_ok k hG1 hF (by omega) (vB := .slice aB p.blocks.length cB) ⟨hB.ext hx1 (show n ≤ n + 1 + 1 by omega), hO.ext hx1 (by omega), hFr.ext hx1 (by omega), ce, hE.ext hx1 (by omega), hEq.ext hx1 (by omega)⟩ hok) ?_
  rintro _ rfl
  repeat (first | refine st_ltT rfl rfl rfl rfl rfl rfl (by omega) ?_ | refine st_ltF rfl rfl rfl rfl rfl rfl (by omega) ?_ | refine st_gtT rfl rfl rfl rfl rfl rfl (by omega) ?_ | refine st_gtF rfl rfl rfl rfl rfl rfl (by omega) ?_ | refine st_geT rfl rfl rfl rfl rfl rfl (by omega) ?_ | refine st_geF rfl rfl rfl rfl rfl rfl (by omega) ?_ | refine st_add rfl rfl rfl rfl rfl rfl (by omega) ?_ | refine st_sub rfl rfl rfl rfl rfl rfl (by omega) ?_ | refine st_I rfl rfl rfl rfl rfl ?_ | refine st_B rfl rfl rfl rfl rfl ?_ | refine st_S rfl rfl rfl rfl rfl ?_ | refine st_P rfl rfl rfl rfl rfl ?_ | refine st_val (v := .pointer none) rfl rfl rfl rfl rfl ?_ | refine st_off rfl rfl rfl ?_)
  simp only [EC_seq, EC_region, EC_block, EC_scope, EC_skip, EC_exit, EC_ret, EC_label, EO_nil, ED_nil, after_normal, after_exit, after_ret, leave_normal, leave_exit, leave_ret, goesOn_exit, goesOn_ret, cut_exit, cut_ret, cutx_exit, cutx_ret, reduceIte, Nat.reduceEqDiff, reduceCtorEq, Nat.one_ne_zero, Nat.zero_ne_one]
  rw [EC_cond_false rfl]
  simp only [EC_seq, EC_region, EC_block, EC_scope, EC_skip, EC_exit, EC_ret, EC_label, EO_nil, ED_nil, after_normal, after_exit, after_ret, leave_normal, leave_exit, leave_ret, goesOn_exit, goesOn_ret, cut_exit, cut_ret, cutx_exit, cutx_ret, reduceIte, Nat.reduceEqDiff, reduceCtorEq, Nat.one_ne_zero, Nat.zero_ne_one]
  repeat (first | refine st_ltT rfl rfl rfl rfl rfl rfl (by omega) ?_ | refine st_ltF rfl rfl rfl rfl rfl rfl (by omega) ?_ | refine st_gtT rfl rfl rfl rfl rfl rfl (by omega) ?_ | refine st_gtF rfl rfl rfl rfl rfl rfl (by omega) ?_ | refine st_geT rfl rfl rfl rfl rfl rfl (by omega) ?_ | refine st_geF rfl rfl rfl rfl rfl rfl (by omega) ?_ | refine st_add rfl rfl rfl rfl rfl rfl (by omega) ?_ | refine st_sub rfl rfl rfl rfl rfl rfl (by omega) ?_ | refine st_I rfl rfl rfl rfl rfl ?_ | refine st_B rfl rfl rfl rfl rfl ?_ | refine st_S rfl rfl rfl rfl rfl ?_ | refine st_P rfl rfl rfl rfl rfl ?_ | refine st_val (v := .pointer none) rfl rfl rfl rfl rfl ?_ | refine st_off rfl rfl rfl ?_)
  simp only [EC_seq, EC_region, EC_block, EC_scope, EC_skip, EC_exit, EC_ret, EC_label, EO_nil, ED_nil, after_normal, after_exit, after_ret, leave_normal, leave_exit, leave_ret, goesOn_exit, goesOn_ret, cut_exit, cut_ret, cutx_exit, cutx_ret, reduceIte, Nat.reduceEqDiff, reduceCtorEq, Nat.one_ne_zero, Nat.zero_ne_one]
  have hE1 := hE.ext hx1 (show n ≤ n + 1 + 1 by omega)
  have hEq1 := hEq.ext hx1 (show n ≤ n + 1 + 1 by omega)
  have hK1 := hK.ext hx1 (show n ≤ n + 1 + 1 by omega)
  refine EC_for (α := Nat) (fun j => [(1, .slice aK K.length cK), (2, .pointer (some ⟨3 * n + 2, 0, none⟩)), (4, .pointer (some ⟨3 * (n + 1) + 2, 0, none⟩)), (15, .slice aK K.length cK), (16, .int .i64 (K.length : Int)), (17, .int .i64 (j : Int))])
    (fun j h' n' w => h1 = h' ∧ n' = n + 1 + 1 ∧ w = [] ∧ j ≤ K.length ∧ ∀ i, i < j → GoodAt p.eqs.length K i) (fun j => K.length - j) 0 ⟨rfl, rfl, rfl, rfl, rfl, rfl, trivial⟩ ⟨rfl, rfl, rfl, Nat.zero_le _, fun i hi => absurd hi (Nat.not_lt_zero _)⟩ (by show K.length - 0 < LL; unfold LL; omega) ?_
  rintro j t _ _ _ ⟨rfl, rfl, rfl, hj, hgood⟩
  simp only [EC_seq, EC_region, EC_block, EC_scope, EC_skip, EC_exit, EC_ret, EC_label, EO_nil, ED_nil, after_normal, after_exit, after_ret, leave_normal, leave_exit, leave_ret, goesOn_exit, goesOn_ret, cut_exit, cut_ret, cutx_exit, cutx_ret, reduceIte, Nat.reduceEqDiff, reduceCtorEq, Nat.one_ne_zero, Nat.zero_ne_one]
  by_cases hjK : j ≠ K.length
  · obtain ⟨kk, hkk⟩ : ∃ x, K[j]? = some x := ⟨K[j]'(by omega), List.getElem?_eq_getElem (by omega)⟩
    obtain ⟨bK, oK, xK, csK, rfl, hbK, hxK, hcK, _, _, heK⟩ := hK1.inv (by omega)
    have gK : csK[oK + j]? = some (.int .i64 kk) := cell_at heK (by rw [i64s, List.getElem?_map, hkk]; rfl)
    have bad : ¬ GoodAt p.eqs.length K j → ∀ t : TF, t 4 = .pointer (some ⟨3 * (n + 1) + 2, 0, none⟩) → t 5 = .int .i64 3 → RetH Tryz.f33 (fun v h' n' w => w = [] ∧ n ≤ n' ∧ Ext n h h' ∧
      (((∀ j, j < K.length → GoodAt p.eqs.length K j) ∧ ∃ vB' vO' vF' vE', v = .tuple #[.agg #[vB', .int .i64 (p.free : Int), vO', vF', vE'], .int .i64 0] ∧ SdpR h' n' vB' vO' vF' vE' (sel p K)) ∨
       (∃ j, j < K.length ∧ (∀ i, i < j → GoodAt p.eqs.length K i) ∧ ¬ GoodAt p.eqs.length K j ∧ v = .tuple #[.agg zeroSdp.toArray, .int .i64 3]))) .ret ⟨t, upd h1 (3 * (n + 1) + 2) (some (.row zeroSdp tyz)), n + 1 + 1, []⟩ := fun hbad t h4 h5 => by
      refine retH [.agg zeroSdp.toArray, .int .i64 3] rfl ?_ rfl ⟨rfl, by show n ≤ n + 1 + 1; omega, fun b hb => (upd_ne (by omega)).trans (hx1 b hb), .inr ⟨j, by omega, hgood, hbad, rfl⟩⟩
      show resF env _ [.cell 4 27, .tmp 5] = _
      simp only [resF, h4, h5, loadn_eq (E := env) (ty := 27) (off := 0) rfl rfl (upd_same h1 (3 * (n + 1) + 2) (some (.row zeroSdp tyz))) rfl (Nat.le_of_ble_eq_true rfl) (cs := zeroSdp) rfl]
    repeat (first | refine st_ltT rfl rfl rfl rfl rfl rfl (by omega) ?_ | refine st_ltF rfl rfl rfl rfl rfl rfl (by omega) ?_ | refine st_gtT rfl rfl rfl rfl rfl rfl (by omega) ?_ | refine st_gtF rfl rfl rfl rfl rfl rfl (by omega) ?_ | refine st_geT rfl rfl rfl rfl rfl rfl (by omega) ?_ | refine st_geF rfl rfl rfl rfl rfl rfl (by omega) ?_ | refine st_add rfl rfl rfl rfl rfl rfl (by omega) ?_ | refine st_sub rfl rfl rfl rfl rfl rfl (by omega) ?_ | refine st_I rfl rfl rfl rfl rfl ?_ | refine st_B rfl rfl rfl rfl rfl ?_ | refine st_S rfl rfl rfl rfl rfl ?_ | refine st_P rfl rfl rfl rfl rfl ?_ | refine st_val (v := .pointer none) rfl rfl rfl rfl rfl ?_ | refine st_off rfl rfl rfl ?_)
    simp only [EC_seq, EC_region, EC_block, EC_scope, EC_skip, EC_exit, EC_ret, EC_label, EO_nil, ED_nil, after_normal, after_exit, after_ret, leave_normal, leave_exit, leave_ret, goesOn_exit, goesOn_ret, cut_exit, cut_ret, cutx_exit, cutx_ret, reduceIte, Nat.reduceEqDiff, reduceCtorEq, Nat.one_ne_zero, Nat.zero_ne_one]
    rw [EC_cond_true rfl]
    simp only [EC_seq, EC_region, EC_block, EC_scope, EC_skip, EC_exit, EC_ret, EC_label, EO_nil, ED_nil, after_normal, after_exit, after_ret, leave_normal, leave_exit, leave_ret, goesOn_exit, goesOn_ret, cut_exit, cut_ret, cutx_exit, cutx_ret, reduceIte, Nat.reduceEqDiff, reduceCtorEq, Nat.one_ne_zero, Nat.zero_ne_one]
    repeat (first | refine st_ltT rfl rfl rfl rfl rfl rfl (by omega) ?_ | refine st_ltF rfl rfl rfl rfl rfl rfl (by omega) ?_ | refine st_gtT rfl rfl rfl rfl rfl rfl (by omega) ?_ | refine st_gtF rfl rfl rfl rfl rfl rfl (by omega) ?_ | refine st_geT rfl rfl rfl rfl rfl rfl (by omega) ?_ | refine st_geF rfl rfl rfl rfl rfl rfl (by omega) ?_ | refine st_add rfl rfl rfl rfl rfl rfl (by omega) ?_ | refine st_sub rfl rfl rfl rfl rfl rfl (by omega) ?_ | refine st_I rfl rfl rfl rfl rfl ?_ | refine st_B rfl rfl rfl rfl rfl ?_ | refine st_S rfl rfl rfl rfl rfl ?_ | refine st_P rfl rfl rfl rfl rfl ?_ | refine st_val (v := .pointer none) rfl rfl rfl rfl rfl ?_ | refine st_off rfl rfl rfl ?_)
    refine st_idx rfl rfl rfl rfl rfl rfl rfl rfl (by omega) ?_
    refine st_load1 rfl rfl rfl rfl rfl rfl hxK hcK (v := .int .i64 kk) (by rw [← gK]; congr 1; omega) ?_
    repeat (first | refine st_ltT rfl rfl rfl rfl rfl rfl (by omega) ?_ | refine st_ltF rfl rfl rfl rfl rfl rfl (by omega) ?_ | refine st_gtT rfl rfl rfl rfl rfl rfl (by omega) ?_ | refine st_gtF rfl rfl rfl rfl rfl rfl (by omega) ?_ | refine st_geT rfl rfl rfl rfl rfl rfl (by omega) ?_ | refine st_geF rfl rfl rfl rfl rfl rfl (by omega) ?_ | refine st_add rfl rfl rfl rfl rfl rfl (by omega) ?_ | refine st_sub rfl rfl rfl rfl rfl rfl (by omega) ?_ | refine st_I rfl rfl rfl rfl rfl ?_ | refine st_B rfl rfl rfl rfl rfl ?_ | refine st_S rfl rfl rfl rfl rfl ?_ | refine st_P rfl rfl rfl rfl rfl ?_ | refine st_val (v := .pointer none) rfl rfl rfl rfl rfl ?_ | refine st_off rfl rfl rfl ?_)
    simp only [EC_seq, EC_region, EC_block, EC_scope, EC_skip, EC_exit, EC_ret, EC_label, EO_nil, ED_nil, after_normal, after_exit, after_ret, leave_normal, leave_exit, leave_ret, goesOn_exit, goesOn_ret, cut_exit, cut_ret, cutx_exit, cutx_ret, reduceIte, Nat.reduceEqDiff, reduceCtorEq, Nat.one_ne_zero, Nat.zero_ne_one]
    by_cases hk0 : kk < 0
    · repeat (first | refine st_ltT rfl rfl rfl rfl rfl rfl (by omega) ?_ | refine st_ltF rfl rfl rfl rfl rfl rfl (by omega) ?_ | refine st_gtT rfl rfl rfl rfl rfl rfl (by omega) ?_ | refine st_gtF rfl rfl rfl rfl rfl rfl (by omega) ?_ | refine st_geT rfl rfl rfl rfl rfl rfl (by omega) ?_ | refine st_geF rfl rfl rfl rfl rfl rfl (by omega) ?_ | refine st_add rfl rfl rfl rfl rfl rfl (by omega) ?_ | refine st_sub rfl rfl rfl rfl rfl rfl (by omega) ?_ | refine st_I rfl rfl rfl rfl rfl ?_ | refine st_B rfl rfl rfl rfl rfl ?_ | refine st_S rfl rfl rfl rfl rfl ?_ | refine st_P rfl rfl rfl rfl rfl ?_ | refine st_val (v := .pointer none) rfl rfl rfl rfl rfl ?_ | refine st_off rfl rfl rfl ?_)
      simp only [EC_seq, EC_region, EC_block, EC_scope, EC_skip, EC_exit, EC_ret, EC_label, EO_nil, ED_nil, after_normal, after_exit, after_ret, leave_normal, leave_exit, leave_ret, goesOn_exit, goesOn_ret, cut_exit, cut_ret, cutx_exit, cutx_ret, reduceIte, Nat.reduceEqDiff, reduceCtorEq, Nat.one_ne_zero, Nat.zero_ne_one]
      rw [EC_cond_true rfl]
      simp only [EC_seq, EC_region, EC_block, EC_scope, EC_skip, EC_exit, EC_ret, EC_label, EO_nil, ED_nil, after_normal, after_exit, after_ret, leave_normal, leave_exit, leave_ret, goesOn_exit, goesOn_ret, cut_exit, cut_ret, cutx_exit, cutx_ret, reduceIte, Nat.reduceEqDiff, reduceCtorEq, Nat.one_ne_zero, Nat.zero_ne_one]
      refine st_val (v := .agg zeroSdp.toArray) rfl rfl rfl rfl rfl ?_
      refine st_storeW zeroSdp rfl rfl rfl rfl rfl rfl rfl rfl hz1 rfl (by show 3 * n ≤ 3 * (n + 1) + 2; omega) ?_
      repeat (first | refine st_ltT rfl rfl rfl rfl rfl rfl (by omega) ?_ | refine st_ltF rfl rfl rfl rfl rfl rfl (by omega) ?_ | refine st_gtT rfl rfl rfl rfl rfl rfl (by omega) ?_ | refine st_gtF rfl rfl rfl rfl rfl rfl (by omega) ?_ | refine st_geT rfl rfl rfl rfl rfl rfl (by omega) ?_ | refine st_geF rfl rfl rfl rfl rfl rfl (by omega) ?_ | refine st_add rfl rfl rfl rfl rfl rfl (by omega) ?_ | refine st_sub rfl rfl rfl rfl rfl rfl (by omega) ?_ | refine st_I rfl rfl rfl rfl rfl ?_ | refine st_B rfl rfl rfl rfl rfl ?_ | refine st_S rfl rfl rfl rfl rfl ?_ | refine st_P rfl rfl rfl rfl rfl ?_ | refine st_val (v := .pointer none) rfl rfl rfl rfl rfl ?_ | refine st_off rfl rfl rfl ?_)
      simp only [EC_seq, EC_region, EC_block, EC_scope, EC_skip, EC_exit, EC_ret, EC_label, EO_nil, ED_nil, after_normal, after_exit, after_ret, leave_normal, leave_exit, leave_ret, goesOn_exit, goesOn_ret, cut_exit, cut_ret, cutx_exit, cutx_ret, reduceIte, Nat.reduceEqDiff, reduceCtorEq, Nat.one_ne_zero, Nat.zero_ne_one]
      exact bad (fun hg => by have := (hg kk hkk).1; omega) _ rfl rfl
    · repeat (first | refine st_ltT rfl rfl rfl rfl rfl rfl (by omega) ?_ | refine st_ltF rfl rfl rfl rfl rfl rfl (by omega) ?_ | refine st_gtT rfl rfl rfl rfl rfl rfl (by omega) ?_ | refine st_gtF rfl rfl rfl rfl rfl rfl (by omega) ?_ | refine st_geT rfl rfl rfl rfl rfl rfl (by omega) ?_ | refine st_geF rfl rfl rfl rfl rfl rfl (by omega) ?_ | refine st_add rfl rfl rfl rfl rfl rfl (by omega) ?_ | refine st_sub rfl rfl rfl rfl rfl rfl (by omega) ?_ | refine st_I rfl rfl rfl rfl rfl ?_ | refine st_B rfl rfl rfl rfl rfl ?_ | refine st_S rfl rfl rfl rfl rfl ?_ | refine st_P rfl rfl rfl rfl rfl ?_ | refine st_val (v := .pointer none) rfl rfl rfl rfl rfl ?_ | refine st_off rfl rfl rfl ?_)
      refine st_load1 rfl rfl rfl rfl rfl rfl hr1 rfl (v := .slice aE p.eqs.length cE) rfl ?_
      by_cases hkm : (p.eqs.length : Int) ≤ kk
      · repeat (first | refine st_ltT rfl rfl rfl rfl rfl rfl (by omega) ?_ | refine st_ltF rfl rfl rfl rfl rfl rfl (by omega) ?_ | refine st_gtT rfl rfl rfl rfl rfl rfl (by omega) ?_ | refine st_gtF rfl rfl rfl rfl rfl rfl (by omega) ?_ | refine st_geT rfl rfl rfl rfl rfl rfl (by omega) ?_ | refine st_geF rfl rfl rfl rfl rfl rfl (by omega) ?_ | refine st_add rfl rfl rfl rfl rfl rfl (by omega) ?_ | refine st_sub rfl rfl rfl rfl rfl rfl (by omega) ?_ | refine st_I rfl rfl rfl rfl rfl ?_ | refine st_B rfl rfl rfl rfl rfl ?_ | refine st_S rfl rfl rfl rfl rfl ?_ | refine st_P rfl rfl rfl rfl rfl ?_ | refine st_val (v := .pointer none) rfl rfl rfl rfl rfl ?_ | refine st_off rfl rfl rfl ?_)
        simp only [EC_seq, EC_region, EC_block, EC_scope, EC_skip, EC_exit, EC_ret, EC_label, EO_nil, ED_nil, after_normal, after_exit, after_ret, leave_normal, leave_exit, leave_ret, goesOn_exit, goesOn_ret, cut_exit, cut_ret, cutx_exit, cutx_ret, reduceIte, Nat.reduceEqDiff, reduceCtorEq, Nat.one_ne_zero, Nat.zero_ne_one]
        rw [EC_cond_true rfl]
        simp only [EC_seq, EC_region, EC_block, EC_scope, EC_skip, EC_exit, EC_ret, EC_label, EO_nil, ED_nil, after_normal, after_exit, after_ret, leave_normal, leave_exit, leave_ret, goesOn_exit, goesOn_ret, cut_exit, cut_ret, cutx_exit, cutx_ret, reduceIte, Nat.reduceEqDiff, reduceCtorEq, Nat.one_ne_zero, Nat.zero_ne_one]
        refine st_val (v := .agg zeroSdp.toArray) rfl rfl rfl rfl rfl ?_
        refine st_storeW zeroSdp rfl rfl rfl rfl rfl rfl rfl rfl hz1 rfl (by show 3 * n ≤ 3 * (n + 1) + 2; omega) ?_
        repeat (first | refine st_ltT rfl rfl rfl rfl rfl rfl (by omega) ?_ | refine st_ltF rfl rfl rfl rfl rfl rfl (by omega) ?_ | refine st_gtT rfl rfl rfl rfl rfl rfl (by omega) ?_ | refine st_gtF rfl rfl rfl rfl rfl rfl (by omega) ?_ | refine st_geT rfl rfl rfl rfl rfl rfl (by omega) ?_ | refine st_geF rfl rfl rfl rfl rfl rfl (by omega) ?_ | refine st_add rfl rfl rfl rfl rfl rfl (by omega) ?_ | refine st_sub rfl rfl rfl rfl rfl rfl (by omega) ?_ | refine st_I rfl rfl rfl rfl rfl ?_ | refine st_B rfl rfl rfl rfl rfl ?_ | refine st_S rfl rfl rfl rfl rfl ?_ | refine st_P rfl rfl rfl rfl rfl ?_ | refine st_val (v := .pointer none) rfl rfl rfl rfl rfl ?_ | refine st_off rfl rfl rfl ?_)
        simp only [EC_seq, EC_region, EC_block, EC_scope, EC_skip, EC_exit, EC_ret, EC_label, EO_nil, ED_nil, after_normal, after_exit, after_ret, leave_normal, leave_exit, leave_ret, goesOn_exit, goesOn_ret, cut_exit, cut_ret, cutx_exit, cutx_ret, reduceIte, Nat.reduceEqDiff, reduceCtorEq, Nat.one_ne_zero, Nat.zero_ne_one]
        exact bad (fun hg => by have := (hg kk hkk).2.1; omega) _ rfl rfl
      · by_cases hj0 : j = 0
        · repeat (first | refine st_ltT rfl rfl rfl rfl rfl rfl (by omega) ?_ | refine st_ltF rfl rfl rfl rfl rfl rfl (by omega) ?_ | refine st_gtT rfl rfl rfl rfl rfl rfl (by omega) ?_ | refine st_gtF rfl rfl rfl rfl rfl rfl (by omega) ?_ | refine st_geT rfl rfl rfl rfl rfl rfl (by omega) ?_ | refine st_geF rfl rfl rfl rfl rfl rfl (by omega) ?_ | refine st_add rfl rfl rfl rfl rfl rfl (by omega) ?_ | refine st_sub rfl rfl rfl rfl rfl rfl (by omega) ?_ | refine st_I rfl rfl rfl rfl rfl ?_ | refine st_B rfl rfl rfl rfl rfl ?_ | refine st_S rfl rfl rfl rfl rfl ?_ | refine st_P rfl rfl rfl rfl rfl ?_ | refine st_val (v := .pointer none) rfl rfl rfl rfl rfl ?_ | refine st_off rfl rfl rfl ?_)
          simp only [EC_seq, EC_region, EC_block, EC_scope, EC_skip, EC_exit, EC_ret, EC_label, EO_nil, ED_nil, after_normal, after_exit, after_ret, leave_normal, leave_exit, leave_ret, goesOn_exit, goesOn_ret, cut_exit, cut_ret, cutx_exit, cutx_ret, reduceIte, Nat.reduceEqDiff, reduceCtorEq, Nat.one_ne_zero, Nat.zero_ne_one]
          rw [EC_cond_false rfl]
          simp only [EC_seq, EC_region, EC_block, EC_scope, EC_skip, EC_exit, EC_ret, EC_label, EO_nil, ED_nil, after_normal, after_exit, after_ret, leave_normal, leave_exit, leave_ret, goesOn_exit, goesOn_ret, cut_exit, cut_ret, cutx_exit, cutx_ret, reduceIte, Nat.reduceEqDiff, reduceCtorEq, Nat.one_ne_zero, Nat.zero_ne_one]
          repeat (first | refine st_ltT rfl rfl rfl rfl rfl rfl (by omega) ?_ | refine st_ltF rfl rfl rfl rfl rfl rfl (by omega) ?_ | refine st_gtT rfl rfl rfl rfl rfl rfl (by omega) ?_ | refine st_gtF rfl rfl rfl rfl rfl rfl (by omega) ?_ | refine st_geT rfl rfl rfl rfl rfl rfl (by omega) ?_ | refine st_geF rfl rfl rfl rfl rfl rfl (by omega) ?_ | refine st_add rfl rfl rfl rfl rfl rfl (by omega) ?_ | refine st_sub rfl rfl rfl rfl rfl rfl (by omega) ?_ | refine st_I rfl rfl rfl rfl rfl ?_ | refine st_B rfl rfl rfl rfl rfl ?_ | refine st_S rfl rfl rfl rfl rfl ?_ | refine st_P rfl rfl rfl rfl rfl ?_ | refine st_val (v := .pointer none) rfl rfl rfl rfl rfl ?_ | refine st_off rfl rfl rfl ?_)
          simp only [EC_seq, EC_region, EC_block, EC_scope, EC_skip, EC_exit, EC_ret, EC_label, EO_nil, ED_nil, after_normal, after_exit, after_ret, leave_normal, leave_exit, leave_ret, goesOn_exit, goesOn_ret, cut_exit, cut_ret, cutx_exit, cutx_ret, reduceIte, Nat.reduceEqDiff, reduceCtorEq, Nat.one_ne_zero, Nat.zero_ne_one]
          refine goOn (j + 1) (by show K.length - (j + 1) < K.length - j; omega) ⟨rfl, rfl, rfl, rfl, rfl, by show Value.int .i64 _ = Value.int .i64 _; congr 1, trivial⟩ ⟨rfl, rfl, rfl, by show j + 1 ≤ K.length; omega, fun i hi => ?_⟩
          by_cases hij : i = j
          · subst hij
            intro k' hk'
            rw [hkk] at hk'
            injection hk' with hk'
            subst hk'
            exact ⟨by omega, by omega, fun k2 h0 => by omega⟩
          · exact hgood i (by omega)
        · obtain ⟨k2, hk2⟩ : ∃ x, K[j - 1]? = some x := ⟨K[j - 1]'(by omega), List.getElem?_eq_getElem (by omega)⟩
          have gK2 : csK[oK + (j - 1)]? = some (.int .i64 k2) := cell_at heK (by rw [i64s, List.getElem?_map, hk2]; rfl)
          repeat (first | refine st_ltT rfl rfl rfl rfl rfl rfl (by omega) ?_ | refine st_ltF rfl rfl rfl rfl rfl rfl (by omega) ?_ | refine st_gtT rfl rfl rfl rfl rfl rfl (by omega) ?_ | refine st_gtF rfl rfl rfl rfl rfl rfl (by omega) ?_ | refine st_geT rfl rfl rfl rfl rfl rfl (by omega) ?_ | refine st_geF rfl rfl rfl rfl rfl rfl (by omega) ?_ | refine st_add rfl rfl rfl rfl rfl rfl (by omega) ?_ | refine st_sub rfl rfl rfl rfl rfl rfl (by omega) ?_ | refine st_I rfl rfl rfl rfl rfl ?_ | refine st_B rfl rfl rfl rfl rfl ?_ | refine st_S rfl rfl rfl rfl rfl ?_ | refine st_P rfl rfl rfl rfl rfl ?_ | refine st_val (v := .pointer none) rfl rfl rfl rfl rfl ?_ | refine st_off rfl rfl rfl ?_)
          refine st_idx rfl rfl rfl rfl rfl rfl rfl rfl (by omega) ?_
          refine st_load1 rfl rfl rfl rfl rfl rfl hxK hcK (v := .int .i64 k2) (by rw [← gK2]; congr 1; omega) ?_
          by_cases hlt : k2 < kk
          · repeat (first | refine st_ltT rfl rfl rfl rfl rfl rfl (by omega) ?_ | refine st_ltF rfl rfl rfl rfl rfl rfl (by omega) ?_ | refine st_gtT rfl rfl rfl rfl rfl rfl (by omega) ?_ | refine st_gtF rfl rfl rfl rfl rfl rfl (by omega) ?_ | refine st_geT rfl rfl rfl rfl rfl rfl (by omega) ?_ | refine st_geF rfl rfl rfl rfl rfl rfl (by omega) ?_ | refine st_add rfl rfl rfl rfl rfl rfl (by omega) ?_ | refine st_sub rfl rfl rfl rfl rfl rfl (by omega) ?_ | refine st_I rfl rfl rfl rfl rfl ?_ | refine st_B rfl rfl rfl rfl rfl ?_ | refine st_S rfl rfl rfl rfl rfl ?_ | refine st_P rfl rfl rfl rfl rfl ?_ | refine st_val (v := .pointer none) rfl rfl rfl rfl rfl ?_ | refine st_off rfl rfl rfl ?_)
            simp only [EC_seq, EC_region, EC_block, EC_scope, EC_skip, EC_exit, EC_ret, EC_label, EO_nil, ED_nil, after_normal, after_exit, after_ret, leave_normal, leave_exit, leave_ret, goesOn_exit, goesOn_ret, cut_exit, cut_ret, cutx_exit, cutx_ret, reduceIte, Nat.reduceEqDiff, reduceCtorEq, Nat.one_ne_zero, Nat.zero_ne_one]
            rw [EC_cond_false rfl]
            simp only [EC_seq, EC_region, EC_block, EC_scope, EC_skip, EC_exit, EC_ret, EC_label, EO_nil, ED_nil, after_normal, after_exit, after_ret, leave_normal, leave_exit, leave_ret, goesOn_exit, goesOn_ret, cut_exit, cut_ret, cutx_exit, cutx_ret, reduceIte, Nat.reduceEqDiff, reduceCtorEq, Nat.one_ne_zero, Nat.zero_ne_one]
            repeat (first | refine st_ltT rfl rfl rfl rfl rfl rfl (by omega) ?_ | refine st_ltF rfl rfl rfl rfl rfl rfl (by omega) ?_ | refine st_gtT rfl rfl rfl rfl rfl rfl (by omega) ?_ | refine st_gtF rfl rfl rfl rfl rfl rfl (by omega) ?_ | refine st_geT rfl rfl rfl rfl rfl rfl (by omega) ?_ | refine st_geF rfl rfl rfl rfl rfl rfl (by omega) ?_ | refine st_add rfl rfl rfl rfl rfl rfl (by omega) ?_ | refine st_sub rfl rfl rfl rfl rfl rfl (by omega) ?_ | refine st_I rfl rfl rfl rfl rfl ?_ | refine st_B rfl rfl rfl rfl rfl ?_ | refine st_S rfl rfl rfl rfl rfl ?_ | refine st_P rfl rfl rfl rfl rfl ?_ | refine st_val (v := .pointer none) rfl rfl rfl rfl rfl ?_ | refine st_off rfl rfl rfl ?_)
            simp only [EC_seq, EC_region, EC_block, EC_scope, EC_skip, EC_exit, EC_ret, EC_label, EO_nil, ED_nil, after_normal, after_exit, after_ret, leave_normal, leave_exit, leave_ret, goesOn_exit, goesOn_ret, cut_exit, cut_ret, cutx_exit, cutx_ret, reduceIte, Nat.reduceEqDiff, reduceCtorEq, Nat.one_ne_zero, Nat.zero_ne_one]
            refine goOn (j + 1) (by show K.length - (j + 1) < K.length - j; omega) ⟨rfl, rfl, rfl, rfl, rfl, by show Value.int .i64 _ = Value.int .i64 _; congr 1, trivial⟩ ⟨rfl, rfl, rfl, by show j + 1 ≤ K.length; omega, fun i hi => ?_⟩
            by_cases hij : i = j
            · subst hij
              intro k' hk'
              rw [hkk] at hk'
              injection hk' with hk'
              subst hk'
              refine ⟨by omega, by omega, fun k3 h0 h3 => ?_⟩
              rw [hk2] at h3
              injection h3 with h3
              omega
            · exact hgood i (by omega)
          · repeat (first | refine st_ltT rfl rfl rfl rfl rfl rfl (by omega) ?_ | refine st_ltF rfl rfl rfl rfl rfl rfl (by omega) ?_ | refine st_gtT rfl rfl rfl rfl rfl rfl (by omega) ?_ | refine st_gtF rfl rfl rfl rfl rfl rfl (by omega) ?_ | refine st_geT rfl rfl rfl rfl rfl rfl (by omega) ?_ | refine st_geF rfl rfl rfl rfl rfl rfl (by omega) ?_ | refine st_add rfl rfl rfl rfl rfl rfl (by omega) ?_ | refine st_sub rfl rfl rfl rfl rfl rfl (by omega) ?_ | refine st_I rfl rfl rfl rfl rfl ?_ | refine st_B rfl rfl rfl rfl rfl ?_ | refine st_S rfl rfl rfl rfl rfl ?_ | refine st_P rfl rfl rfl rfl rfl ?_ | refine st_val (v := .pointer none) rfl rfl rfl rfl rfl ?_ | refine st_off rfl rfl rfl ?_)
            simp only [EC_seq, EC_region, EC_block, EC_scope, EC_skip, EC_exit, EC_ret, EC_label, EO_nil, ED_nil, after_normal, after_exit, after_ret, leave_normal, leave_exit, leave_ret, goesOn_exit, goesOn_ret, cut_exit, cut_ret, cutx_exit, cutx_ret, reduceIte, Nat.reduceEqDiff, reduceCtorEq, Nat.one_ne_zero, Nat.zero_ne_one]
            rw [EC_cond_true rfl]
            simp only [EC_seq, EC_region, EC_block, EC_scope, EC_skip, EC_exit, EC_ret, EC_label, EO_nil, ED_nil, after_normal, after_exit, after_ret, leave_normal, leave_exit, leave_ret, goesOn_exit, goesOn_ret, cut_exit, cut_ret, cutx_exit, cutx_ret, reduceIte, Nat.reduceEqDiff, reduceCtorEq, Nat.one_ne_zero, Nat.zero_ne_one]
            refine st_val (v := .agg zeroSdp.toArray) rfl rfl rfl rfl rfl ?_
            refine st_storeW zeroSdp rfl rfl rfl rfl rfl rfl rfl rfl hz1 rfl (by show 3 * n ≤ 3 * (n + 1) + 2; omega) ?_
            repeat (first | refine st_ltT rfl rfl rfl rfl rfl rfl (by omega) ?_ | refine st_ltF rfl rfl rfl rfl rfl rfl (by omega) ?_ | refine st_gtT rfl rfl rfl rfl rfl rfl (by omega) ?_ | refine st_gtF rfl rfl rfl rfl rfl rfl (by omega) ?_ | refine st_geT rfl rfl rfl rfl rfl rfl (by omega) ?_ | refine st_geF rfl rfl rfl rfl rfl rfl (by omega) ?_ | refine st_add rfl rfl rfl rfl rfl rfl (by omega) ?_ | refine st_sub rfl rfl rfl rfl rfl rfl (by omega) ?_ | refine st_I rfl rfl rfl rfl rfl ?_ | refine st_B rfl rfl rfl rfl rfl ?_ | refine st_S rfl rfl rfl rfl rfl ?_ | refine st_P rfl rfl rfl rfl rfl ?_ | refine st_val (v := .pointer none) rfl rfl rfl rfl rfl ?_ | refine st_off rfl rfl rfl ?_)
            simp only [EC_seq, EC_region, EC_block, EC_scope, EC_skip, EC_exit, EC_ret, EC_label, EO_nil, ED_nil, after_normal, after_exit, after_ret, leave_normal, leave_exit, leave_ret, goesOn_exit, goesOn_ret, cut_exit, cut_ret, cutx_exit, cutx_ret, reduceIte, Nat.reduceEqDiff, reduceCtorEq, Nat.one_ne_zero, Nat.zero_ne_one]
            exact bad (fun hg => hlt ((hg kk hkk).2.2 k2 (by omega) hk2)) _ rfl rfl
  have hjK : j = K.length := Classical.not_not.1 hjK
  subst hjK
  have hB1 := hB.ext hx1 (show n ≤ n + 1 + 1 by omega)
  have hO1 := hO.ext hx1 (show n ≤ n + 1 + 1 by omega)
  have hF1 := hFr.ext hx1 (show n ≤ n + 1 + 1 by omega)
  have hobl := hok.objl
  repeat (first | refine st_ltT rfl rfl rfl rfl rfl rfl (by omega) ?_ | refine st_ltF rfl rfl rfl rfl rfl rfl (by omega) ?_ | refine st_gtT rfl rfl rfl rfl rfl rfl (by omega) ?_ | refine st_gtF rfl rfl rfl rfl rfl rfl (by omega) ?_ | refine st_geT rfl rfl rfl rfl rfl rfl (by omega) ?_ | refine st_geF rfl rfl rfl rfl rfl rfl (by omega) ?_ | refine st_add rfl rfl rfl rfl rfl rfl (by omega) ?_ | refine st_sub rfl rfl rfl rfl rfl rfl (by omega) ?_ | refine st_I rfl rfl rfl rfl rfl ?_ | refine st_B rfl rfl rfl rfl rfl ?_ | refine st_S rfl rfl rfl rfl rfl ?_ | refine st_P rfl rfl rfl rfl rfl ?_ | refine st_val (v := .pointer none) rfl rfl rfl rfl rfl ?_ | refine st_off rfl rfl rfl ?_)
  simp only [EC_seq, EC_region, EC_block, EC_scope, EC_skip, EC_exit, EC_ret, EC_label, EO_nil, ED_nil, after_normal, after_exit, after_ret, leave_normal, leave_exit, leave_ret, goesOn_exit, goesOn_ret, cut_exit, cut_ret, cutx_exit, cutx_ret, reduceIte, Nat.reduceEqDiff, reduceCtorEq, Nat.one_ne_zero, Nat.zero_ne_one]
  rw [EC_cond_false rfl]
  simp only [EC_seq, EC_region, EC_block, EC_scope, EC_skip, EC_exit, EC_ret, EC_label, EO_nil, ED_nil, after_normal, after_exit, after_ret, leave_normal, leave_exit, leave_ret, goesOn_exit, goesOn_ret, cut_exit, cut_ret, cutx_exit, cutx_ret, reduceIte, Nat.reduceEqDiff, reduceCtorEq, Nat.one_ne_zero, Nat.zero_ne_one]
  refine EC_draw [0, 1, 3, 0, 8, 0, 32, 103, 0, 256, 999, 2047, 0, 8191] rfl ?_
  repeat (first | refine dr_I rfl rfl rfl rfl rfl ?_ | refine dr_P rfl rfl rfl rfl rfl ?_)
  refine dr_load rfl rfl rfl rfl rfl rfl (load1_eq rfl hr1 rfl (v := .slice aB p.blocks.length cB) rfl) rfl rfl ?_
  refine dr_call _ rfl rfl rfl rfl rfl rfl rfl (clone_int (k + 2) hB1 (by omega)) ?_
  rintro _ h2 n2 _ ⟨rfl, hn2, hx2, hs2, hf2, a2, c2, rfl⟩
  refine ⟨okLoads_nil, hn2, ?_⟩
  repeat (first | refine dr_I rfl rfl rfl rfl rfl ?_ | refine dr_P rfl rfl rfl rfl rfl ?_)
  refine dr_load rfl rfl rfl rfl rfl rfl (load1_eq rfl hr1 rfl (v := .int .i64 (p.free : Int)) rfl) (okEffsF_nil (by simp)) rfl ?_
  repeat (first | refine dr_I rfl rfl rfl rfl rfl ?_ | refine dr_P rfl rfl rfl rfl rfl ?_)
  refine dr_load rfl rfl rfl rfl rfl rfl (load1_eq rfl hr1 rfl (v := .slice aO p.obj.length cO) rfl) (okEffsF_nil (by simp)) rfl ?_
  refine dr_call _ rfl rfl rfl rfl rfl rfl rfl (clone_ent (k + 2) (hO1.ext hx2 hn2) (by omega)) ?_
  rintro _ h3 n3 _ ⟨rfl, hn3, hx3, hs3, hf3, a3, c3, rfl⟩
  refine ⟨okLoads_nil, hn3, ?_⟩
  repeat (first | refine dr_I rfl rfl rfl rfl rfl ?_ | refine dr_P rfl rfl rfl rfl rfl ?_)
  refine dr_load rfl rfl rfl rfl rfl rfl (load1_eq rfl hr1 rfl (v := .slice aF p.objFree.length cF) rfl) (okEffsF_nil (by simp)) rfl ?_
  refine dr_call _ rfl rfl rfl rfl rfl rfl rfl (clone_str (k + 2) ((hF1.ext hx2 hn2).ext hx3 hn3) (by omega)) ?_
  rintro _ h4 n4 _ ⟨rfl, hn4, hx4, hs4, hf4, a4, c4, rfl⟩
  refine ⟨okLoads_nil, hn4, ?_⟩
  refine dr_val (v := .agg #[.slice a2 p.blocks.length c2, .int .i64 (p.free : Int), .slice a3 p.obj.length c3, .slice a4 p.objFree.length c4, .slice none 0 0]) rfl rfl rfl rfl rfl ?_
  refine dr_mkp (cs := zeroSdp) rfl rfl rfl rfl rfl ?_
  refine dr_storeN (cs := [.slice a2 p.blocks.length c2, .int .i64 (p.free : Int), .slice a3 p.obj.length c3, .slice a4 p.objFree.length c4, .slice none 0 0]) rfl rfl rfl rfl rfl rfl rfl rfl (upd_same _ _ _) (Nat.le_of_ble_eq_true rfl) (by show 3 * n ≤ 3 * n4 + 2; omega) rfl rfl rfl ?_
  rw [upd_upd]
  simp only [EC_seq, EC_region, EC_block, EC_scope, EC_skip, EC_exit, EC_ret, EC_label, EO_nil, ED_nil, after_normal, after_exit, after_ret, leave_normal, leave_exit, leave_ret, goesOn_exit, goesOn_ret, cut_exit, cut_ret, cutx_exit, cutx_ret, reduceIte, Nat.reduceEqDiff, reduceCtorEq, Nat.one_ne_zero, Nat.zero_ne_one]
  repeat (first | refine st_ltT rfl rfl rfl rfl rfl rfl (by omega) ?_ | refine st_ltF rfl rfl rfl rfl rfl rfl (by omega) ?_ | refine st_gtT rfl rfl rfl rfl rfl rfl (by omega) ?_ | refine st_gtF rfl rfl rfl rfl rfl rfl (by omega) ?_ | refine st_geT rfl rfl rfl rfl rfl rfl (by omega) ?_ | refine st_geF rfl rfl rfl rfl rfl rfl (by omega) ?_ | refine st_add rfl rfl rfl rfl rfl rfl (by omega) ?_ | refine st_sub rfl rfl rfl rfl rfl rfl (by omega) ?_ | refine st_I rfl rfl rfl rfl rfl ?_ | refine st_B rfl rfl rfl rfl rfl ?_ | refine st_S rfl rfl rfl rfl rfl ?_ | refine st_P rfl rfl rfl rfl rfl ?_ | refine st_val (v := .pointer none) rfl rfl rfl rfl rfl ?_ | refine st_off rfl rfl rfl ?_)
  simp only [EC_seq, EC_region, EC_block, EC_scope, EC_skip, EC_exit, EC_ret, EC_label, EO_nil, ED_nil, after_normal, after_exit, after_ret, leave_normal, leave_exit, leave_ret, goesOn_exit, goesOn_ret, cut_exit, cut_ret, cutx_exit, cutx_ret, reduceIte, Nat.reduceEqDiff, reduceCtorEq, Nat.one_ne_zero, Nat.zero_ne_one]
  generalize hh5 : upd h4 (3 * n4 + 2) _ = h5
  have hp5 : ∃ e, h5 (3 * n4 + 2) = some (.row [.slice a2 p.blocks.length c2, .int .i64 (p.free : Int), .slice a3 p.obj.length c3, .slice a4 p.objFree.length c4, .slice none 0 0] e) := ⟨_, by rw [← hh5, upd_same]; rfl⟩
  have hx5 : Ext n4 h4 h5 := by rw [← hh5]; exact Ext.upd (by omega)
  have hx15 : Ext (n + 1 + 1) h1 h5 := fun b hb => by rw [hx5 b (by omega), hx4 b (by omega), hx3 b (by omega), hx2 b hb]
  have hs2' : Sl h5 (n4 + 1) 1 _ _ := ((hs2.ext hx3 hn3).ext hx4 hn4).ext hx5 (Nat.le_succ n4)
  have hs3' : Sl h5 (n4 + 1) 4 _ _ := (hs3.ext hx4 hn4).ext hx5 (Nat.le_succ n4)
  have hs4' : Sl h5 (n4 + 1) 1 _ _ := hs4.ext hx5 (Nat.le_succ n4)
  have hb2 : Below n4 (.slice a2 p.blocks.length c2) := ((hs2.ext hx3 hn3).ext hx4 hn4).below
  have hb3 : Below n4 (.slice a3 p.obj.length c3) := (hs3.ext hx4 hn4).below
  have hb4 : Below n4 (.slice a4 p.objFree.length c4) := hs4.below
  have hr5 : h5 (3 * n + 2) = _ := (hx15 _ (by omega)).trans hr1
  have hz5 : h5 (3 * (n + 1) + 2) = _ := (hx15 _ (by omega)).trans hz1
  have hK5 := hK1.ext hx15 (show n + 1 + 1 ≤ n4 + 1 by omega)
  have hE5 := hE1.ext hx15 (show n + 1 + 1 ≤ n4 + 1 by omega)
  have hEq5 := hEq1.ext hx15 (show n + 1 + 1 ≤ n4 + 1 by omega)
  refine EC_for (α := Nat × Value × List Value × List Eqn) (fun z => [(2, .pointer (some ⟨3 * n + 2, 0, none⟩)), (4, .pointer (some ⟨3 * (n + 1) + 2, 0, none⟩)), (8, .pointer (some ⟨3 * n4 + 2, 0, none⟩)), (58, .slice aK K.length cK), (59, .int .i64 (K.length : Int)), (60, .int .i64 (z.1 : Int))])
    (fun z h' n' w => w = [] ∧ n4 + 1 ≤ n' ∧ ExtT (n4 + 1) (3 * n4 + 2) h5 h' ∧ (∃ e, h' (3 * n4 + 2) = some (.row [.slice a2 p.blocks.length c2, .int .i64 (p.free : Int), .slice a3 p.obj.length c3, .slice a4 p.objFree.length c4, z.2.1] e)) ∧ z.1 ≤ K.length ∧ z.2.2.2 = (K.take z.1).filterMap (fun k => p.eqs[k.toNat]?) ∧ z.2.2.2.length = z.1 ∧
      Gro h' (n4 + 1) n' 35 3 z.2.1 z.2.2.2.length z.2.2.1 ∧ EqR h' n' z.2.2.1 z.2.2.2 ∧ (∀ v ∈ z.2.2.1, Pt (fun b => 3 * (n4 + 1) ≤ b) v) ∧ (∀ v ∈ z.2.2.1, ∀ b o l c, z.2.1 = .slice (some ⟨b, o, none⟩) l c → Pt (fun b' => b' ≠ b) v)) (fun z => K.length - z.1)
    (0, .slice none 0 0, [], []) ⟨rfl, rfl, rfl, rfl, rfl, rfl, trivial⟩ ⟨rfl, Nat.le_refl _, ExtT.refl _ _ _, hp5, Nat.zero_le _, rfl, rfl, .nil, .nil, fun v hv => absurd hv List.not_mem_nil, fun v hv => absurd hv List.not_mem_nil⟩ (by show K.length - 0 < LL; unfold LL; omega) ?_
  rintro ⟨j, vG, ce8, qs⟩ t h8 n8 w8 ⟨rfl, hn8, hx8, ⟨e8, hp8⟩, hj8, hqs, hql, hgE, hEq8, hPt, hPt2⟩
  simp only at hp8 hj8 hqs hql hgE hEq8 hPt hPt2
  subst hql
  obtain ⟨aG, rfl, hceL⟩ := hgE.shape
  have hfG : Fresh (n4 + 1) (.slice aG qs.length qs.length) := hgE.fresh
  have hr8 : h8 (3 * n + 2) = _ := (hx8 _ (by omega) (by omega)).trans hr5
  have hz8 : h8 (3 * (n + 1) + 2) = _ := (hx8 _ (by omega) (by omega)).trans hz5
  have hxh8 : ∀ b, b < 3 * (n + 1 + 1) → h8 b = h1 b := fun b hb => (hx8 b (by omega) (by omega)).trans (hx15 b hb)
  simp only [EC_seq, EC_region, EC_block, EC_scope, EC_skip, EC_exit, EC_ret, EC_label, EO_nil, ED_nil, after_normal, after_exit, after_ret, leave_normal, leave_exit, leave_ret, goesOn_exit, goesOn_ret, cut_exit, cut_ret, cutx_exit, cutx_ret, reduceIte, Nat.reduceEqDiff, reduceCtorEq, Nat.one_ne_zero, Nat.zero_ne_one]
  by_cases hjK : qs.length = K.length
  · repeat (first | refine st_ltT rfl rfl rfl rfl rfl rfl (by omega) ?_ | refine st_ltF rfl rfl rfl rfl rfl rfl (by omega) ?_ | refine st_gtT rfl rfl rfl rfl rfl rfl (by omega) ?_ | refine st_gtF rfl rfl rfl rfl rfl rfl (by omega) ?_ | refine st_geT rfl rfl rfl rfl rfl rfl (by omega) ?_ | refine st_geF rfl rfl rfl rfl rfl rfl (by omega) ?_ | refine st_add rfl rfl rfl rfl rfl rfl (by omega) ?_ | refine st_sub rfl rfl rfl rfl rfl rfl (by omega) ?_ | refine st_I rfl rfl rfl rfl rfl ?_ | refine st_B rfl rfl rfl rfl rfl ?_ | refine st_S rfl rfl rfl rfl rfl ?_ | refine st_P rfl rfl rfl rfl rfl ?_ | refine st_val (v := .pointer none) rfl rfl rfl rfl rfl ?_ | refine st_off rfl rfl rfl ?_)
    simp only [EC_seq, EC_region, EC_block, EC_scope, EC_skip, EC_exit, EC_ret, EC_label, EO_nil, ED_nil, after_normal, after_exit, after_ret, leave_normal, leave_exit, leave_ret, goesOn_exit, goesOn_ret, cut_exit, cut_ret, cutx_exit, cutx_ret, reduceIte, Nat.reduceEqDiff, reduceCtorEq, Nat.one_ne_zero, Nat.zero_ne_one]
    rw [EC_cond_false rfl]
    simp only [EC_seq, EC_region, EC_block, EC_scope, EC_skip, EC_exit, EC_ret, EC_label, EO_nil, ED_nil, after_normal, after_exit, after_ret, leave_normal, leave_exit, leave_ret, goesOn_exit, goesOn_ret, cut_exit, cut_ret, cutx_exit, cutx_ret, reduceIte, Nat.reduceEqDiff, reduceCtorEq, Nat.one_ne_zero, Nat.zero_ne_one]
    refine st_load (v := .agg #[.slice a2 p.blocks.length c2, .int .i64 (p.free : Int), .slice a3 p.obj.length c3, .slice a4 p.objFree.length c4, .slice aG qs.length qs.length]) rfl rfl rfl rfl rfl (loadn_eq rfl rfl hp8 rfl (Nat.le_of_ble_eq_true rfl) rfl) ?_
    refine st_storeW [.slice a2 p.blocks.length c2, .int .i64 (p.free : Int), .slice a3 p.obj.length c3, .slice a4 p.objFree.length c4, .slice aG qs.length qs.length] rfl rfl rfl rfl rfl rfl rfl rfl hz8 rfl (by show 3 * n ≤ 3 * (n + 1) + 2; omega) ?_
    repeat (first | refine st_ltT rfl rfl rfl rfl rfl rfl (by omega) ?_ | refine st_ltF rfl rfl rfl rfl rfl rfl (by omega) ?_ | refine st_gtT rfl rfl rfl rfl rfl rfl (by omega) ?_ | refine st_gtF rfl rfl rfl rfl rfl rfl (by omega) ?_ | refine st_geT rfl rfl rfl rfl rfl rfl (by omega) ?_ | refine st_geF rfl rfl rfl rfl rfl rfl (by omega) ?_ | refine st_add rfl rfl rfl rfl rfl rfl (by omega) ?_ | refine st_sub rfl rfl rfl rfl rfl rfl (by omega) ?_ | refine st_I rfl rfl rfl rfl rfl ?_ | refine st_B rfl rfl rfl rfl rfl ?_ | refine st_S rfl rfl rfl rfl rfl ?_ | refine st_P rfl rfl rfl rfl rfl ?_ | refine st_val (v := .pointer none) rfl rfl rfl rfl rfl ?_ | refine st_off rfl rfl rfl ?_)
    simp only [EC_seq, EC_region, EC_block, EC_scope, EC_skip, EC_exit, EC_ret, EC_label, EO_nil, ED_nil, after_normal, after_exit, after_ret, leave_normal, leave_exit, leave_ret, goesOn_exit, goesOn_ret, cut_exit, cut_ret, cutx_exit, cutx_ret, reduceIte, Nat.reduceEqDiff, reduceCtorEq, Nat.one_ne_zero, Nat.zero_ne_one]
    have hnew : ∀ {x : Option BF} {sz : Nat} {v : Value} {c : List Value} {m : Nat}, Sl h5 (n4 + 1) sz v c → Fresh m v → n + 1 + 1 ≤ m → Below n4 v → Sl (upd h8 (3 * (n + 1) + 2) x) n8 sz v c := fun hs hf hm hb => hs.keep (fun a l c e => by
      subst e
      have h2 : 3 * _ ≤ a.block := hf
      have h1 : a.block < 3 * n4 := hb
      exact (upd_ne (by omega)).trans (hx8 _ (by omega) (by omega))) hn8
    refine retH [.agg #[.slice a2 p.blocks.length c2, .int .i64 (p.free : Int), .slice a3 p.obj.length c3, .slice a4 p.objFree.length c4, .slice aG qs.length qs.length], .int .i64 0] rfl ?_ rfl ⟨rfl, by show n ≤ n8; omega, fun b hb => (upd_ne (by omega)).trans ((hxh8 b (by omega)).trans (hx1 b hb)), .inl ⟨hgood, _, _, _, _, rfl, ?_⟩⟩
    · show resF env _ [.cell 4 27, .tmp 5] = _
      refine resF_ct (b := 3 * (n + 1) + 2) rfl rfl (loadn_eq (E := env) rfl rfl (upd_same _ _ _) rfl (Nat.le_of_ble_eq_true rfl) rfl)
    · refine ⟨hnew hs2' hf2 (Nat.le_refl _) hb2, hnew hs3' hf3 hn2 hb3, hnew hs4' hf4 (by omega) hb4, ce8, hgE.sl.old (m := n4 + 1) hfG (by omega), ?_⟩
      have hse : (sel p K).eqs = qs := by
        have h' := hqs
        rw [hjK, List.take_length] at h'
        exact h'.symm
      rw [hse]
      exact hEq8.mapS fun v hv sz c hs => hs.keep (fun a l c' e => upd_ne (by have := hPt v hv a l c' e; omega)) (Nat.le_refl _)
  obtain ⟨kk, hkk⟩ : ∃ x, K[qs.length]? = some x := ⟨K[qs.length]'(by omega), List.getElem?_eq_getElem (by omega)⟩
  obtain ⟨hk0, hkm, _⟩ := hgood qs.length (by omega) kk hkk
  obtain ⟨m, rfl⟩ : ∃ m : Nat, kk = (m : Int) := ⟨kk.toNat, by omega⟩
  obtain ⟨q, hq⟩ : ∃ q, p.eqs[m]? = some q := ⟨p.eqs[m]'(by omega), List.getElem?_eq_getElem (by omega)⟩
  obtain ⟨q1, q2, q3, q4, q5⟩ := hok.eqo q (List.mem_of_getElem? hq)
  obtain ⟨ve, vf, hce, hve, hvf⟩ := hEq1.get hq
  obtain ⟨ae, le, cce, rfl, _⟩ := hve.len
  obtain ⟨af, lf, ccf, rfl, _⟩ := hvf.len
  have hle := hve.lenEq (m := q.es.length) (by omega) (ents_len _)
  have hlf := hvf.lenEq (m := q.fr.length) (by omega) (by simp [strs])
  subst hle hlf
  obtain ⟨bK, oK, xK, csK, rfl, hbK, hxK, hcK, _, _, heK⟩ := hK1.inv (by omega)
  have gK : csK[oK + qs.length]? = some (.int .i64 (m : Int)) := cell_at heK (by rw [i64s, List.getElem?_map, hkk]; rfl)
  obtain ⟨bE, oE, xE, csE, rfl, hbE, hxE, hcE, hcapE, hleE, heE⟩ := hE1.inv (by omega)
  have hcell : (csE.drop (oE + m * 3)).take 3 = [.slice ae q.es.length cce, .slice af q.fr.length ccf, .string ⟨⟨q.rhs⟩⟩] := by rw [take_at heE (by omega), hce]
  have hxE8 : h8 bE = some xE := by rw [hxh8 bE hbE]; exact hxE
  have hxK8 : h8 bK = some xK := by rw [hxh8 bK hbK]; exact hxK
  repeat (first | refine st_ltT rfl rfl rfl rfl rfl rfl (by omega) ?_ | refine st_ltF rfl rfl rfl rfl rfl rfl (by omega) ?_ | refine st_gtT rfl rfl rfl rfl rfl rfl (by omega) ?_ | refine st_gtF rfl rfl rfl rfl rfl rfl (by omega) ?_ | refine st_geT rfl rfl rfl rfl rfl rfl (by omega) ?_ | refine st_geF rfl rfl rfl rfl rfl rfl (by omega) ?_ | refine st_add rfl rfl rfl rfl rfl rfl (by omega) ?_ | refine st_sub rfl rfl rfl rfl rfl rfl (by omega) ?_ | refine st_I rfl rfl rfl rfl rfl ?_ | refine st_B rfl rfl rfl rfl rfl ?_ | refine st_S rfl rfl rfl rfl rfl ?_ | refine st_P rfl rfl rfl rfl rfl ?_ | refine st_val (v := .pointer none) rfl rfl rfl rfl rfl ?_ | refine st_off rfl rfl rfl ?_)
  simp only [EC_seq, EC_region, EC_block, EC_scope, EC_skip, EC_exit, EC_ret, EC_label, EO_nil, ED_nil, after_normal, after_exit, after_ret, leave_normal, leave_exit, leave_ret, goesOn_exit, goesOn_ret, cut_exit, cut_ret, cutx_exit, cutx_ret, reduceIte, Nat.reduceEqDiff, reduceCtorEq, Nat.one_ne_zero, Nat.zero_ne_one]
  rw [EC_cond_true rfl]
  simp only [EC_seq, EC_region, EC_block, EC_scope, EC_skip, EC_exit, EC_ret, EC_label, EO_nil, ED_nil, after_normal, after_exit, after_ret, leave_normal, leave_exit, leave_ret, goesOn_exit, goesOn_ret, cut_exit, cut_ret, cutx_exit, cutx_ret, reduceIte, Nat.reduceEqDiff, reduceCtorEq, Nat.one_ne_zero, Nat.zero_ne_one]
  refine st_idx rfl rfl rfl rfl rfl rfl rfl rfl (by omega) ?_
  refine st_load1 rfl rfl rfl rfl rfl rfl hxK8 hcK (v := .int .i64 (m : Int)) (by rw [← gK]; congr 1; omega) ?_
  repeat (first | refine st_ltT rfl rfl rfl rfl rfl rfl (by omega) ?_ | refine st_ltF rfl rfl rfl rfl rfl rfl (by omega) ?_ | refine st_gtT rfl rfl rfl rfl rfl rfl (by omega) ?_ | refine st_gtF rfl rfl rfl rfl rfl rfl (by omega) ?_ | refine st_geT rfl rfl rfl rfl rfl rfl (by omega) ?_ | refine st_geF rfl rfl rfl rfl rfl rfl (by omega) ?_ | refine st_add rfl rfl rfl rfl rfl rfl (by omega) ?_ | refine st_sub rfl rfl rfl rfl rfl rfl (by omega) ?_ | refine st_I rfl rfl rfl rfl rfl ?_ | refine st_B rfl rfl rfl rfl rfl ?_ | refine st_S rfl rfl rfl rfl rfl ?_ | refine st_P rfl rfl rfl rfl rfl ?_ | refine st_val (v := .pointer none) rfl rfl rfl rfl rfl ?_ | refine st_off rfl rfl rfl ?_)
  simp only [EC_seq, EC_region, EC_block, EC_scope, EC_skip, EC_exit, EC_ret, EC_label, EO_nil, ED_nil, after_normal, after_exit, after_ret, leave_normal, leave_exit, leave_ret, goesOn_exit, goesOn_ret, cut_exit, cut_ret, cutx_exit, cutx_ret, reduceIte, Nat.reduceEqDiff, reduceCtorEq, Nat.one_ne_zero, Nat.zero_ne_one]
  refine EC_draw [0, 1, 0, 4, 0, 28, 60, 124, 252, 511, 1023, 2047] rfl ?_
  repeat (first | refine dr_I rfl rfl rfl rfl rfl ?_ | refine dr_P rfl rfl rfl rfl rfl ?_)
  refine dr_load rfl rfl rfl rfl rfl rfl (load1_eq rfl hp8 rfl (v := .slice aG qs.length qs.length) rfl) rfl rfl ?_
  repeat (first | refine dr_I rfl rfl rfl rfl rfl ?_ | refine dr_P rfl rfl rfl rfl rfl ?_)
  refine dr_load rfl rfl rfl rfl rfl rfl (load1_eq rfl hr8 rfl (v := .slice (some ⟨bE, oE, none⟩) p.eqs.length cE) rfl) rfl rfl ?_
  repeat (first | refine dr_I rfl rfl rfl rfl rfl ?_ | refine dr_P rfl rfl rfl rfl rfl ?_)
  refine dr_idx rfl rfl rfl rfl rfl rfl rfl rfl (by omega) ?_
  refine dr_load (v := .agg #[.slice ae q.es.length cce, .slice af q.fr.length ccf, .string ⟨⟨q.rhs⟩⟩]) rfl rfl rfl rfl rfl rfl (loadn_eq rfl rfl hxE8 hcE (by omega) (by rw [← hcell]; congr 2 <;> omega)) rfl rfl ?_
  have hxt8 : Ext (n + 1 + 1) h1 h8 := fun b hb => hxh8 b hb
  refine dr_call _ rfl rfl rfl rfl rfl rfl rfl (copyEquation_ok (k + 1) (hve.ext hxt8 (show n + 1 + 1 ≤ n8 by omega)) (hvf.ext hxt8 (show n + 1 + 1 ≤ n8 by omega)) (by omega)) ?_
  rintro _ h9 n9 _ ⟨rfl, hn9, hx9, a9, c9, a10, c10, rfl, hs9, hs10, hf9, hf10⟩
  refine ⟨okLoads_nil, hn9, ?_⟩
  refine dr_mks (cs := [.slice a9 q.es.length c9, .slice a10 q.fr.length c10, .string ⟨⟨q.rhs⟩⟩]) rfl rfl rfl rfl rfl ?_
  have hkk2 : ∀ b, b < 3 * n8 → upd h9 (3 * n9 + 2) (some (.row [.slice a9 q.es.length c9, .slice a10 q.fr.length c10, .string ⟨⟨q.rhs⟩⟩] 35)) b = h8 b := fun b hb => by rw [upd_ne (by omega), hx9 b hb]
  have hgE2 := (hgE.ext hx9 hn9).ext (Ext.upd (b := 3 * n9 + 2) (x := some (.row [.slice a9 q.es.length c9, .slice a10 q.fr.length c10, .string ⟨⟨q.rhs⟩⟩] 35)) (by omega)) (Nat.le_succ n9)
  refine dr_app (mm := 1) rfl rfl rfl rfl rfl rfl rfl rfl (by decide) rfl rfl rfl hgE2 (argS_of (upd_same _ _ _) rfl rfl) (Nat.le_refl _) (by omega) rfl rfl (by show n ≤ n4 + 1 ∧ _; omega) ?_
  intro v15 h15 W15 hg15 hx15 hk15 hf15
  obtain ⟨a15, rfl, _⟩ := hg15.shape
  repeat (first | refine dr_I rfl rfl rfl rfl rfl ?_ | refine dr_P rfl rfl rfl rfl rfl ?_)
  have hx15' : ∀ b, b < 3 * (n4 + 1) → h15 b = h8 b := fun b hb => (hx15 b hb).trans (hkk2 b (by omega))
  have hp15 : h15 (3 * n4 + 2) = _ := (hx15' _ (by omega)).trans hp8
  refine dr_storeN (cs := [.slice a15 (qs.length + 1) (qs.length + 1)]) rfl rfl rfl rfl rfl rfl rfl rfl hp15 (Nat.le_of_ble_eq_true rfl) (by show 3 * n ≤ 3 * n4 + 2; omega) rfl rfl rfl ?_
  simp only [EC_seq, EC_region, EC_block, EC_scope, EC_skip, EC_exit, EC_ret, EC_label, EO_nil, ED_nil, after_normal, after_exit, after_ret, leave_normal, leave_exit, leave_ret, goesOn_exit, goesOn_ret, cut_exit, cut_ret, cutx_exit, cutx_ret, reduceIte, Nat.reduceEqDiff, reduceCtorEq, Nat.one_ne_zero, Nat.zero_ne_one]
  repeat (first | refine st_ltT rfl rfl rfl rfl rfl rfl (by omega) ?_ | refine st_ltF rfl rfl rfl rfl rfl rfl (by omega) ?_ | refine st_gtT rfl rfl rfl rfl rfl rfl (by omega) ?_ | refine st_gtF rfl rfl rfl rfl rfl rfl (by omega) ?_ | refine st_geT rfl rfl rfl rfl rfl rfl (by omega) ?_ | refine st_geF rfl rfl rfl rfl rfl rfl (by omega) ?_ | refine st_add rfl rfl rfl rfl rfl rfl (by omega) ?_ | refine st_sub rfl rfl rfl rfl rfl rfl (by omega) ?_ | refine st_I rfl rfl rfl rfl rfl ?_ | refine st_B rfl rfl rfl rfl rfl ?_ | refine st_S rfl rfl rfl rfl rfl ?_ | refine st_P rfl rfl rfl rfl rfl ?_ | refine st_val (v := .pointer none) rfl rfl rfl rfl rfl ?_ | refine st_off rfl rfl rfl ?_)
  simp only [EC_seq, EC_region, EC_block, EC_scope, EC_skip, EC_exit, EC_ret, EC_label, EO_nil, ED_nil, after_normal, after_exit, after_ret, leave_normal, leave_exit, leave_ret, goesOn_exit, goesOn_ret, cut_exit, cut_ret, cutx_exit, cutx_ret, reduceIte, Nat.reduceEqDiff, reduceCtorEq, Nat.one_ne_zero, Nat.zero_ne_one]
  have hbG : Below n8 (.slice aG qs.length qs.length) := hgE.below
  have neE : ∀ b, 3 * n8 ≤ b → ∀ o l c, Value.slice aG qs.length qs.length ≠ .slice (some ⟨b, o, none⟩) l c := fun b hb o l c e => by
    injection e with e1
    subst e1
    have h1 : b < 3 * n8 := hbG
    omega
  have hnew : ∀ {x : Option BF} {sz : Nat} {v : Value} {c : List Value}, Sl h9 n9 sz v c → Fresh n8 v → Sl (upd h15 (3 * n4 + 2) x) (n9 + 1 + 1) sz v c := fun hs hf => hs.keep (fun a l c e => by
    subst e
    have h2 : 3 * n8 ≤ a.block := hf
    have h1 : a.block < 3 * n9 := hs.below
    exact (upd_ne (by omega)).trans ((hk15 _ (by omega) (neE _ h2)).trans (upd_ne (by omega)))) (by omega)
  have hceb := hEq8.belows
  have hb9 : Below n9 _ := hs9.below
  have hb10 : Below n9 _ := hs10.below
  refine goOn (qs.length + 1, .slice a15 (qs.length + 1) (qs.length + 1), ce8 ++ [.slice a9 q.es.length c9, .slice a10 q.fr.length c10, .string ⟨⟨q.rhs⟩⟩], qs ++ [q]) (by show K.length - (qs.length + 1) < K.length - qs.length; omega) ⟨rfl, rfl, rfl, rfl, rfl, by show Value.int .i64 _ = Value.int .i64 _; congr 1, trivial⟩ ⟨rfl, by show n4 + 1 ≤ n9 + 1 + 1; omega, ?_, ⟨e8, upd_same _ _ _⟩, by show qs.length + 1 ≤ K.length; omega, ?_, by show (qs ++ [q]).length = _; simp, ?_, ?_, ?_, ?_⟩
  · exact fun b hb hne => (upd_ne hne).trans ((hx15' b hb).trans (hx8 b hb hne))
  · show qs ++ [q] = _
    rw [sel_snoc hkk hq, ← hqs]
  · show Gro _ _ _ _ _ _ (qs ++ [q]).length _
    rw [List.length_append]
    exact hg15.extT (bt := 3 * n4 + 2) (fun b hb hne => upd_ne hne) (by omega) (Nat.le_refl _)
  · refine EqR.snoc (q := q) (hEq8.mapS fun v hv sz c hs => hs.keep (fun a l c' e => ?_) (by show n8 ≤ n9 + 1 + 1; omega)) (hnew hs9 hf9) (hnew hs10 hf10)
    have h1 := hceb v hv a l c' e
    have h2 := hPt v hv a l c' e
    refine (upd_ne (by omega)).trans ((hk15 _ (by omega) fun o l2 c2 ee => ?_).trans (hkk2 _ h1))
    exact hPt2 v hv _ _ _ _ ee a l c' e rfl
  · intro v hv
    rcases List.mem_append.1 hv with hv | hv
    · exact hPt v hv
    · simp only [List.mem_cons, List.not_mem_nil, or_false] at hv
      rcases hv with rfl | rfl | rfl
      · exact fun a l c e => by have := Pt.of_fresh hf9 a l c e; omega
      · exact fun a l c e => by have := Pt.of_fresh hf10 a l c e; omega
      · exact fun a l c e => by cases e
  · intro v hv b o l c ee a l' c' e
    simp only at ee
    have hbb : 3 * (n9 + 1) ≤ b := by
      have : 3 * (n9 + 1) ≤ _ := Pt.of_fresh hf15 _ _ _ ee
      exact this
    rcases List.mem_append.1 hv with hv | hv
    · have := hceb v hv a l' c' e; omega
    · simp only [List.mem_cons, List.not_mem_nil, or_false] at hv
      rcases hv with rfl | rfl | rfl
      · have := Pt.of_below hb9 a l' c' e; omega
      · have := Pt.of_below hb10 a l' c' e; omega
      · cases e
end Go.Proofs.YtokfihhdllmbmaaGreatDoor
namespace Go.Proofs.YtokfihhdllmbmaaGreatDoor
open Go Go.GL
/-! Package sosoptref25: Same at programs of equal data. -/
/-- Lists of bearable length. -/
structure SdpLen (p : Sdp) : Prop where
  blocks : p.blocks.length < 1000000
  obj : p.obj.length < 1000000
  objFree : p.objFree.length < 1000000
  eqs : p.eqs.length < 1000000
  eq : ∀ q ∈ p.eqs, q.es.length < 1000000 ∧ q.fr.length < 1000000
set_option maxHeartbeats 4000000
theorem same_ok (k : Nat) {h : HF} {n : Nat} {vB vO vF vE uB uO uF uE : Value} {p : Sdp} (hp : SdpR h n vB vO vF vE p) (hu : SdpR h n uB uO uF uE p) (hl : SdpLen p) (hfr : p.free < 1000000) : VF (cal (k + 2)) 34 [.agg #[vB, .int .i64 (p.free : Int), vO, vF, vE], .agg #[uB, .int .i64 (p.free : Int), uO, uF, uE]] h n fun v => v = .bool true := by
  refine CF_flat (fn := Tryz.f34) rfl rfl rfl rfl ?_
  obtain ⟨hB, hO, hF, ce, hE, hEq⟩ := hp
  obtain ⟨gB, gO, gF, de, gE, gEq⟩ := hu
  obtain ⟨l1, l2, l3, l4, l5⟩ := hl
  obtain ⟨aB, lB, cB, rfl, _⟩ := hB.len
  obtain ⟨aO, lO, cO, rfl, _⟩ := hO.len
  obtain ⟨aF, lF, cF, rfl, _⟩ := hF.len
  obtain ⟨aE, lE, cE, rfl, _⟩ := hE.len
  obtain ⟨eB, mB, dB, rfl, _⟩ := gB.len
  obtain ⟨eO, mO, dO, rfl, _⟩ := gO.len
  obtain ⟨eF, mF, dF, rfl, _⟩ := gF.len
  obtain ⟨eE, mE, dE, rfl, _⟩ := gE.len
  have hlE := hE.lenEq (m := p.eqs.length) (by omega) hEq.len
  have glE := gE.lenEq (m := p.eqs.length) (by omega) gEq.len
  subst hlE glE
  simp only [EC_seq, EC_region, EC_block, EC_scope, EC_skip, EC_exit, EC_ret, EC_label, EO_nil, ED_nil, after_normal, after_exit, after_ret, leave_normal, leave_exit, leave_ret, goesOn_exit, goesOn_ret, cut_exit, cut_ret, cutx_exit, cutx_ret, reduceIte, Nat.reduceEqDiff, reduceCtorEq, Nat.one_ne_zero, Nat.zero_ne_one]
  refine st_mkp (cs := [.slice aB lB cB, .int .i64 (p.free : Int), .slice aO lO cO, .slice aF lF cF, .slice aE p.eqs.length cE]) rfl rfl rfl rfl rfl ?_
  refine st_mkp (cs := [.slice eB mB dB, .int .i64 (p.free : Int), .slice eO mO dO, .slice eF mF dF, .slice eE p.eqs.length dE]) rfl rfl rfl rfl rfl ?_
  generalize hh : upd (upd h (3 * n + 2) _) (3 * (n + 1) + 2) _ = h1
  have hx1 : Ext n h h1 := fun b hb => by rw [← hh, upd_ne (by omega), upd_ne (by omega)]
  have hr1 : ∃ ty, h1 (3 * n + 2) = some (.row [.slice aB lB cB, .int .i64 (p.free : Int), .slice aO lO cO, .slice aF lF cF, .slice aE p.eqs.length cE] ty) := ⟨_, by rw [← hh, upd_ne (by omega), upd_same]⟩
  have hz1 : ∃ ty, h1 (3 * (n + 1) + 2) = some (.row [.slice eB mB dB, .int .i64 (p.free : Int), .slice eO mO dO, .slice eF mF dF, .slice eE p.eqs.length dE] ty) := ⟨_, by rw [← hh, upd_same]⟩
  obtain ⟨ty1, hr1⟩ := hr1
  obtain ⟨tyz, hz1⟩ := hz1
  have hn1 : n ≤ n + 1 + 1 := by omega
  repeat (first | refine st_ltT rfl rfl rfl rfl rfl rfl (by omega) ?_ | refine st_ltF rfl rfl rfl rfl rfl rfl (by omega) ?_ | refine st_neqF rfl rfl rfl rfl rfl rfl (by omega) ?_ | refine st_add rfl rfl rfl rfl rfl rfl (by omega) ?_ | refine st_I rfl rfl rfl rfl rfl ?_ | refine st_B rfl rfl rfl rfl rfl ?_ | refine st_P rfl rfl rfl rfl rfl ?_ | refine st_val (v := .pointer none) rfl rfl rfl rfl rfl ?_)
  simp only [EC_seq, EC_region, EC_block, EC_scope, EC_skip, EC_exit, EC_ret, EC_label, EO_nil, ED_nil, after_normal, after_exit, after_ret, leave_normal, leave_exit, leave_ret, goesOn_exit, goesOn_ret, cut_exit, cut_ret, cutx_exit, cutx_ret, reduceIte, Nat.reduceEqDiff, reduceCtorEq, Nat.one_ne_zero, Nat.zero_ne_one]
  repeat (first | refine st_ltT rfl rfl rfl rfl rfl rfl (by omega) ?_ | refine st_ltF rfl rfl rfl rfl rfl rfl (by omega) ?_ | refine st_neqF rfl rfl rfl rfl rfl rfl (by omega) ?_ | refine st_add rfl rfl rfl rfl rfl rfl (by omega) ?_ | refine st_I rfl rfl rfl rfl rfl ?_ | refine st_B rfl rfl rfl rfl rfl ?_ | refine st_P rfl rfl rfl rfl rfl ?_ | refine st_val (v := .pointer none) rfl rfl rfl rfl rfl ?_)
  refine st_load1 rfl rfl rfl rfl rfl rfl hr1 rfl (v := .slice aB lB cB) rfl ?_
  repeat (first | refine st_ltT rfl rfl rfl rfl rfl rfl (by omega) ?_ | refine st_ltF rfl rfl rfl rfl rfl rfl (by omega) ?_ | refine st_neqF rfl rfl rfl rfl rfl rfl (by omega) ?_ | refine st_add rfl rfl rfl rfl rfl rfl (by omega) ?_ | refine st_I rfl rfl rfl rfl rfl ?_ | refine st_B rfl rfl rfl rfl rfl ?_ | refine st_P rfl rfl rfl rfl rfl ?_ | refine st_val (v := .pointer none) rfl rfl rfl rfl rfl ?_)
  refine st_load1 rfl rfl rfl rfl rfl rfl hz1 rfl (v := .slice eB mB dB) rfl ?_
  refine st_vf _ rfl rfl rfl rfl rfl (sameInts_ok k (hB.ext hx1 hn1) (gB.ext hx1 hn1) l1) ?_
  rintro _ rfl
  repeat (first | refine st_ltT rfl rfl rfl rfl rfl rfl (by omega) ?_ | refine st_ltF rfl rfl rfl rfl rfl rfl (by omega) ?_ | refine st_neqF rfl rfl rfl rfl rfl rfl (by omega) ?_ | refine st_add rfl rfl rfl rfl rfl rfl (by omega) ?_ | refine st_I rfl rfl rfl rfl rfl ?_ | refine st_B rfl rfl rfl rfl rfl ?_ | refine st_P rfl rfl rfl rfl rfl ?_ | refine st_val (v := .pointer none) rfl rfl rfl rfl rfl ?_)
  refine st_load1 rfl rfl rfl rfl rfl rfl hr1 rfl (v := .int .i64 (p.free : Int)) rfl ?_
  repeat (first | refine st_ltT rfl rfl rfl rfl rfl rfl (by omega) ?_ | refine st_ltF rfl rfl rfl rfl rfl rfl (by omega) ?_ | refine st_neqF rfl rfl rfl rfl rfl rfl (by omega) ?_ | refine st_add rfl rfl rfl rfl rfl rfl (by omega) ?_ | refine st_I rfl rfl rfl rfl rfl ?_ | refine st_B rfl rfl rfl rfl rfl ?_ | refine st_P rfl rfl rfl rfl rfl ?_ | refine st_val (v := .pointer none) rfl rfl rfl rfl rfl ?_)
  refine st_load1 rfl rfl rfl rfl rfl rfl hz1 rfl (v := .int .i64 (p.free : Int)) rfl ?_
  repeat (first | refine st_ltT rfl rfl rfl rfl rfl rfl (by omega) ?_ | refine st_ltF rfl rfl rfl rfl rfl rfl (by omega) ?_ | refine st_neqF rfl rfl rfl rfl rfl rfl (by omega) ?_ | refine st_add rfl rfl rfl rfl rfl rfl (by omega) ?_ | refine st_I rfl rfl rfl rfl rfl ?_ | refine st_B rfl rfl rfl rfl rfl ?_ | refine st_P rfl rfl rfl rfl rfl ?_ | refine st_val (v := .pointer none) rfl rfl rfl rfl rfl ?_)
  refine st_load1 rfl rfl rfl rfl rfl rfl hr1 rfl (v := .slice aO lO cO) rfl ?_
  repeat (first | refine st_ltT rfl rfl rfl rfl rfl rfl (by omega) ?_ | refine st_ltF rfl rfl rfl rfl rfl rfl (by omega) ?_ | refine st_neqF rfl rfl rfl rfl rfl rfl (by omega) ?_ | refine st_add rfl rfl rfl rfl rfl rfl (by omega) ?_ | refine st_I rfl rfl rfl rfl rfl ?_ | refine st_B rfl rfl rfl rfl rfl ?_ | refine st_P rfl rfl rfl rfl rfl ?_ | refine st_val (v := .pointer none) rfl rfl rfl rfl rfl ?_)
  refine st_load1 rfl rfl rfl rfl rfl rfl hz1 rfl (v := .slice eO mO dO) rfl ?_
  refine st_vf _ rfl rfl rfl rfl rfl (sameList_ok k (hO.ext hx1 hn1) (gO.ext hx1 hn1) l2) ?_
  rintro _ rfl
  repeat (first | refine st_ltT rfl rfl rfl rfl rfl rfl (by omega) ?_ | refine st_ltF rfl rfl rfl rfl rfl rfl (by omega) ?_ | refine st_neqF rfl rfl rfl rfl rfl rfl (by omega) ?_ | refine st_add rfl rfl rfl rfl rfl rfl (by omega) ?_ | refine st_I rfl rfl rfl rfl rfl ?_ | refine st_B rfl rfl rfl rfl rfl ?_ | refine st_P rfl rfl rfl rfl rfl ?_ | refine st_val (v := .pointer none) rfl rfl rfl rfl rfl ?_)
  refine st_load1 rfl rfl rfl rfl rfl rfl hr1 rfl (v := .slice aF lF cF) rfl ?_
  repeat (first | refine st_ltT rfl rfl rfl rfl rfl rfl (by omega) ?_ | refine st_ltF rfl rfl rfl rfl rfl rfl (by omega) ?_ | refine st_neqF rfl rfl rfl rfl rfl rfl (by omega) ?_ | refine st_add rfl rfl rfl rfl rfl rfl (by omega) ?_ | refine st_I rfl rfl rfl rfl rfl ?_ | refine st_B rfl rfl rfl rfl rfl ?_ | refine st_P rfl rfl rfl rfl rfl ?_ | refine st_val (v := .pointer none) rfl rfl rfl rfl rfl ?_)
  refine st_load1 rfl rfl rfl rfl rfl rfl hz1 rfl (v := .slice eF mF dF) rfl ?_
  refine st_vf _ rfl rfl rfl rfl rfl (sameStrings_ok k (hF.ext hx1 hn1) (gF.ext hx1 hn1) l3) ?_
  rintro _ rfl
  repeat (first | refine st_ltT rfl rfl rfl rfl rfl rfl (by omega) ?_ | refine st_ltF rfl rfl rfl rfl rfl rfl (by omega) ?_ | refine st_neqF rfl rfl rfl rfl rfl rfl (by omega) ?_ | refine st_add rfl rfl rfl rfl rfl rfl (by omega) ?_ | refine st_I rfl rfl rfl rfl rfl ?_ | refine st_B rfl rfl rfl rfl rfl ?_ | refine st_P rfl rfl rfl rfl rfl ?_ | refine st_val (v := .pointer none) rfl rfl rfl rfl rfl ?_)
  refine st_load1 rfl rfl rfl rfl rfl rfl hr1 rfl (v := .slice aE p.eqs.length cE) rfl ?_
  repeat (first | refine st_ltT rfl rfl rfl rfl rfl rfl (by omega) ?_ | refine st_ltF rfl rfl rfl rfl rfl rfl (by omega) ?_ | refine st_neqF rfl rfl rfl rfl rfl rfl (by omega) ?_ | refine st_add rfl rfl rfl rfl rfl rfl (by omega) ?_ | refine st_I rfl rfl rfl rfl rfl ?_ | refine st_B rfl rfl rfl rfl rfl ?_ | refine st_P rfl rfl rfl rfl rfl ?_ | refine st_val (v := .pointer none) rfl rfl rfl rfl rfl ?_)
  refine st_load1 rfl rfl rfl rfl rfl rfl hz1 rfl (v := .slice eE p.eqs.length dE) rfl ?_
  repeat (first | refine st_ltT rfl rfl rfl rfl rfl rfl (by omega) ?_ | refine st_ltF rfl rfl rfl rfl rfl rfl (by omega) ?_ | refine st_neqF rfl rfl rfl rfl rfl rfl (by omega) ?_ | refine st_add rfl rfl rfl rfl rfl rfl (by omega) ?_ | refine st_I rfl rfl rfl rfl rfl ?_ | refine st_B rfl rfl rfl rfl rfl ?_ | refine st_P rfl rfl rfl rfl rfl ?_ | refine st_val (v := .pointer none) rfl rfl rfl rfl rfl ?_)
  simp only [EC_seq, EC_region, EC_block, EC_scope, EC_skip, EC_exit, EC_ret, EC_label, EO_nil, ED_nil, after_normal, after_exit, after_ret, leave_normal, leave_exit, leave_ret, goesOn_exit, goesOn_ret, cut_exit, cut_ret, cutx_exit, cutx_ret, reduceIte, Nat.reduceEqDiff, reduceCtorEq, Nat.one_ne_zero, Nat.zero_ne_one]
  rw [EC_cond_false rfl]
  simp only [EC_seq, EC_region, EC_block, EC_scope, EC_skip, EC_exit, EC_ret, EC_label, EO_nil, ED_nil, after_normal, after_exit, after_ret, leave_normal, leave_exit, leave_ret, goesOn_exit, goesOn_ret, cut_exit, cut_ret, cutx_exit, cutx_ret, reduceIte, Nat.reduceEqDiff, reduceCtorEq, Nat.one_ne_zero, Nat.zero_ne_one]
  repeat (first | refine st_ltT rfl rfl rfl rfl rfl rfl (by omega) ?_ | refine st_ltF rfl rfl rfl rfl rfl rfl (by omega) ?_ | refine st_neqF rfl rfl rfl rfl rfl rfl (by omega) ?_ | refine st_add rfl rfl rfl rfl rfl rfl (by omega) ?_ | refine st_I rfl rfl rfl rfl rfl ?_ | refine st_B rfl rfl rfl rfl rfl ?_ | refine st_P rfl rfl rfl rfl rfl ?_ | refine st_val (v := .pointer none) rfl rfl rfl rfl rfl ?_)
  refine st_load1 rfl rfl rfl rfl rfl rfl hr1 rfl (v := .slice aE p.eqs.length cE) rfl ?_
  repeat (first | refine st_ltT rfl rfl rfl rfl rfl rfl (by omega) ?_ | refine st_ltF rfl rfl rfl rfl rfl rfl (by omega) ?_ | refine st_neqF rfl rfl rfl rfl rfl rfl (by omega) ?_ | refine st_add rfl rfl rfl rfl rfl rfl (by omega) ?_ | refine st_I rfl rfl rfl rfl rfl ?_ | refine st_B rfl rfl rfl rfl rfl ?_ | refine st_P rfl rfl rfl rfl rfl ?_ | refine st_val (v := .pointer none) rfl rfl rfl rfl rfl ?_)
  simp only [EC_seq, EC_region, EC_block, EC_scope, EC_skip, EC_exit, EC_ret, EC_label, EO_nil, ED_nil, after_normal, after_exit, after_ret, leave_normal, leave_exit, leave_ret, goesOn_exit, goesOn_ret, cut_exit, cut_ret, cutx_exit, cutx_ret, reduceIte, Nat.reduceEqDiff, reduceCtorEq, Nat.one_ne_zero, Nat.zero_ne_one]
  refine EC_for (α := Nat) (fun j => [(2, .pointer (some ⟨3 * n + 2, 0, none⟩)), (3, .pointer (some ⟨3 * (n + 1) + 2, 0, none⟩)), (48, .int .i64 (p.eqs.length : Int)), (49, .int .i64 (j : Int))]) (fun j h' n' w => Ext (n + 1 + 1) h1 h' ∧ n + 1 + 1 ≤ n' ∧ w = [] ∧ j ≤ p.eqs.length) (fun j => p.eqs.length - j) 0 ⟨rfl, rfl, rfl, rfl, trivial⟩ ⟨Ext.refl _ _, Nat.le_refl _, rfl, Nat.zero_le _⟩ (by show p.eqs.length - 0 < LL; unfold LL; omega) ?_
  rintro i t h2 n2 _ ⟨hx2, hn2, rfl, hi⟩
  simp only [EC_seq, EC_region, EC_block, EC_scope, EC_skip, EC_exit, EC_ret, EC_label, EO_nil, ED_nil, after_normal, after_exit, after_ret, leave_normal, leave_exit, leave_ret, goesOn_exit, goesOn_ret, cut_exit, cut_ret, cutx_exit, cutx_ret, reduceIte, Nat.reduceEqDiff, reduceCtorEq, Nat.one_ne_zero, Nat.zero_ne_one]
  by_cases hiE : i = p.eqs.length
  · repeat (first | refine st_ltT rfl rfl rfl rfl rfl rfl (by omega) ?_ | refine st_ltF rfl rfl rfl rfl rfl rfl (by omega) ?_ | refine st_neqF rfl rfl rfl rfl rfl rfl (by omega) ?_ | refine st_add rfl rfl rfl rfl rfl rfl (by omega) ?_ | refine st_I rfl rfl rfl rfl rfl ?_ | refine st_B rfl rfl rfl rfl rfl ?_ | refine st_P rfl rfl rfl rfl rfl ?_ | refine st_val (v := .pointer none) rfl rfl rfl rfl rfl ?_)
    simp only [EC_seq, EC_region, EC_block, EC_scope, EC_skip, EC_exit, EC_ret, EC_label, EO_nil, ED_nil, after_normal, after_exit, after_ret, leave_normal, leave_exit, leave_ret, goesOn_exit, goesOn_ret, cut_exit, cut_ret, cutx_exit, cutx_ret, reduceIte, Nat.reduceEqDiff, reduceCtorEq, Nat.one_ne_zero, Nat.zero_ne_one]
    rw [EC_cond_false rfl]
    simp only [EC_seq, EC_region, EC_block, EC_scope, EC_skip, EC_exit, EC_ret, EC_label, EO_nil, ED_nil, after_normal, after_exit, after_ret, leave_normal, leave_exit, leave_ret, goesOn_exit, goesOn_ret, cut_exit, cut_ret, cutx_exit, cutx_ret, reduceIte, Nat.reduceEqDiff, reduceCtorEq, Nat.one_ne_zero, Nat.zero_ne_one]
    repeat (first | refine st_ltT rfl rfl rfl rfl rfl rfl (by omega) ?_ | refine st_ltF rfl rfl rfl rfl rfl rfl (by omega) ?_ | refine st_neqF rfl rfl rfl rfl rfl rfl (by omega) ?_ | refine st_add rfl rfl rfl rfl rfl rfl (by omega) ?_ | refine st_I rfl rfl rfl rfl rfl ?_ | refine st_B rfl rfl rfl rfl rfl ?_ | refine st_P rfl rfl rfl rfl rfl ?_ | refine st_val (v := .pointer none) rfl rfl rfl rfl rfl ?_)
    simp only [EC_seq, EC_region, EC_block, EC_scope, EC_skip, EC_exit, EC_ret, EC_label, EO_nil, ED_nil, after_normal, after_exit, after_ret, leave_normal, leave_exit, leave_ret, goesOn_exit, goesOn_ret, cut_exit, cut_ret, cutx_exit, cutx_ret, reduceIte, Nat.reduceEqDiff, reduceCtorEq, Nat.one_ne_zero, Nat.zero_ne_one]
    exact retF _ rfl (resF_tmp rfl) rfl rfl rfl
  obtain ⟨q, hq⟩ : ∃ q, p.eqs[i]? = some q := ⟨p.eqs[i]'(by omega), List.getElem?_eq_getElem (by omega)⟩
  obtain ⟨q1, q2⟩ := l5 q (List.mem_of_getElem? hq)
  obtain ⟨ve, vf, hce, hve, hvf⟩ := hEq.get hq
  obtain ⟨ue, uf, gce, gve, gvf⟩ := gEq.get hq
  obtain ⟨ae, le, cce, rfl, _⟩ := hve.len
  obtain ⟨af, lf, ccf, rfl, _⟩ := hvf.len
  obtain ⟨be, me, dce, rfl, _⟩ := gve.len
  obtain ⟨bf, mf, dcf, rfl, _⟩ := gvf.len
  obtain ⟨bE, oE, xE, csE, rfl, hbE, hxE, hcE, hcapE, hleE, heE⟩ := hE.inv (by omega)
  obtain ⟨b'E, o'E, x'E, cs'E, rfl, gbE, gxE, gcE, gcapE, gleE, geE⟩ := gE.inv (by omega)
  have hcell : (csE.drop (oE + i * 3)).take 3 = [.slice ae le cce, .slice af lf ccf, .string ⟨⟨q.rhs⟩⟩] := by rw [take_at heE (by omega), hce]
  have gcell : (cs'E.drop (o'E + i * 3)).take 3 = [.slice be me dce, .slice bf mf dcf, .string ⟨⟨q.rhs⟩⟩] := by rw [take_at geE (by omega), gce]
  have hx02 : Ext n h h2 := hx1.trans hx2 hn1
  have hxE2 : h2 bE = some xE := by rw [hx02 bE hbE]; exact hxE
  have gxE2 : h2 b'E = some x'E := by rw [hx02 b'E gbE]; exact gxE
  have hr2 : h2 (3 * n + 2) = _ := (hx2 _ (by omega)).trans hr1
  have hz2 : h2 (3 * (n + 1) + 2) = _ := (hx2 _ (by omega)).trans hz1
  repeat (first | refine st_ltT rfl rfl rfl rfl rfl rfl (by omega) ?_ | refine st_ltF rfl rfl rfl rfl rfl rfl (by omega) ?_ | refine st_neqF rfl rfl rfl rfl rfl rfl (by omega) ?_ | refine st_add rfl rfl rfl rfl rfl rfl (by omega) ?_ | refine st_I rfl rfl rfl rfl rfl ?_ | refine st_B rfl rfl rfl rfl rfl ?_ | refine st_P rfl rfl rfl rfl rfl ?_ | refine st_val (v := .pointer none) rfl rfl rfl rfl rfl ?_)
  simp only [EC_seq, EC_region, EC_block, EC_scope, EC_skip, EC_exit, EC_ret, EC_label, EO_nil, ED_nil, after_normal, after_exit, after_ret, leave_normal, leave_exit, leave_ret, goesOn_exit, goesOn_ret, cut_exit, cut_ret, cutx_exit, cutx_ret, reduceIte, Nat.reduceEqDiff, reduceCtorEq, Nat.one_ne_zero, Nat.zero_ne_one]
  rw [EC_cond_true rfl]
  simp only [EC_seq, EC_region, EC_block, EC_scope, EC_skip, EC_exit, EC_ret, EC_label, EO_nil, ED_nil, after_normal, after_exit, after_ret, leave_normal, leave_exit, leave_ret, goesOn_exit, goesOn_ret, cut_exit, cut_ret, cutx_exit, cutx_ret, reduceIte, Nat.reduceEqDiff, reduceCtorEq, Nat.one_ne_zero, Nat.zero_ne_one]
  repeat (first | refine st_ltT rfl rfl rfl rfl rfl rfl (by omega) ?_ | refine st_ltF rfl rfl rfl rfl rfl rfl (by omega) ?_ | refine st_neqF rfl rfl rfl rfl rfl rfl (by omega) ?_ | refine st_add rfl rfl rfl rfl rfl rfl (by omega) ?_ | refine st_I rfl rfl rfl rfl rfl ?_ | refine st_B rfl rfl rfl rfl rfl ?_ | refine st_P rfl rfl rfl rfl rfl ?_ | refine st_val (v := .pointer none) rfl rfl rfl rfl rfl ?_)
  simp only [EC_seq, EC_region, EC_block, EC_scope, EC_skip, EC_exit, EC_ret, EC_label, EO_nil, ED_nil, after_normal, after_exit, after_ret, leave_normal, leave_exit, leave_ret, goesOn_exit, goesOn_ret, cut_exit, cut_ret, cutx_exit, cutx_ret, reduceIte, Nat.reduceEqDiff, reduceCtorEq, Nat.one_ne_zero, Nat.zero_ne_one]
  refine EC_draw [0, 1, 0, 7, 15, 0, 32, 0, 224, 480, 0, 0, 3103, 8191] rfl ?_
  repeat (first | refine dr_I rfl rfl rfl rfl rfl ?_ | refine dr_P rfl rfl rfl rfl rfl ?_)
  refine dr_load rfl rfl rfl rfl rfl rfl (load1_eq rfl hr2 rfl (v := .slice (some ⟨bE, oE, none⟩) p.eqs.length cE) rfl) rfl rfl ?_
  repeat (first | refine dr_I rfl rfl rfl rfl rfl ?_ | refine dr_P rfl rfl rfl rfl rfl ?_)
  refine dr_idx rfl rfl rfl rfl rfl rfl rfl rfl (by omega) ?_
  refine dr_load (v := .agg #[.slice ae le cce, .slice af lf ccf, .string ⟨⟨q.rhs⟩⟩]) rfl rfl rfl rfl rfl rfl (loadn_eq rfl rfl hxE2 hcE (by omega) (by rw [← hcell]; congr 2 <;> omega)) rfl rfl ?_
  repeat (first | refine dr_I rfl rfl rfl rfl rfl ?_ | refine dr_P rfl rfl rfl rfl rfl ?_)
  refine dr_load rfl rfl rfl rfl rfl rfl (load1_eq rfl hz2 rfl (v := .slice (some ⟨b'E, o'E, none⟩) p.eqs.length dE) rfl) rfl rfl ?_
  repeat (first | refine dr_I rfl rfl rfl rfl rfl ?_ | refine dr_P rfl rfl rfl rfl rfl ?_)
  refine dr_idx rfl rfl rfl rfl rfl rfl rfl rfl (by omega) ?_
  refine dr_load (v := .agg #[.slice be me dce, .slice bf mf dcf, .string ⟨⟨q.rhs⟩⟩]) rfl rfl rfl rfl rfl rfl (loadn_eq rfl rfl gxE2 gcE (by omega) (by rw [← gcell]; congr 2 <;> omega)) rfl rfl ?_
  refine dr_mkp (cs := [.slice none 0 0, .slice none 0 0, .string ⟨⟨[]⟩⟩]) rfl rfl rfl rfl rfl ?_
  refine dr_mkp (cs := [.slice none 0 0, .slice none 0 0, .string ⟨⟨[]⟩⟩]) rfl rfl rfl rfl rfl ?_
  refine dr_storeN (cs := [.slice ae le cce, .slice af lf ccf, .string ⟨⟨q.rhs⟩⟩]) rfl rfl rfl rfl rfl rfl rfl rfl ((upd_ne (by omega)).trans (upd_same _ _ _)) (Nat.le_of_ble_eq_true rfl) (by show 3 * n ≤ 3 * n2 + 2; omega) rfl rfl (okLoads_bt (bt := 3 * n2 + 2) (by simp) (by simp; omega)) ?_
  refine dr_storeN (cs := [.slice be me dce, .slice bf mf dcf, .string ⟨⟨q.rhs⟩⟩]) rfl rfl rfl rfl rfl rfl rfl rfl ((upd_ne (by omega)).trans (upd_same _ _ _)) (Nat.le_of_ble_eq_true rfl) (by show 3 * n ≤ 3 * (n2 + 1) + 2; omega) rfl rfl rfl ?_
  generalize hh3 : upd (upd (upd (upd h2 _ _) _ _) _ _) _ _ = h3
  have hx3 : Ext n2 h2 h3 := fun b hb => by rw [← hh3, upd_ne (by omega), upd_ne (by omega), upd_ne (by omega), upd_ne (by omega)]
  have hr3 : ∃ ty, h3 (3 * n2 + 2) = some (.row [.slice ae le cce, .slice af lf ccf, .string ⟨⟨q.rhs⟩⟩] ty) := ⟨_, by rw [← hh3, upd_ne (by omega), upd_same]; rfl⟩
  have hz3 : ∃ ty, h3 (3 * (n2 + 1) + 2) = some (.row [.slice be me dce, .slice bf mf dcf, .string ⟨⟨q.rhs⟩⟩] ty) := ⟨_, by rw [← hh3, upd_same]; rfl⟩
  obtain ⟨ty3, hr3⟩ := hr3
  obtain ⟨tyz3, hz3⟩ := hz3
  have hx03 : Ext n h h3 := hx02.trans hx3 (by omega)
  have hn3 : n ≤ n2 + 1 + 1 := by omega
  simp only [EC_seq, EC_region, EC_block, EC_scope, EC_skip, EC_exit, EC_ret, EC_label, EO_nil, ED_nil, after_normal, after_exit, after_ret, leave_normal, leave_exit, leave_ret, goesOn_exit, goesOn_ret, cut_exit, cut_ret, cutx_exit, cutx_ret, reduceIte, Nat.reduceEqDiff, reduceCtorEq, Nat.one_ne_zero, Nat.zero_ne_one]
  repeat (first | refine st_ltT rfl rfl rfl rfl rfl rfl (by omega) ?_ | refine st_ltF rfl rfl rfl rfl rfl rfl (by omega) ?_ | refine st_neqF rfl rfl rfl rfl rfl rfl (by omega) ?_ | refine st_add rfl rfl rfl rfl rfl rfl (by omega) ?_ | refine st_I rfl rfl rfl rfl rfl ?_ | refine st_B rfl rfl rfl rfl rfl ?_ | refine st_P rfl rfl rfl rfl rfl ?_ | refine st_val (v := .pointer none) rfl rfl rfl rfl rfl ?_)
  refine st_load1 rfl rfl rfl rfl rfl rfl hr3 rfl (v := .slice ae le cce) rfl ?_
  repeat (first | refine st_ltT rfl rfl rfl rfl rfl rfl (by omega) ?_ | refine st_ltF rfl rfl rfl rfl rfl rfl (by omega) ?_ | refine st_neqF rfl rfl rfl rfl rfl rfl (by omega) ?_ | refine st_add rfl rfl rfl rfl rfl rfl (by omega) ?_ | refine st_I rfl rfl rfl rfl rfl ?_ | refine st_B rfl rfl rfl rfl rfl ?_ | refine st_P rfl rfl rfl rfl rfl ?_ | refine st_val (v := .pointer none) rfl rfl rfl rfl rfl ?_)
  refine st_load1 rfl rfl rfl rfl rfl rfl hz3 rfl (v := .slice be me dce) rfl ?_
  refine st_vf _ rfl rfl rfl rfl rfl (sameList_ok k (hve.ext hx03 hn3) (gve.ext hx03 hn3) q1) ?_
  rintro _ rfl
  repeat (first | refine st_ltT rfl rfl rfl rfl rfl rfl (by omega) ?_ | refine st_ltF rfl rfl rfl rfl rfl rfl (by omega) ?_ | refine st_neqF rfl rfl rfl rfl rfl rfl (by omega) ?_ | refine st_add rfl rfl rfl rfl rfl rfl (by omega) ?_ | refine st_I rfl rfl rfl rfl rfl ?_ | refine st_B rfl rfl rfl rfl rfl ?_ | refine st_P rfl rfl rfl rfl rfl ?_ | refine st_val (v := .pointer none) rfl rfl rfl rfl rfl ?_)
  refine st_load1 rfl rfl rfl rfl rfl rfl hr3 rfl (v := .slice af lf ccf) rfl ?_
  repeat (first | refine st_ltT rfl rfl rfl rfl rfl rfl (by omega) ?_ | refine st_ltF rfl rfl rfl rfl rfl rfl (by omega) ?_ | refine st_neqF rfl rfl rfl rfl rfl rfl (by omega) ?_ | refine st_add rfl rfl rfl rfl rfl rfl (by omega) ?_ | refine st_I rfl rfl rfl rfl rfl ?_ | refine st_B rfl rfl rfl rfl rfl ?_ | refine st_P rfl rfl rfl rfl rfl ?_ | refine st_val (v := .pointer none) rfl rfl rfl rfl rfl ?_)
  refine st_load1 rfl rfl rfl rfl rfl rfl hz3 rfl (v := .slice bf mf dcf) rfl ?_
  refine st_vf _ rfl rfl rfl rfl rfl (sameStrings_ok k (hvf.ext hx03 hn3) (gvf.ext hx03 hn3) q2) ?_
  rintro _ rfl
  repeat (first | refine st_ltT rfl rfl rfl rfl rfl rfl (by omega) ?_ | refine st_ltF rfl rfl rfl rfl rfl rfl (by omega) ?_ | refine st_neqF rfl rfl rfl rfl rfl rfl (by omega) ?_ | refine st_add rfl rfl rfl rfl rfl rfl (by omega) ?_ | refine st_I rfl rfl rfl rfl rfl ?_ | refine st_B rfl rfl rfl rfl rfl ?_ | refine st_P rfl rfl rfl rfl rfl ?_ | refine st_val (v := .pointer none) rfl rfl rfl rfl rfl ?_)
  refine st_load1 rfl rfl rfl rfl rfl rfl hr3 rfl (v := .string ⟨⟨q.rhs⟩⟩) rfl ?_
  repeat (first | refine st_ltT rfl rfl rfl rfl rfl rfl (by omega) ?_ | refine st_ltF rfl rfl rfl rfl rfl rfl (by omega) ?_ | refine st_neqF rfl rfl rfl rfl rfl rfl (by omega) ?_ | refine st_add rfl rfl rfl rfl rfl rfl (by omega) ?_ | refine st_I rfl rfl rfl rfl rfl ?_ | refine st_B rfl rfl rfl rfl rfl ?_ | refine st_P rfl rfl rfl rfl rfl ?_ | refine st_val (v := .pointer none) rfl rfl rfl rfl rfl ?_)
  refine st_load1 rfl rfl rfl rfl rfl rfl hz3 rfl (v := .string ⟨⟨q.rhs⟩⟩) rfl ?_
  refine st_val (v := .bool false) rfl rfl rfl rfl (by show some (Value.bool (!(q.rhs == q.rhs))) = _; simp) ?_
  repeat (first | refine st_ltT rfl rfl rfl rfl rfl rfl (by omega) ?_ | refine st_ltF rfl rfl rfl rfl rfl rfl (by omega) ?_ | refine st_neqF rfl rfl rfl rfl rfl rfl (by omega) ?_ | refine st_add rfl rfl rfl rfl rfl rfl (by omega) ?_ | refine st_I rfl rfl rfl rfl rfl ?_ | refine st_B rfl rfl rfl rfl rfl ?_ | refine st_P rfl rfl rfl rfl rfl ?_ | refine st_val (v := .pointer none) rfl rfl rfl rfl rfl ?_)
  simp only [EC_seq, EC_region, EC_block, EC_scope, EC_skip, EC_exit, EC_ret, EC_label, EO_nil, ED_nil, after_normal, after_exit, after_ret, leave_normal, leave_exit, leave_ret, goesOn_exit, goesOn_ret, cut_exit, cut_ret, cutx_exit, cutx_ret, reduceIte, Nat.reduceEqDiff, reduceCtorEq, Nat.one_ne_zero, Nat.zero_ne_one]
  rw [EC_cond_false rfl]
  simp only [EC_seq, EC_region, EC_block, EC_scope, EC_skip, EC_exit, EC_ret, EC_label, EO_nil, ED_nil, after_normal, after_exit, after_ret, leave_normal, leave_exit, leave_ret, goesOn_exit, goesOn_ret, cut_exit, cut_ret, cutx_exit, cutx_ret, reduceIte, Nat.reduceEqDiff, reduceCtorEq, Nat.one_ne_zero, Nat.zero_ne_one]
  repeat (first | refine st_ltT rfl rfl rfl rfl rfl rfl (by omega) ?_ | refine st_ltF rfl rfl rfl rfl rfl rfl (by omega) ?_ | refine st_neqF rfl rfl rfl rfl rfl rfl (by omega) ?_ | refine st_add rfl rfl rfl rfl rfl rfl (by omega) ?_ | refine st_I rfl rfl rfl rfl rfl ?_ | refine st_B rfl rfl rfl rfl rfl ?_ | refine st_P rfl rfl rfl rfl rfl ?_ | refine st_val (v := .pointer none) rfl rfl rfl rfl rfl ?_)
  simp only [EC_seq, EC_region, EC_block, EC_scope, EC_skip, EC_exit, EC_ret, EC_label, EO_nil, ED_nil, after_normal, after_exit, after_ret, leave_normal, leave_exit, leave_ret, goesOn_exit, goesOn_ret, cut_exit, cut_ret, cutx_exit, cutx_ret, reduceIte, Nat.reduceEqDiff, reduceCtorEq, Nat.one_ne_zero, Nat.zero_ne_one]
  exact goOn (i + 1) (by show p.eqs.length - (i + 1) < p.eqs.length - i; omega) ⟨rfl, rfl, rfl, by show Value.int .i64 _ = Value.int .i64 _; congr 1, trivial⟩ ⟨hx2.trans hx3 hn2, by show n + 1 + 1 ≤ n2 + 1 + 1; omega, rfl, by show i + 1 ≤ p.eqs.length; omega⟩
end Go.Proofs.YtokfihhdllmbmaaGreatDoor
namespace Go.Proofs.YtokfihhdllmbmaaGreatDoor
open Go Go.GL
/-! Package sosoptref25: Selected. -/
theorem okAls_ne {m b : Nat} : ∀ {l : List (Nat × Nat)}, (∀ x ∈ l, x.2 ≠ b) → okAls m b l = true := by
  intro l
  induction l with
  | nil => intro _; rfl
  | cons x l ih =>
    intro h
    obtain ⟨i, c⟩ := x
    unfold okAls
    have : Nat.beq b c = false := by
      cases he : Nat.beq b c with
      | false => rfl
      | true => exact absurd (Nat.eq_of_beq_eq_true he).symm (h (i, c) (by simp))
    rw [this, Bool.not_false, Bool.or_true]
    exact ih fun y hy => h y (by simp [hy])
section
variable {X : CtxF} {ops r : List Oper} {ms : List Nat} {i m : Nat} {t : TF} {h : HF} {n : Nat} {w : List Nat} {al ld : List (Nat × Nat)} {ef : List (Nat × HF × List Nat)} {Q : SV → Prop} {o : Oper} {d : Tmp}
/-- A copy by an append onto a new empty slice. -/
theorem dr_cpy {xT sT e : TypeId} {s x : Operand} {size bytes mm b : Nat} {z : Value} {new : List Value} (hw : wantsF ops t o = true) (hd : o.dst = some d) (hn : dstOk X.nt (some d) = true) (ho : o.op = .call { callee := .builtin .append, args := #[s, x], argTypes := #[sT, xT] }) (hxT : (match X.E.und xT with | some (.int _) => false | none => false | _ => true) = true)
    (hu : X.E.und sT = some (.slice e)) (hi : X.E.inf e = some (size, bytes, z)) (hz : (vcells z).length = size) (h1 : 1 ≤ size ∧ 1 ≤ bytes) (g1 : allEfF m ef = true) (g2 : allAl m al = true) (hs : evF t s = .slice (some ⟨3 * b + 2, 0, none⟩) 0 0) (hbn : b < n) (hx : argS h size (evF t x) mm new) (hb : mm * bytes ≤ 1099511627776) (hl : new.length = mm * size)
    (k : ∀ a' h' n', n ≤ n' → Ext n h h' → Sl h' n' size (.slice a' mm mm) new → Fresh b (.slice a' mm mm) → ED X ops r ms (i + 1) ⟨⟨upd t d (.slice a' mm mm), h', n', w⟩, al, ld, (i, h, []) :: ef⟩ Q) : ED X ops (o :: r) (m :: ms) i ⟨⟨t, h, n, w⟩, al, ld, ef⟩ Q := by
  obtain ⟨v', h', n', h2, h3, h4, h5, h6, a, rfl⟩ := append_emp hu hi hz h1 hx hb (gro_made b) hl
  refine dr_append hw hd hn ho hxT (hs ▸ h2) g1 g2 okLoads_nil h3 ?_
  exact k a h' n' h3 h4 (h5 (by omega)) (h6 b (by omega) (by omega))
end
set_option maxHeartbeats 4000000
theorem selected_ok (k : Nat) {h : HF} {n : Nat} {vB vO vF vE : Value} {p : Sdp} (hp : SdpR h n vB vO vF vE p) (hl : SdpLen p) {aK : Option Addr} {lK cK : Nat} {K : List Int} (hK : Sl h n 1 (.slice aK lK cK) (i64s K)) (hKl : K.length ≤ 1000) (hgood : ∀ j, j < K.length → GoodAt p.eqs.length K j) :
    CF (cal (k + 1)) 35 [.agg #[vB, .int .i64 (p.free : Int), vO, vF, vE], .slice aK lK cK] h n fun v h' n' w => w = [] ∧ n ≤ n' ∧ Ext n h h' ∧ ∃ vB' vO' vF' vE', v = .agg #[vB', .int .i64 (p.free : Int), vO', vF', vE'] ∧ SdpR h' n' vB' vO' vF' vE' (sel p K) := by
  refine CF_heap (fn := Tryz.f35) rfl rfl rfl rfl ?_
  obtain ⟨hB, hO, hF, ce, hE, hEq⟩ := hp
  obtain ⟨l1, l2, l3, l4, l5⟩ := hl
  obtain ⟨aB, lB, cB, rfl, _⟩ := hB.len
  obtain ⟨aO, lO, cO, rfl, _⟩ := hO.len
  obtain ⟨aF, lF, cF, rfl, _⟩ := hF.len
  obtain ⟨aE, lE, cE, rfl, _⟩ := hE.len
  have hlB := hB.lenEq (m := p.blocks.length) (by omega) (by simp [i64s])
  have hlO := hO.lenEq (m := p.obj.length) (by omega) (ents_len _)
  have hlF := hF.lenEq (m := p.objFree.length) (by omega) (by simp [strs])
  have hlE := hE.lenEq (m := p.eqs.length) (by omega) hEq.len
  have hlK := hK.lenEq (m := K.length) (by omega) (by simp [i64s])
  subst hlB hlO hlF hlE hlK
  simp only [EC_seq, EC_region, EC_block, EC_scope, EC_skip, EC_exit, EC_ret, EC_label, EO_nil, ED_nil, after_normal, after_exit, after_ret, leave_normal, leave_exit, leave_ret, goesOn_exit, goesOn_ret, cut_exit, cut_ret, cutx_exit, cutx_ret, reduceIte, Nat.reduceEqDiff, reduceCtorEq, Nat.one_ne_zero, Nat.zero_ne_one]
  refine st_mkp (cs := [.slice aB p.blocks.length cB, .int .i64 (p.free : Int), .slice aO p.obj.length cO, .slice aF p.objFree.length cF, .slice aE p.eqs.length cE]) rfl rfl rfl rfl rfl ?_
  refine st_alloc rfl rfl rfl rfl rfl ?_
  generalize hh : upd (upd h (3 * n + 2) _) (3 * (n + 1) + 2) _ = h1
  have hx1 : Ext n h h1 := fun b hb => by rw [← hh, upd_ne (by omega), upd_ne (by omega)]
  have hr1 : ∃ ty, h1 (3 * n + 2) = some (.row [.slice aB p.blocks.length cB, .int .i64 (p.free : Int), .slice aO p.obj.length cO, .slice aF p.objFree.length cF, .slice aE p.eqs.length cE] ty) := ⟨_, by rw [← hh, upd_ne (by omega), upd_same]⟩
  have hz1 : ∃ ty, h1 (3 * (n + 1) + 2) = some (.row zeroSdp ty) := ⟨_, by rw [← hh, upd_same]; rfl⟩
  obtain ⟨ty1, hr1⟩ := hr1
  obtain ⟨tyz, hz1⟩ := hz1
  have hn1 : n ≤ n + 1 + 1 := by omega
  have hB1 := hB.ext hx1 hn1
  have hO1 := hO.ext hx1 hn1
  have hF1 := hF.ext hx1 hn1
  have hE1 := hE.ext hx1 hn1
  have hEq1 := hEq.ext hx1 hn1
  have hK1 := hK.ext hx1 hn1
  simp only [EC_seq, EC_region, EC_block, EC_scope, EC_skip, EC_exit, EC_ret, EC_label, EO_nil, ED_nil, after_normal, after_exit, after_ret, leave_normal, leave_exit, leave_ret, goesOn_exit, goesOn_ret, cut_exit, cut_ret, cutx_exit, cutx_ret, reduceIte, Nat.reduceEqDiff, reduceCtorEq, Nat.one_ne_zero, Nat.zero_ne_one]
  refine EC_draw [0, 0, 2, 7, 0, 16, 0, 0, 128, 463, 0, 0, 2048, 8143, 16383, 0, 65535] rfl ?_
  refine dr_mks (cs := []) rfl rfl rfl rfl rfl ?_
  have hxa : Ext (n + 1 + 1) h1 (upd h1 (3 * (n + 1 + 1) + 2) (some (.row [] 3))) := Ext.upd (by omega)
  generalize upd h1 (3 * (n + 1 + 1) + 2) _ = ha at hxa ⊢
  have hra : ha (3 * n + 2) = _ := (hxa _ (by omega)).trans hr1
  repeat (refine dr_P rfl rfl rfl rfl rfl ?_)
  refine dr_load rfl rfl rfl rfl rfl rfl (load1_eq rfl hra rfl (v := .slice aB p.blocks.length cB) rfl) rfl (okAls_ne (by simp; omega)) ?_
  refine dr_cpy (b := n + 1 + 1) rfl rfl rfl rfl rfl rfl rfl rfl (by decide) rfl rfl rfl (by omega) (argS_sl (hB1.ext hxa (Nat.le_succ _))) (by omega) (by simp [i64s]) ?_
  intro a2 h2 n2 hn2 hx2 hs2 hf2
  repeat (refine dr_P rfl rfl rfl rfl rfl ?_)
  refine dr_load rfl rfl rfl rfl rfl rfl (load1_eq rfl hra rfl (v := .int .i64 (p.free : Int)) rfl) (okEffsF_nil (by simp)) (okAls_ne (by simp; omega)) ?_
  refine dr_mks (cs := []) rfl rfl rfl rfl rfl ?_
  have hxb : Ext n2 h2 (upd h2 (3 * n2 + 2) (some (.row [] 37))) := Ext.upd (by omega)
  generalize upd h2 (3 * n2 + 2) _ = hb at hxb ⊢
  repeat (refine dr_P rfl rfl rfl rfl rfl ?_)
  refine dr_load rfl rfl rfl rfl rfl rfl (load1_eq rfl hra rfl (v := .slice aO p.obj.length cO) rfl) (okEffsF_nil (by simp)) (okAls_ne (by simp; omega)) ?_
  refine dr_cpy (b := n2) rfl rfl rfl rfl rfl rfl rfl rfl (by decide) rfl rfl rfl (by omega) (argS_sl (((hO1.ext hxa (Nat.le_succ _)).ext hx2 hn2).ext hxb (Nat.le_succ _))) (by omega) (ents_len _) ?_
  intro a3 h3 n3 hn3 hx3 hs3 hf3
  refine dr_mks (cs := []) rfl rfl rfl rfl rfl ?_
  have hxc : Ext n3 h3 (upd h3 (3 * n3 + 2) (some (.row [] 9))) := Ext.upd (by omega)
  generalize upd h3 (3 * n3 + 2) _ = hc at hxc ⊢
  repeat (refine dr_P rfl rfl rfl rfl rfl ?_)
  refine dr_load rfl rfl rfl rfl rfl rfl (load1_eq rfl hra rfl (v := .slice aF p.objFree.length cF) rfl) (okEffsF_nil (by simp)) (okAls_ne (by simp; omega)) ?_
  refine dr_cpy (b := n3) rfl rfl rfl rfl rfl rfl rfl rfl (by decide) rfl rfl rfl (by omega) (argS_sl (((((hF1.ext hxa (Nat.le_succ _)).ext hx2 hn2).ext hxb (Nat.le_succ _)).ext hx3 hn3).ext hxc (Nat.le_succ _))) (by omega) (by simp [strs]) ?_
  intro a4 h4 n4 hn4 hx4 hs4 hf4
  refine dr_val (v := .agg #[.slice a2 p.blocks.length p.blocks.length, .int .i64 (p.free : Int), .slice a3 p.obj.length p.obj.length, .slice a4 p.objFree.length p.objFree.length, .slice none 0 0]) rfl rfl rfl rfl rfl ?_
  refine dr_mkp (cs := zeroSdp) rfl rfl rfl rfl rfl ?_
  refine dr_storeN (cs := [.slice a2 p.blocks.length p.blocks.length, .int .i64 (p.free : Int), .slice a3 p.obj.length p.obj.length, .slice a4 p.objFree.length p.objFree.length, .slice none 0 0]) rfl rfl rfl rfl rfl rfl rfl rfl (upd_same _ _ _) (Nat.le_of_ble_eq_true rfl) (by show 3 * n ≤ 3 * n4 + 2; omega) rfl rfl rfl ?_
  rw [upd_upd]
  simp only [EC_seq, EC_region, EC_block, EC_scope, EC_skip, EC_exit, EC_ret, EC_label, EO_nil, ED_nil, after_normal, after_exit, after_ret, leave_normal, leave_exit, leave_ret, goesOn_exit, goesOn_ret, cut_exit, cut_ret, cutx_exit, cutx_ret, reduceIte, Nat.reduceEqDiff, reduceCtorEq, Nat.one_ne_zero, Nat.zero_ne_one]
  repeat (first | refine st_ltT rfl rfl rfl rfl rfl rfl (by omega) ?_ | refine st_ltF rfl rfl rfl rfl rfl rfl (by omega) ?_ | refine st_add rfl rfl rfl rfl rfl rfl (by omega) ?_ | refine st_I rfl rfl rfl rfl rfl ?_ | refine st_S rfl rfl rfl rfl rfl ?_ | refine st_P rfl rfl rfl rfl rfl ?_)
  simp only [EC_seq, EC_region, EC_block, EC_scope, EC_skip, EC_exit, EC_ret, EC_label, EO_nil, ED_nil, after_normal, after_exit, after_ret, leave_normal, leave_exit, leave_ret, goesOn_exit, goesOn_ret, cut_exit, cut_ret, cutx_exit, cutx_ret, reduceIte, Nat.reduceEqDiff, reduceCtorEq, Nat.one_ne_zero, Nat.zero_ne_one]
  generalize hh5 : upd h4 (3 * n4 + 2) _ = h5
  have hp5 : ∃ e, h5 (3 * n4 + 2) = some (.row [.slice a2 p.blocks.length p.blocks.length, .int .i64 (p.free : Int), .slice a3 p.obj.length p.obj.length, .slice a4 p.objFree.length p.objFree.length, .slice none 0 0] e) := ⟨_, by rw [← hh5, upd_same]; rfl⟩
  have hx5 : Ext n4 h4 h5 := by rw [← hh5]; exact Ext.upd (by omega)
  have hx15 : Ext (n + 1 + 1) h1 h5 := fun b hb => by rw [hx5 b (by omega), hx4 b (by omega), hxc b (by omega), hx3 b (by omega), hxb b (by omega), hx2 b (by omega), hxa b hb]
  have hs2' : Sl h5 (n4 + 1) 1 _ _ := ((((hs2.ext hxb (Nat.le_succ _)).ext hx3 hn3).ext hxc (Nat.le_succ _)).ext hx4 hn4).ext hx5 (Nat.le_succ n4)
  have hs3' : Sl h5 (n4 + 1) 4 _ _ := ((hs3.ext hxc (Nat.le_succ _)).ext hx4 hn4).ext hx5 (Nat.le_succ n4)
  have hs4' : Sl h5 (n4 + 1) 1 _ _ := hs4.ext hx5 (Nat.le_succ n4)
  have hb2 : Below n4 (.slice a2 p.blocks.length p.blocks.length) := ((((hs2.ext hxb (Nat.le_succ _)).ext hx3 hn3).ext hxc (Nat.le_succ _)).ext hx4 hn4).below
  have hb3 : Below n4 (.slice a3 p.obj.length p.obj.length) := ((hs3.ext hxc (Nat.le_succ _)).ext hx4 hn4).below
  have hb4 : Below n4 (.slice a4 p.objFree.length p.objFree.length) := hs4.below
  have hr5 : h5 (3 * n + 2) = _ := (hx15 _ (by omega)).trans hr1
  have hz5 : h5 (3 * (n + 1) + 2) = _ := (hx15 _ (by omega)).trans hz1
  have hK5 := hK1.ext hx15 (show n + 1 + 1 ≤ n4 + 1 by omega)
  have hE5 := hE1.ext hx15 (show n + 1 + 1 ≤ n4 + 1 by omega)
  have hEq5 := hEq1.ext hx15 (show n + 1 + 1 ≤ n4 + 1 by omega)
  refine EC_for (α := Nat × Value × List Value × List Eqn) (fun z => [(2, .pointer (some ⟨3 * n + 2, 0, none⟩)), (4, .pointer (some ⟨3 * (n + 1) + 2, 0, none⟩)), (5, .pointer (some ⟨3 * n4 + 2, 0, none⟩)), (24, .slice aK K.length cK), (25, .int .i64 (K.length : Int)), (26, .int .i64 (z.1 : Int))])
    (fun z h' n' w => w = [] ∧ n4 + 1 ≤ n' ∧ ExtT (n4 + 1) (3 * n4 + 2) h5 h' ∧ (∃ e, h' (3 * n4 + 2) = some (.row [.slice a2 p.blocks.length p.blocks.length, .int .i64 (p.free : Int), .slice a3 p.obj.length p.obj.length, .slice a4 p.objFree.length p.objFree.length, z.2.1] e)) ∧ z.1 ≤ K.length ∧ z.2.2.2 = (K.take z.1).filterMap (fun k => p.eqs[k.toNat]?) ∧ z.2.2.2.length = z.1 ∧
      Gro h' (n4 + 1) n' 35 3 z.2.1 z.2.2.2.length z.2.2.1 ∧ EqR h' n' z.2.2.1 z.2.2.2 ∧ (∀ v ∈ z.2.2.1, Pt (fun b => 3 * (n4 + 1) ≤ b) v) ∧ (∀ v ∈ z.2.2.1, ∀ b o l c, z.2.1 = .slice (some ⟨b, o, none⟩) l c → Pt (fun b' => b' ≠ b) v)) (fun z => K.length - z.1)
    (0, .slice none 0 0, [], []) ⟨rfl, rfl, rfl, rfl, rfl, rfl, trivial⟩ ⟨rfl, Nat.le_refl _, ExtT.refl _ _ _, hp5, Nat.zero_le _, rfl, rfl, .nil, .nil, fun v hv => absurd hv List.not_mem_nil, fun v hv => absurd hv List.not_mem_nil⟩ (by show K.length - 0 < LL; unfold LL; omega) ?_
  rintro ⟨j, vG, ce8, qs⟩ t h8 n8 w8 ⟨rfl, hn8, hx8, ⟨e8, hp8⟩, hj8, hqs, hql, hgE, hEq8, hPt, hPt2⟩
  simp only at hp8 hj8 hqs hql hgE hEq8 hPt hPt2
  subst hql
  obtain ⟨aG, rfl, hceL⟩ := hgE.shape
  have hfG : Fresh (n4 + 1) (.slice aG qs.length qs.length) := hgE.fresh
  have hr8 : h8 (3 * n + 2) = _ := (hx8 _ (by omega) (by omega)).trans hr5
  have hz8 : h8 (3 * (n + 1) + 2) = _ := (hx8 _ (by omega) (by omega)).trans hz5
  have hxh8 : ∀ b, b < 3 * (n + 1 + 1) → h8 b = h1 b := fun b hb => (hx8 b (by omega) (by omega)).trans (hx15 b hb)
  simp only [EC_seq, EC_region, EC_block, EC_scope, EC_skip, EC_exit, EC_ret, EC_label, EO_nil, ED_nil, after_normal, after_exit, after_ret, leave_normal, leave_exit, leave_ret, goesOn_exit, goesOn_ret, cut_exit, cut_ret, cutx_exit, cutx_ret, reduceIte, Nat.reduceEqDiff, reduceCtorEq, Nat.one_ne_zero, Nat.zero_ne_one]
  by_cases hjK : qs.length = K.length
  · repeat (first | refine st_ltT rfl rfl rfl rfl rfl rfl (by omega) ?_ | refine st_ltF rfl rfl rfl rfl rfl rfl (by omega) ?_ | refine st_add rfl rfl rfl rfl rfl rfl (by omega) ?_ | refine st_I rfl rfl rfl rfl rfl ?_ | refine st_S rfl rfl rfl rfl rfl ?_ | refine st_P rfl rfl rfl rfl rfl ?_)
    simp only [EC_seq, EC_region, EC_block, EC_scope, EC_skip, EC_exit, EC_ret, EC_label, EO_nil, ED_nil, after_normal, after_exit, after_ret, leave_normal, leave_exit, leave_ret, goesOn_exit, goesOn_ret, cut_exit, cut_ret, cutx_exit, cutx_ret, reduceIte, Nat.reduceEqDiff, reduceCtorEq, Nat.one_ne_zero, Nat.zero_ne_one]
    rw [EC_cond_false rfl]
    simp only [EC_seq, EC_region, EC_block, EC_scope, EC_skip, EC_exit, EC_ret, EC_label, EO_nil, ED_nil, after_normal, after_exit, after_ret, leave_normal, leave_exit, leave_ret, goesOn_exit, goesOn_ret, cut_exit, cut_ret, cutx_exit, cutx_ret, reduceIte, Nat.reduceEqDiff, reduceCtorEq, Nat.one_ne_zero, Nat.zero_ne_one]
    refine st_load (v := .agg #[.slice a2 p.blocks.length p.blocks.length, .int .i64 (p.free : Int), .slice a3 p.obj.length p.obj.length, .slice a4 p.objFree.length p.objFree.length, .slice aG qs.length qs.length]) rfl rfl rfl rfl rfl (loadn_eq rfl rfl hp8 rfl (Nat.le_of_ble_eq_true rfl) rfl) ?_
    refine st_storeW [.slice a2 p.blocks.length p.blocks.length, .int .i64 (p.free : Int), .slice a3 p.obj.length p.obj.length, .slice a4 p.objFree.length p.objFree.length, .slice aG qs.length qs.length] rfl rfl rfl rfl rfl rfl rfl rfl hz8 rfl (by show 3 * n ≤ 3 * (n + 1) + 2; omega) ?_
    repeat (first | refine st_ltT rfl rfl rfl rfl rfl rfl (by omega) ?_ | refine st_ltF rfl rfl rfl rfl rfl rfl (by omega) ?_ | refine st_add rfl rfl rfl rfl rfl rfl (by omega) ?_ | refine st_I rfl rfl rfl rfl rfl ?_ | refine st_S rfl rfl rfl rfl rfl ?_ | refine st_P rfl rfl rfl rfl rfl ?_)
    simp only [EC_seq, EC_region, EC_block, EC_scope, EC_skip, EC_exit, EC_ret, EC_label, EO_nil, ED_nil, after_normal, after_exit, after_ret, leave_normal, leave_exit, leave_ret, goesOn_exit, goesOn_ret, cut_exit, cut_ret, cutx_exit, cutx_ret, reduceIte, Nat.reduceEqDiff, reduceCtorEq, Nat.one_ne_zero, Nat.zero_ne_one]
    have hnew : ∀ {x : Option BF} {sz : Nat} {v : Value} {c : List Value} {m : Nat}, Sl h5 (n4 + 1) sz v c → Fresh m v → n + 1 + 1 ≤ m → Below n4 v → Sl (upd h8 (3 * (n + 1) + 2) x) n8 sz v c := fun hs hf hm hb => hs.keep (fun a l c e => by
      subst e
      have h2 : 3 * _ ≤ a.block := hf
      have h1 : a.block < 3 * n4 := hb
      exact (upd_ne (by omega)).trans (hx8 _ (by omega) (by omega))) hn8
    refine retCell rfl rfl rfl rfl rfl (upd_same _ _ _) rfl ⟨rfl, by show n ≤ n8; omega, fun b hb => (upd_ne (by omega)).trans ((hxh8 b (by omega)).trans (hx1 b hb)), _, _, _, _, rfl, ?_⟩
    · refine ⟨hnew hs2' hf2 (by omega) hb2, hnew hs3' hf3 (by omega) hb3, hnew hs4' hf4 (by omega) hb4, ce8, hgE.sl.old (m := n4 + 1) hfG (by omega), ?_⟩
      have hse : (sel p K).eqs = qs := by
        have h' := hqs
        rw [hjK, List.take_length] at h'
        exact h'.symm
      rw [hse]
      exact hEq8.mapS fun v hv sz c hs => hs.keep (fun a l c' e => upd_ne (by have := hPt v hv a l c' e; omega)) (Nat.le_refl _)
  obtain ⟨kk, hkk⟩ : ∃ x, K[qs.length]? = some x := ⟨K[qs.length]'(by omega), List.getElem?_eq_getElem (by omega)⟩
  obtain ⟨hk0, hkm, _⟩ := hgood qs.length (by omega) kk hkk
  obtain ⟨m, rfl⟩ : ∃ m : Nat, kk = (m : Int) := ⟨kk.toNat, by omega⟩
  obtain ⟨q, hq⟩ : ∃ q, p.eqs[m]? = some q := ⟨p.eqs[m]'(by omega), List.getElem?_eq_getElem (by omega)⟩
  obtain ⟨q1, q2⟩ := l5 q (List.mem_of_getElem? hq)
  obtain ⟨ve, vf, hce, hve, hvf⟩ := hEq1.get hq
  obtain ⟨ae, le, cce, rfl, _⟩ := hve.len
  obtain ⟨af, lf, ccf, rfl, _⟩ := hvf.len
  have hle := hve.lenEq (m := q.es.length) (by omega) (ents_len _)
  have hlf := hvf.lenEq (m := q.fr.length) (by omega) (by simp [strs])
  subst hle hlf
  obtain ⟨bK, oK, xK, csK, rfl, hbK, hxK, hcK, _, _, heK⟩ := hK1.inv (by omega)
  have gK : csK[oK + qs.length]? = some (.int .i64 (m : Int)) := cell_at heK (by rw [i64s, List.getElem?_map, hkk]; rfl)
  obtain ⟨bE, oE, xE, csE, rfl, hbE, hxE, hcE, hcapE, hleE, heE⟩ := hE1.inv (by omega)
  have hcell : (csE.drop (oE + m * 3)).take 3 = [.slice ae q.es.length cce, .slice af q.fr.length ccf, .string ⟨⟨q.rhs⟩⟩] := by rw [take_at heE (by omega), hce]
  have hxE8 : h8 bE = some xE := by rw [hxh8 bE hbE]; exact hxE
  have hxK8 : h8 bK = some xK := by rw [hxh8 bK hbK]; exact hxK
  repeat (first | refine st_ltT rfl rfl rfl rfl rfl rfl (by omega) ?_ | refine st_ltF rfl rfl rfl rfl rfl rfl (by omega) ?_ | refine st_add rfl rfl rfl rfl rfl rfl (by omega) ?_ | refine st_I rfl rfl rfl rfl rfl ?_ | refine st_S rfl rfl rfl rfl rfl ?_ | refine st_P rfl rfl rfl rfl rfl ?_)
  simp only [EC_seq, EC_region, EC_block, EC_scope, EC_skip, EC_exit, EC_ret, EC_label, EO_nil, ED_nil, after_normal, after_exit, after_ret, leave_normal, leave_exit, leave_ret, goesOn_exit, goesOn_ret, cut_exit, cut_ret, cutx_exit, cutx_ret, reduceIte, Nat.reduceEqDiff, reduceCtorEq, Nat.one_ne_zero, Nat.zero_ne_one]
  rw [EC_cond_true rfl]
  simp only [EC_seq, EC_region, EC_block, EC_scope, EC_skip, EC_exit, EC_ret, EC_label, EO_nil, ED_nil, after_normal, after_exit, after_ret, leave_normal, leave_exit, leave_ret, goesOn_exit, goesOn_ret, cut_exit, cut_ret, cutx_exit, cutx_ret, reduceIte, Nat.reduceEqDiff, reduceCtorEq, Nat.one_ne_zero, Nat.zero_ne_one]
  refine st_idx rfl rfl rfl rfl rfl rfl rfl rfl (by omega) ?_
  refine st_load1 rfl rfl rfl rfl rfl rfl hxK8 hcK (v := .int .i64 (m : Int)) (by rw [← gK]; congr 1; omega) ?_
  repeat (first | refine st_ltT rfl rfl rfl rfl rfl rfl (by omega) ?_ | refine st_ltF rfl rfl rfl rfl rfl rfl (by omega) ?_ | refine st_add rfl rfl rfl rfl rfl rfl (by omega) ?_ | refine st_I rfl rfl rfl rfl rfl ?_ | refine st_S rfl rfl rfl rfl rfl ?_ | refine st_P rfl rfl rfl rfl rfl ?_)
  simp only [EC_seq, EC_region, EC_block, EC_scope, EC_skip, EC_exit, EC_ret, EC_label, EO_nil, ED_nil, after_normal, after_exit, after_ret, leave_normal, leave_exit, leave_ret, goesOn_exit, goesOn_ret, cut_exit, cut_ret, cutx_exit, cutx_ret, reduceIte, Nat.reduceEqDiff, reduceCtorEq, Nat.one_ne_zero, Nat.zero_ne_one]
  repeat (first | refine st_ltT rfl rfl rfl rfl rfl rfl (by omega) ?_ | refine st_ltF rfl rfl rfl rfl rfl rfl (by omega) ?_ | refine st_add rfl rfl rfl rfl rfl rfl (by omega) ?_ | refine st_I rfl rfl rfl rfl rfl ?_ | refine st_S rfl rfl rfl rfl rfl ?_ | refine st_P rfl rfl rfl rfl rfl ?_)
  refine st_load1 rfl rfl rfl rfl rfl rfl hr8 rfl (v := .slice (some ⟨bE, oE, none⟩) p.eqs.length cE) rfl ?_
  repeat (first | refine st_ltT rfl rfl rfl rfl rfl rfl (by omega) ?_ | refine st_ltF rfl rfl rfl rfl rfl rfl (by omega) ?_ | refine st_add rfl rfl rfl rfl rfl rfl (by omega) ?_ | refine st_I rfl rfl rfl rfl rfl ?_ | refine st_S rfl rfl rfl rfl rfl ?_ | refine st_P rfl rfl rfl rfl rfl ?_)
  refine st_idx rfl rfl rfl rfl rfl rfl rfl rfl (by omega) ?_
  refine st_load (v := .agg #[.slice ae q.es.length cce, .slice af q.fr.length ccf, .string ⟨⟨q.rhs⟩⟩]) rfl rfl rfl rfl rfl (loadn_eq rfl rfl hxE8 hcE (by omega) (by rw [← hcell]; congr 2 <;> omega)) ?_
  refine st_alloc rfl rfl rfl rfl rfl ?_
  refine st_storeW [.slice ae q.es.length cce, .slice af q.fr.length ccf, .string ⟨⟨q.rhs⟩⟩] rfl rfl rfl rfl rfl rfl rfl rfl (upd_same _ _ _) rfl (by show 3 * n ≤ 3 * n8 + 2; omega) ?_
  rw [upd_upd]
  generalize hh' : upd h8 (3 * n8 + 2) _ = hd
  have hpd : ∃ ty, hd (3 * n8 + 2) = some (.row [.slice ae q.es.length cce, .slice af q.fr.length ccf, .string ⟨⟨q.rhs⟩⟩] ty) := ⟨_, by rw [← hh', upd_same]⟩
  obtain ⟨tyd, hpd⟩ := hpd
  have hxd : Ext n8 h8 hd := by rw [← hh']; exact Ext.upd (by omega)
  have hp8d : hd (3 * n4 + 2) = _ := (hxd _ (by omega)).trans hp8
  have hxt8 : Ext (n + 1 + 1) h1 hd := fun b hb => (hxd b (by omega)).trans (hxh8 b hb)
  simp only [EC_seq, EC_region, EC_block, EC_scope, EC_skip, EC_exit, EC_ret, EC_label, EO_nil, ED_nil, after_normal, after_exit, after_ret, leave_normal, leave_exit, leave_ret, goesOn_exit, goesOn_ret, cut_exit, cut_ret, cutx_exit, cutx_ret, reduceIte, Nat.reduceEqDiff, reduceCtorEq, Nat.one_ne_zero, Nat.zero_ne_one]
  refine EC_draw [0, 1, 0, 0, 8, 28, 0, 0, 128, 508, 0, 1024, 4092, 8188, 16383, 32767, 65535] rfl ?_
  repeat (refine dr_P rfl rfl rfl rfl rfl ?_)
  refine dr_load rfl rfl rfl rfl rfl rfl (load1_eq rfl hp8d rfl (v := .slice aG qs.length qs.length) rfl) rfl rfl ?_
  refine dr_mks (cs := []) rfl rfl rfl rfl rfl ?_
  have hxe : Ext (n8 + 1) hd (upd hd (3 * (n8 + 1) + 2) (some (.row [] 37))) := Ext.upd (by omega)
  generalize upd hd (3 * (n8 + 1) + 2) _ = he at hxe ⊢
  have hpe : he (3 * n8 + 2) = _ := (hxe _ (by omega)).trans hpd
  repeat (refine dr_P rfl rfl rfl rfl rfl ?_)
  refine dr_load rfl rfl rfl rfl rfl rfl (load1_eq rfl hpe rfl (v := .slice ae q.es.length cce) rfl) rfl (okAls_ne (by simp; omega)) ?_
  refine dr_cpy (b := n8 + 1) rfl rfl rfl rfl rfl rfl rfl rfl (by decide) rfl rfl rfl (by omega) (argS_sl ((hve.ext hxt8 (show n + 1 + 1 ≤ n8 + 1 by omega)).ext hxe (Nat.le_succ _))) (by omega) (ents_len _) ?_
  intro a9 hf n9 hn9' hxf hs9 hf9
  refine dr_mks (cs := []) rfl rfl rfl rfl rfl ?_
  have hxg : Ext n9 hf (upd hf (3 * n9 + 2) (some (.row [] 9))) := Ext.upd (by omega)
  generalize upd hf (3 * n9 + 2) _ = hg at hxg ⊢
  repeat (refine dr_P rfl rfl rfl rfl rfl ?_)
  refine dr_load rfl rfl rfl rfl rfl rfl (load1_eq rfl hpe rfl (v := .slice af q.fr.length ccf) rfl) (okEffsF_nil (by simp)) (okAls_ne (by simp; omega)) ?_
  refine dr_cpy (b := n9) rfl rfl rfl rfl rfl rfl rfl rfl (by decide) rfl rfl rfl (by omega) (argS_sl ((((hvf.ext hxt8 (show n + 1 + 1 ≤ n8 + 1 by omega)).ext hxe (Nat.le_succ _)).ext hxf hn9').ext hxg (Nat.le_succ _))) (by omega) (by simp [strs]) ?_
  intro a10 h9 n9' hn9'' hxh hs10 hf10
  repeat (refine dr_P rfl rfl rfl rfl rfl ?_)
  refine dr_load rfl rfl rfl rfl rfl rfl (load1_eq rfl hpe rfl (v := .string ⟨⟨q.rhs⟩⟩) rfl) (okEffsF_nil (by simp)) (okAls_ne (by simp; omega)) ?_
  refine dr_val (v := .agg #[.slice a9 q.es.length q.es.length, .slice a10 q.fr.length q.fr.length, .string ⟨⟨q.rhs⟩⟩]) rfl rfl rfl rfl rfl ?_
  have hn9 : n8 ≤ n9' := by omega
  have hx9 : Ext n8 h8 h9 := fun b hb => by rw [hxh b (by omega), hxg b (by omega), hxf b (by omega), hxe b (by omega), hxd b hb]
  have hs9 := (hs9.ext hxg (Nat.le_succ _)).ext hxh hn9''
  have hf9 := hf9.mono (show n8 ≤ n8 + 1 by omega)
  have hf10 := hf10.mono (show n8 ≤ n9 by omega)
  refine dr_mks (cs := [.slice a9 q.es.length q.es.length, .slice a10 q.fr.length q.fr.length, .string ⟨⟨q.rhs⟩⟩]) rfl rfl rfl rfl rfl ?_
  have hkk2 : ∀ b, b < 3 * n8 → upd h9 (3 * n9' + 2) (some (.row [.slice a9 q.es.length q.es.length, .slice a10 q.fr.length q.fr.length, .string ⟨⟨q.rhs⟩⟩] 35)) b = h8 b := fun b hb => by rw [upd_ne (by omega), hx9 b hb]
  have hgE2 := (hgE.ext hx9 hn9).ext (Ext.upd (b := 3 * n9' + 2) (x := some (.row [.slice a9 q.es.length q.es.length, .slice a10 q.fr.length q.fr.length, .string ⟨⟨q.rhs⟩⟩] 35)) (by omega)) (Nat.le_succ n9')
  refine dr_app (mm := 1) rfl rfl rfl rfl rfl rfl rfl rfl (by decide) rfl rfl rfl hgE2 (argS_of (upd_same _ _ _) rfl rfl) (Nat.le_refl _) (by omega) rfl rfl (by show n ≤ n4 + 1 ∧ _; omega) ?_
  intro v15 h15 W15 hg15 hx15 hk15 hf15
  obtain ⟨a15, rfl, _⟩ := hg15.shape
  repeat (refine dr_P rfl rfl rfl rfl rfl ?_)
  have hx15' : ∀ b, b < 3 * (n4 + 1) → h15 b = h8 b := fun b hb => (hx15 b hb).trans (hkk2 b (by omega))
  have hp15 : h15 (3 * n4 + 2) = _ := (hx15' _ (by omega)).trans hp8
  refine dr_storeN (cs := [.slice a15 (qs.length + 1) (qs.length + 1)]) rfl rfl rfl rfl rfl rfl rfl rfl hp15 (Nat.le_of_ble_eq_true rfl) (by show 3 * n ≤ 3 * n4 + 2; omega) rfl rfl rfl ?_
  simp only [EC_seq, EC_region, EC_block, EC_scope, EC_skip, EC_exit, EC_ret, EC_label, EO_nil, ED_nil, after_normal, after_exit, after_ret, leave_normal, leave_exit, leave_ret, goesOn_exit, goesOn_ret, cut_exit, cut_ret, cutx_exit, cutx_ret, reduceIte, Nat.reduceEqDiff, reduceCtorEq, Nat.one_ne_zero, Nat.zero_ne_one]
  repeat (first | refine st_ltT rfl rfl rfl rfl rfl rfl (by omega) ?_ | refine st_ltF rfl rfl rfl rfl rfl rfl (by omega) ?_ | refine st_add rfl rfl rfl rfl rfl rfl (by omega) ?_ | refine st_I rfl rfl rfl rfl rfl ?_ | refine st_S rfl rfl rfl rfl rfl ?_ | refine st_P rfl rfl rfl rfl rfl ?_)
  simp only [EC_seq, EC_region, EC_block, EC_scope, EC_skip, EC_exit, EC_ret, EC_label, EO_nil, ED_nil, after_normal, after_exit, after_ret, leave_normal, leave_exit, leave_ret, goesOn_exit, goesOn_ret, cut_exit, cut_ret, cutx_exit, cutx_ret, reduceIte, Nat.reduceEqDiff, reduceCtorEq, Nat.one_ne_zero, Nat.zero_ne_one]
  have hbG : Below n8 (.slice aG qs.length qs.length) := hgE.below
  have neE : ∀ b, 3 * n8 ≤ b → ∀ o l c, Value.slice aG qs.length qs.length ≠ .slice (some ⟨b, o, none⟩) l c := fun b hb o l c e => by
    injection e with e1
    subst e1
    have h1 : b < 3 * n8 := hbG
    omega
  have hnew : ∀ {x : Option BF} {sz : Nat} {v : Value} {c : List Value}, Sl h9 n9' sz v c → Fresh n8 v → Sl (upd h15 (3 * n4 + 2) x) (n9' + 1 + 1) sz v c := fun hs hf => hs.keep (fun a l c e => by
    subst e
    have h2 : 3 * n8 ≤ a.block := hf
    have h1 : a.block < 3 * n9' := hs.below
    exact (upd_ne (by omega)).trans ((hk15 _ (by omega) (neE _ h2)).trans (upd_ne (by omega)))) (by omega)
  have hceb := hEq8.belows
  have hb9 : Below n9' _ := hs9.below
  have hb10 : Below n9' _ := hs10.below
  refine goOn (qs.length + 1, .slice a15 (qs.length + 1) (qs.length + 1), ce8 ++ [.slice a9 q.es.length q.es.length, .slice a10 q.fr.length q.fr.length, .string ⟨⟨q.rhs⟩⟩], qs ++ [q]) (by show K.length - (qs.length + 1) < K.length - qs.length; omega) ⟨rfl, rfl, rfl, rfl, rfl, by show Value.int .i64 _ = Value.int .i64 _; congr 1, trivial⟩ ⟨rfl, by show n4 + 1 ≤ n9' + 1 + 1; omega, ?_, ⟨e8, upd_same _ _ _⟩, by show qs.length + 1 ≤ K.length; omega, ?_, by show (qs ++ [q]).length = _; simp, ?_, ?_, ?_, ?_⟩
  · exact fun b hb hne => (upd_ne hne).trans ((hx15' b hb).trans (hx8 b hb hne))
  · show qs ++ [q] = _
    rw [sel_snoc hkk hq, ← hqs]
  · show Gro _ _ _ _ _ _ (qs ++ [q]).length _
    rw [List.length_append]
    exact hg15.extT (bt := 3 * n4 + 2) (fun b hb hne => upd_ne hne) (by omega) (Nat.le_refl _)
  · refine EqR.snoc (q := q) (hEq8.mapS fun v hv sz c hs => hs.keep (fun a l c' e => ?_) (by show n8 ≤ n9' + 1 + 1; omega)) (hnew hs9 hf9) (hnew hs10 hf10)
    have h1 := hceb v hv a l c' e
    have h2 := hPt v hv a l c' e
    refine (upd_ne (by omega)).trans ((hk15 _ (by omega) fun o l2 c2 ee => ?_).trans (hkk2 _ h1))
    exact hPt2 v hv _ _ _ _ ee a l c' e rfl
  · intro v hv
    rcases List.mem_append.1 hv with hv | hv
    · exact hPt v hv
    · simp only [List.mem_cons, List.not_mem_nil, or_false] at hv
      rcases hv with rfl | rfl | rfl
      · exact fun a l c e => by have := Pt.of_fresh hf9 a l c e; omega
      · exact fun a l c e => by have := Pt.of_fresh hf10 a l c e; omega
      · exact fun a l c e => by cases e
  · intro v hv b o l c ee a l' c' e
    simp only at ee
    have hbb : 3 * (n9' + 1) ≤ b := by
      have : 3 * (n9' + 1) ≤ _ := Pt.of_fresh hf15 _ _ _ ee
      exact this
    rcases List.mem_append.1 hv with hv | hv
    · have := hceb v hv a l' c' e; omega
    · simp only [List.mem_cons, List.not_mem_nil, or_false] at hv
      rcases hv with rfl | rfl | rfl
      · have := Pt.of_below hb9 a l' c' e; omega
      · have := Pt.of_below hb10 a l' c' e; omega
      · cases e
end Go.Proofs.YtokfihhdllmbmaaGreatDoor
