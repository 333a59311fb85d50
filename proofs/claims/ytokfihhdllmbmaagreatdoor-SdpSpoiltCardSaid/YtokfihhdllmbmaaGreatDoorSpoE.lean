import Derived.Test.YtokfihhdllmbmaaGreatDoorSpoD
set_option linter.unusedVariables false
set_option linter.unusedSimpArgs false
namespace Go.Proofs.YtokfihhdllmbmaaGreatDoor
open Go Go.GL
theorem ents_at : ∀ {E : List Ent} {j : Nat} {e : Ent}, E[j]? = some e → ((ents E).drop (j * 4)).take 4 = entC e := by
  intro E
  induction E with
  | nil => intro j e h; simp at h
  | cons x E ih =>
    intro j e h
    cases j with
    | zero =>
      simp at h; subst h
      rfl
    | succ j =>
      have := ih (j := j) (e := e) (by simpa using h)
      rw [show (j + 1) * 4 = (entC x).length + j * 4 from by simp [entC]; omega]
      show ((entC x ++ ents E).drop _).take 4 = _
      rw [← List.drop_drop, List.drop_left' rfl]
      exact this
theorem take_at {cs cells : List Value} {off m j k : Nat} (he : (cs.drop off).take m = cells) (hj : j + k ≤ m) : (cs.drop (off + j)).take k = (cells.drop j).take k := by
  rw [← he, List.drop_take, List.take_take, List.drop_drop, Nat.min_eq_left (by omega)]
set_option maxHeartbeats 4000000
theorem validList_ok (k : Nat) {h : HF} (hG : GK.G h) {n : Nat} {aE aB : Option Addr} {lE cE lB cB : Nat} {E : List Ent} {B : List Int} (hn : 20 ≤ n) (hE : Sl h n 4 (.slice aE lE cE) (ents E)) (hB : Sl h n 1 (.slice aB lB cB) (i64s B)) (hok : ∀ e ∈ E, EntOk B e) (hasc : E.Pairwise ltE) (hb : E.length < 1000000 ∧ B.length < 1000000) : VF (cal (k + 2)) 61 [.slice aE lE cE, .slice aB lB cB] h n fun v => v = .bool true := by
  refine CF_flat (fn := Tryz.f61) rfl rfl rfl rfl ?_
  have hlE : lE = E.length := by
    obtain ⟨a', len', cap', e, hl⟩ := hE.len
    injection e with e1 e2 e3
    rw [ents_len] at hl
    omega
  have hlB : lB = B.length := by
    obtain ⟨a', len', cap', e, hl⟩ := hB.len
    injection e with e1 e2 e3
    simp [i64s] at hl
    omega
  subst hlE hlB
  simp only [NV, reduceIte, Nat.reduceEqDiff, reduceCtorEq, Nat.one_ne_zero, Nat.zero_ne_one]
  repeat (first | refine st_ltT rfl rfl rfl rfl rfl rfl (by omega) ?_ | refine st_ltF rfl rfl rfl rfl rfl rfl (by omega) ?_ | refine st_gtF rfl rfl rfl rfl rfl rfl (by omega) ?_ | refine st_geF rfl rfl rfl rfl rfl rfl (by omega) ?_ | refine st_add rfl rfl rfl rfl rfl rfl (by omega) ?_ | refine st_I rfl rfl rfl rfl rfl ?_ | refine st_B rfl rfl rfl rfl rfl ?_ | refine st_S rfl rfl rfl rfl rfl ?_ | refine st_P rfl rfl rfl rfl rfl ?_)
  simp only [NV, reduceIte, Nat.reduceEqDiff, reduceCtorEq, Nat.one_ne_zero, Nat.zero_ne_one]
  repeat (first | refine st_ltT rfl rfl rfl rfl rfl rfl (by omega) ?_ | refine st_ltF rfl rfl rfl rfl rfl rfl (by omega) ?_ | refine st_gtF rfl rfl rfl rfl rfl rfl (by omega) ?_ | refine st_geF rfl rfl rfl rfl rfl rfl (by omega) ?_ | refine st_add rfl rfl rfl rfl rfl rfl (by omega) ?_ | refine st_I rfl rfl rfl rfl rfl ?_ | refine st_B rfl rfl rfl rfl rfl ?_ | refine st_S rfl rfl rfl rfl rfl ?_ | refine st_P rfl rfl rfl rfl rfl ?_)
  simp only [NV, reduceIte, Nat.reduceEqDiff, reduceCtorEq, Nat.one_ne_zero, Nat.zero_ne_one]
  refine EC_for (α := Nat) (fun j => [(0, .slice aE E.length cE), (1, .slice aB B.length cB), (7, .slice aE E.length cE), (8, .int .i64 (E.length : Int)), (9, .int .i64 (j : Int))]) (fun j h' n' w => Ext n h h' ∧ n ≤ n' ∧ w = [] ∧ j ≤ E.length) (fun j => E.length - j) 0 ⟨rfl, rfl, rfl, rfl, rfl, trivial⟩ ⟨Ext.refl _ _, Nat.le_refl _, rfl, Nat.zero_le _⟩ (by show E.length - 0 < LL; unfold LL; omega) ?_
  rintro j t h1 n1 _ ⟨hx1, hn1, rfl, hj⟩
  simp only [NV, reduceIte, Nat.reduceEqDiff, reduceCtorEq, Nat.one_ne_zero, Nat.zero_ne_one]
  by_cases hjE : j = E.length
  · repeat (first | refine st_ltT rfl rfl rfl rfl rfl rfl (by omega) ?_ | refine st_ltF rfl rfl rfl rfl rfl rfl (by omega) ?_ | refine st_gtF rfl rfl rfl rfl rfl rfl (by omega) ?_ | refine st_geF rfl rfl rfl rfl rfl rfl (by omega) ?_ | refine st_add rfl rfl rfl rfl rfl rfl (by omega) ?_ | refine st_I rfl rfl rfl rfl rfl ?_ | refine st_B rfl rfl rfl rfl rfl ?_ | refine st_S rfl rfl rfl rfl rfl ?_ | refine st_P rfl rfl rfl rfl rfl ?_)
    simp only [NV, reduceIte, Nat.reduceEqDiff, reduceCtorEq, Nat.one_ne_zero, Nat.zero_ne_one]
    rw [EC_cond_false rfl]
    simp only [NV, reduceIte, Nat.reduceEqDiff, reduceCtorEq, Nat.one_ne_zero, Nat.zero_ne_one]
    repeat (first | refine st_ltT rfl rfl rfl rfl rfl rfl (by omega) ?_ | refine st_ltF rfl rfl rfl rfl rfl rfl (by omega) ?_ | refine st_gtF rfl rfl rfl rfl rfl rfl (by omega) ?_ | refine st_geF rfl rfl rfl rfl rfl rfl (by omega) ?_ | refine st_add rfl rfl rfl rfl rfl rfl (by omega) ?_ | refine st_I rfl rfl rfl rfl rfl ?_ | refine st_B rfl rfl rfl rfl rfl ?_ | refine st_S rfl rfl rfl rfl rfl ?_ | refine st_P rfl rfl rfl rfl rfl ?_)
    simp only [NV, reduceIte, Nat.reduceEqDiff, reduceCtorEq, Nat.one_ne_zero, Nat.zero_ne_one]
    exact retF _ rfl (resF_tmp rfl) rfl rfl rfl
  obtain ⟨e, he'⟩ : ∃ e, E[j]? = some e := ⟨E[j]'(by omega), List.getElem?_eq_getElem (by omega)⟩
  obtain ⟨hb1, hrc, hcc, y, hy0, hy1, hyn, hyv⟩ := hok e (List.mem_of_getElem? he')
  obtain ⟨bE, oE, xE, csE, rfl, hbE, hxE, hcE, hcapE, hleE, heE⟩ := hE.inv (by omega)
  obtain ⟨bB, oB, xB, csB, rfl, hbB, hxB, hcB, hcapB, hleB, heB⟩ := hB.inv (by omega)
  have hcell : (csE.drop (oE + j * 4)).take 4 = entC e := by rw [take_at heE (by omega), ents_at he']
  have hxE1 : h1 bE = some xE := by rw [hx1 bE hbE]; exact hxE
  have hxB1 : h1 bB = some xB := by rw [hx1 bB hbB]; exact hxB
  repeat (first | refine st_ltT rfl rfl rfl rfl rfl rfl (by omega) ?_ | refine st_ltF rfl rfl rfl rfl rfl rfl (by omega) ?_ | refine st_gtF rfl rfl rfl rfl rfl rfl (by omega) ?_ | refine st_geF rfl rfl rfl rfl rfl rfl (by omega) ?_ | refine st_add rfl rfl rfl rfl rfl rfl (by omega) ?_ | refine st_I rfl rfl rfl rfl rfl ?_ | refine st_B rfl rfl rfl rfl rfl ?_ | refine st_S rfl rfl rfl rfl rfl ?_ | refine st_P rfl rfl rfl rfl rfl ?_)
  simp only [NV, reduceIte, Nat.reduceEqDiff, reduceCtorEq, Nat.one_ne_zero, Nat.zero_ne_one]
  rw [EC_cond_true rfl]
  simp only [NV, reduceIte, Nat.reduceEqDiff, reduceCtorEq, Nat.one_ne_zero, Nat.zero_ne_one]
  repeat (first | refine st_ltT rfl rfl rfl rfl rfl rfl (by omega) ?_ | refine st_ltF rfl rfl rfl rfl rfl rfl (by omega) ?_ | refine st_gtF rfl rfl rfl rfl rfl rfl (by omega) ?_ | refine st_geF rfl rfl rfl rfl rfl rfl (by omega) ?_ | refine st_add rfl rfl rfl rfl rfl rfl (by omega) ?_ | refine st_I rfl rfl rfl rfl rfl ?_ | refine st_B rfl rfl rfl rfl rfl ?_ | refine st_S rfl rfl rfl rfl rfl ?_ | refine st_P rfl rfl rfl rfl rfl ?_)
  refine st_idx rfl rfl rfl rfl rfl rfl rfl rfl (by omega) ?_
  refine st_load (v := .agg (entC e).toArray) rfl rfl rfl rfl rfl (loadn_eq rfl rfl hxE1 hcE (by omega) (by rw [← hcell]; congr 2 <;> omega)) ?_
  refine st_alloc rfl rfl rfl rfl rfl ?_
  repeat (first | refine st_ltT rfl rfl rfl rfl rfl rfl (by omega) ?_ | refine st_ltF rfl rfl rfl rfl rfl rfl (by omega) ?_ | refine st_gtF rfl rfl rfl rfl rfl rfl (by omega) ?_ | refine st_geF rfl rfl rfl rfl rfl rfl (by omega) ?_ | refine st_add rfl rfl rfl rfl rfl rfl (by omega) ?_ | refine st_I rfl rfl rfl rfl rfl ?_ | refine st_B rfl rfl rfl rfl rfl ?_ | refine st_S rfl rfl rfl rfl rfl ?_ | refine st_P rfl rfl rfl rfl rfl ?_)
  refine st_storeW (entC e) rfl rfl rfl rfl rfl rfl rfl rfl (upd_same _ _ _) rfl (by show 3 * n ≤ 3 * n1 + 2; omega) ?_
  rw [upd_upd]
  generalize hh : upd h1 (3 * n1 + 2) _ = h2
  have hp2 : ∃ ty, h2 (3 * n1 + 2) = some (.row (entC e) ty) := ⟨_, by rw [← hh, upd_same]⟩
  obtain ⟨ty2, hp2⟩ := hp2
  have hx2 : Ext n1 h1 h2 := by rw [← hh]; exact Ext.upd (by omega)
  have hxE2 : h2 bE = some xE := by rw [hx2 bE (by omega)]; exact hxE1
  have hxB2 : h2 bB = some xB := by rw [hx2 bB (by omega)]; exact hxB1
  have hG2 : GK.G h2 := G_ext hG (hx1.trans hx2 hn1) hn
  obtain ⟨dd, hdd⟩ : ∃ d, B[e.b.toNat]? = some d := ⟨B[e.b.toNat]'(by omega), List.getElem?_eq_getElem (by omega)⟩
  have hcd := hcc dd hdd
  have hcellB : csB[oB + e.b.toNat]? = some (.int .i64 dd) := cell_at heB (by rw [i64s, List.getElem?_map, hdd]; rfl)
  simp only [NV, reduceIte, Nat.reduceEqDiff, reduceCtorEq, Nat.one_ne_zero, Nat.zero_ne_one]
  rw [EC_quiet rfl]
  repeat (first | refine st_ltT rfl rfl rfl rfl rfl rfl (by omega) ?_ | refine st_ltF rfl rfl rfl rfl rfl rfl (by omega) ?_ | refine st_gtF rfl rfl rfl rfl rfl rfl (by omega) ?_ | refine st_geF rfl rfl rfl rfl rfl rfl (by omega) ?_ | refine st_add rfl rfl rfl rfl rfl rfl (by omega) ?_ | refine st_I rfl rfl rfl rfl rfl ?_ | refine st_B rfl rfl rfl rfl rfl ?_ | refine st_S rfl rfl rfl rfl rfl ?_ | refine st_P rfl rfl rfl rfl rfl ?_)
  refine st_load1 rfl rfl rfl rfl rfl rfl hp2 rfl (v := .int .i64 e.b) rfl ?_
  repeat (first | refine st_ltT rfl rfl rfl rfl rfl rfl (by omega) ?_ | refine st_ltF rfl rfl rfl rfl rfl rfl (by omega) ?_ | refine st_gtF rfl rfl rfl rfl rfl rfl (by omega) ?_ | refine st_geF rfl rfl rfl rfl rfl rfl (by omega) ?_ | refine st_add rfl rfl rfl rfl rfl rfl (by omega) ?_ | refine st_I rfl rfl rfl rfl rfl ?_ | refine st_B rfl rfl rfl rfl rfl ?_ | refine st_S rfl rfl rfl rfl rfl ?_ | refine st_P rfl rfl rfl rfl rfl ?_)
  refine st_load1 rfl rfl rfl rfl rfl rfl hp2 rfl (v := .int .i64 e.b) rfl ?_
  repeat (first | refine st_ltT rfl rfl rfl rfl rfl rfl (by omega) ?_ | refine st_ltF rfl rfl rfl rfl rfl rfl (by omega) ?_ | refine st_gtF rfl rfl rfl rfl rfl rfl (by omega) ?_ | refine st_geF rfl rfl rfl rfl rfl rfl (by omega) ?_ | refine st_add rfl rfl rfl rfl rfl rfl (by omega) ?_ | refine st_I rfl rfl rfl rfl rfl ?_ | refine st_B rfl rfl rfl rfl rfl ?_ | refine st_S rfl rfl rfl rfl rfl ?_ | refine st_P rfl rfl rfl rfl rfl ?_)
  refine st_load1 rfl rfl rfl rfl rfl rfl hp2 rfl (v := .int .i64 e.r) rfl ?_
  repeat (first | refine st_ltT rfl rfl rfl rfl rfl rfl (by omega) ?_ | refine st_ltF rfl rfl rfl rfl rfl rfl (by omega) ?_ | refine st_gtF rfl rfl rfl rfl rfl rfl (by omega) ?_ | refine st_geF rfl rfl rfl rfl rfl rfl (by omega) ?_ | refine st_add rfl rfl rfl rfl rfl rfl (by omega) ?_ | refine st_I rfl rfl rfl rfl rfl ?_ | refine st_B rfl rfl rfl rfl rfl ?_ | refine st_S rfl rfl rfl rfl rfl ?_ | refine st_P rfl rfl rfl rfl rfl ?_)
  refine st_load1 rfl rfl rfl rfl rfl rfl hp2 rfl (v := .int .i64 e.r) rfl ?_
  repeat (first | refine st_ltT rfl rfl rfl rfl rfl rfl (by omega) ?_ | refine st_ltF rfl rfl rfl rfl rfl rfl (by omega) ?_ | refine st_gtF rfl rfl rfl rfl rfl rfl (by omega) ?_ | refine st_geF rfl rfl rfl rfl rfl rfl (by omega) ?_ | refine st_add rfl rfl rfl rfl rfl rfl (by omega) ?_ | refine st_I rfl rfl rfl rfl rfl ?_ | refine st_B rfl rfl rfl rfl rfl ?_ | refine st_S rfl rfl rfl rfl rfl ?_ | refine st_P rfl rfl rfl rfl rfl ?_)
  refine st_load1 rfl rfl rfl rfl rfl rfl hp2 rfl (v := .int .i64 e.c) rfl ?_
  repeat (first | refine st_ltT rfl rfl rfl rfl rfl rfl (by omega) ?_ | refine st_ltF rfl rfl rfl rfl rfl rfl (by omega) ?_ | refine st_gtF rfl rfl rfl rfl rfl rfl (by omega) ?_ | refine st_geF rfl rfl rfl rfl rfl rfl (by omega) ?_ | refine st_add rfl rfl rfl rfl rfl rfl (by omega) ?_ | refine st_I rfl rfl rfl rfl rfl ?_ | refine st_B rfl rfl rfl rfl rfl ?_ | refine st_S rfl rfl rfl rfl rfl ?_ | refine st_P rfl rfl rfl rfl rfl ?_)
  refine st_load1 rfl rfl rfl rfl rfl rfl hp2 rfl (v := .int .i64 e.c) rfl ?_
  repeat (first | refine st_ltT rfl rfl rfl rfl rfl rfl (by omega) ?_ | refine st_ltF rfl rfl rfl rfl rfl rfl (by omega) ?_ | refine st_gtF rfl rfl rfl rfl rfl rfl (by omega) ?_ | refine st_geF rfl rfl rfl rfl rfl rfl (by omega) ?_ | refine st_add rfl rfl rfl rfl rfl rfl (by omega) ?_ | refine st_I rfl rfl rfl rfl rfl ?_ | refine st_B rfl rfl rfl rfl rfl ?_ | refine st_S rfl rfl rfl rfl rfl ?_ | refine st_P rfl rfl rfl rfl rfl ?_)
  refine st_load1 rfl rfl rfl rfl rfl rfl hp2 rfl (v := .int .i64 e.b) rfl ?_
  refine st_idx rfl rfl rfl rfl rfl rfl rfl rfl (by omega) ?_
  refine st_load1 rfl rfl rfl rfl rfl rfl hxB2 hcB (v := .int .i64 dd) (by rw [← hcellB]; congr 1; omega) ?_
  repeat (first | refine st_ltT rfl rfl rfl rfl rfl rfl (by omega) ?_ | refine st_ltF rfl rfl rfl rfl rfl rfl (by omega) ?_ | refine st_gtF rfl rfl rfl rfl rfl rfl (by omega) ?_ | refine st_geF rfl rfl rfl rfl rfl rfl (by omega) ?_ | refine st_add rfl rfl rfl rfl rfl rfl (by omega) ?_ | refine st_I rfl rfl rfl rfl rfl ?_ | refine st_B rfl rfl rfl rfl rfl ?_ | refine st_S rfl rfl rfl rfl rfl ?_ | refine st_P rfl rfl rfl rfl rfl ?_)
  simp only [NV, reduceIte, Nat.reduceEqDiff, reduceCtorEq, Nat.one_ne_zero, Nat.zero_ne_one]
  rw [EC_cond_false rfl]
  simp only [NV, reduceIte, Nat.reduceEqDiff, reduceCtorEq, Nat.one_ne_zero, Nat.zero_ne_one]
  refine EC_draw [0, 1, 3, 7, 7, 23, 63, 127, 7, 511, 1023, 2047, 4095, 8191, 16383, 32767, 65535, 131071, 262143, 524287, 1048575, 2097151, 4194303] rfl ?_
  have hsm : GK.isSmall e.v = true := small_is (K := 2) (by omega) ⟨y, hy0, hy1, hyv⟩
  have hnz : (e.v == [48]) = false := by
    rw [hyv]
    simpa using zero_text (by omega) hyn
  have tail : ∀ (Q : SV → Prop) (t : TF), True := fun _ _ => trivial
  by_cases hj0 : j = 0
  · repeat (first | refine dr_gtT rfl rfl rfl rfl rfl rfl (by omega) ?_ | refine dr_gtF rfl rfl rfl rfl rfl rfl (by omega) ?_ | refine dr_sub rfl rfl rfl rfl rfl rfl (by omega) ?_ | refine dr_I rfl rfl rfl rfl rfl ?_ | refine dr_B rfl rfl rfl rfl rfl ?_ | refine dr_S rfl rfl rfl rfl rfl ?_ | refine dr_P rfl rfl rfl rfl rfl ?_ | refine dr_off rfl rfl rfl ?_)
    refine dr_load rfl rfl rfl rfl rfl rfl (load1_eq rfl hp2 rfl (v := .string ⟨⟨e.v⟩⟩) rfl) rfl rfl ?_
    refine dr_vf _ rfl rfl rfl rfl rfl rfl rfl (rvalid_small k hG2 _ hsm) ?_
    rintro _ rfl
    repeat (first | refine dr_gtT rfl rfl rfl rfl rfl rfl (by omega) ?_ | refine dr_gtF rfl rfl rfl rfl rfl rfl (by omega) ?_ | refine dr_sub rfl rfl rfl rfl rfl rfl (by omega) ?_ | refine dr_I rfl rfl rfl rfl rfl ?_ | refine dr_B rfl rfl rfl rfl rfl ?_ | refine dr_S rfl rfl rfl rfl rfl ?_ | refine dr_P rfl rfl rfl rfl rfl ?_ | refine dr_off rfl rfl rfl ?_)
    refine dr_load rfl rfl rfl rfl rfl rfl (load1_eq rfl hp2 rfl (v := .string ⟨⟨e.v⟩⟩) rfl) (okEffsF_nil (by simp)) rfl ?_
    refine dr_val (v := .bool false) rfl rfl rfl rfl (by show some (Value.bool (e.v == [48])) = _; rw [hnz]) ?_
    repeat (first | refine dr_gtT rfl rfl rfl rfl rfl rfl (by omega) ?_ | refine dr_gtF rfl rfl rfl rfl rfl rfl (by omega) ?_ | refine dr_sub rfl rfl rfl rfl rfl rfl (by omega) ?_ | refine dr_I rfl rfl rfl rfl rfl ?_ | refine dr_B rfl rfl rfl rfl rfl ?_ | refine dr_S rfl rfl rfl rfl rfl ?_ | refine dr_P rfl rfl rfl rfl rfl ?_ | refine dr_off rfl rfl rfl ?_)
    simp only [NV, reduceIte, Nat.reduceEqDiff, reduceCtorEq, Nat.one_ne_zero, Nat.zero_ne_one]
    rw [EC_cond_false rfl]
    simp only [NV, reduceIte, Nat.reduceEqDiff, reduceCtorEq, Nat.one_ne_zero, Nat.zero_ne_one]
    repeat (first | refine st_ltT rfl rfl rfl rfl rfl rfl (by omega) ?_ | refine st_ltF rfl rfl rfl rfl rfl rfl (by omega) ?_ | refine st_gtF rfl rfl rfl rfl rfl rfl (by omega) ?_ | refine st_geF rfl rfl rfl rfl rfl rfl (by omega) ?_ | refine st_add rfl rfl rfl rfl rfl rfl (by omega) ?_ | refine st_I rfl rfl rfl rfl rfl ?_ | refine st_B rfl rfl rfl rfl rfl ?_ | refine st_S rfl rfl rfl rfl rfl ?_ | refine st_P rfl rfl rfl rfl rfl ?_)
    simp only [NV, reduceIte, Nat.reduceEqDiff, reduceCtorEq, Nat.one_ne_zero, Nat.zero_ne_one]
    exact goOn (j + 1) (by show E.length - (j + 1) < E.length - j; omega) ⟨rfl, rfl, rfl, rfl, by show Value.int .i64 _ = Value.int .i64 _; congr 1, trivial⟩ ⟨hx1.trans hx2 hn1, by show n ≤ n1 + 1; omega, rfl, by show j + 1 ≤ E.length; omega⟩
  · obtain ⟨f, hf'⟩ : ∃ f, E[j - 1]? = some f := ⟨E[j - 1]'(by omega), List.getElem?_eq_getElem (by omega)⟩
    have hlt : ltE f e := by
      obtain ⟨p1, q1⟩ := List.getElem?_eq_some_iff.1 hf'
      obtain ⟨p2, q2⟩ := List.getElem?_eq_some_iff.1 he'
      have := List.pairwise_iff_getElem.1 hasc (j - 1) j p1 p2 (by omega)
      rw [q1, q2] at this
      exact this
    have hcellf : (csE.drop (oE + (j - 1) * 4)).take 4 = entC f := by rw [take_at heE (by omega), ents_at hf']
    repeat (first | refine dr_gtT rfl rfl rfl rfl rfl rfl (by omega) ?_ | refine dr_gtF rfl rfl rfl rfl rfl rfl (by omega) ?_ | refine dr_sub rfl rfl rfl rfl rfl rfl (by omega) ?_ | refine dr_I rfl rfl rfl rfl rfl ?_ | refine dr_B rfl rfl rfl rfl rfl ?_ | refine dr_S rfl rfl rfl rfl rfl ?_ | refine dr_P rfl rfl rfl rfl rfl ?_ | refine dr_off rfl rfl rfl ?_)
    refine dr_idx rfl rfl rfl rfl rfl rfl rfl rfl (by omega) ?_
    refine dr_load (v := .agg (entC f).toArray) rfl rfl rfl rfl rfl rfl (loadn_eq rfl rfl hxE2 hcE (by omega) (by rw [← hcellf]; congr 2 <;> omega)) rfl rfl ?_
    refine dr_load (v := .agg (entC e).toArray) rfl rfl rfl rfl rfl rfl (loadn_eq rfl rfl hp2 rfl (Nat.le_of_ble_eq_true rfl) rfl) rfl rfl ?_
    refine dr_vf _ rfl rfl rfl rfl rfl rfl rfl (ascending_ok k h2 (n1 + 1) f e) ?_
    rintro _ ⟨b, rfl, hbb⟩
    have : b = true := hbb.2 hlt
    subst this
    repeat (first | refine dr_gtT rfl rfl rfl rfl rfl rfl (by omega) ?_ | refine dr_gtF rfl rfl rfl rfl rfl rfl (by omega) ?_ | refine dr_sub rfl rfl rfl rfl rfl rfl (by omega) ?_ | refine dr_I rfl rfl rfl rfl rfl ?_ | refine dr_B rfl rfl rfl rfl rfl ?_ | refine dr_S rfl rfl rfl rfl rfl ?_ | refine dr_P rfl rfl rfl rfl rfl ?_ | refine dr_off rfl rfl rfl ?_)
    refine dr_load rfl rfl rfl rfl rfl rfl (load1_eq rfl hp2 rfl (v := .string ⟨⟨e.v⟩⟩) rfl) (okEffsF_nil (by simp)) rfl ?_
    refine dr_vf _ rfl rfl rfl rfl rfl rfl rfl (rvalid_small k hG2 _ hsm) ?_
    rintro _ rfl
    repeat (first | refine dr_gtT rfl rfl rfl rfl rfl rfl (by omega) ?_ | refine dr_gtF rfl rfl rfl rfl rfl rfl (by omega) ?_ | refine dr_sub rfl rfl rfl rfl rfl rfl (by omega) ?_ | refine dr_I rfl rfl rfl rfl rfl ?_ | refine dr_B rfl rfl rfl rfl rfl ?_ | refine dr_S rfl rfl rfl rfl rfl ?_ | refine dr_P rfl rfl rfl rfl rfl ?_ | refine dr_off rfl rfl rfl ?_)
    refine dr_load rfl rfl rfl rfl rfl rfl (load1_eq rfl hp2 rfl (v := .string ⟨⟨e.v⟩⟩) rfl) (okEffsF_nil (by simp)) rfl ?_
    refine dr_val (v := .bool false) rfl rfl rfl rfl (by show some (Value.bool (e.v == [48])) = _; rw [hnz]) ?_
    repeat (first | refine dr_gtT rfl rfl rfl rfl rfl rfl (by omega) ?_ | refine dr_gtF rfl rfl rfl rfl rfl rfl (by omega) ?_ | refine dr_sub rfl rfl rfl rfl rfl rfl (by omega) ?_ | refine dr_I rfl rfl rfl rfl rfl ?_ | refine dr_B rfl rfl rfl rfl rfl ?_ | refine dr_S rfl rfl rfl rfl rfl ?_ | refine dr_P rfl rfl rfl rfl rfl ?_ | refine dr_off rfl rfl rfl ?_)
    simp only [NV, reduceIte, Nat.reduceEqDiff, reduceCtorEq, Nat.one_ne_zero, Nat.zero_ne_one]
    rw [EC_cond_false rfl]
    simp only [NV, reduceIte, Nat.reduceEqDiff, reduceCtorEq, Nat.one_ne_zero, Nat.zero_ne_one]
    repeat (first | refine st_ltT rfl rfl rfl rfl rfl rfl (by omega) ?_ | refine st_ltF rfl rfl rfl rfl rfl rfl (by omega) ?_ | refine st_gtF rfl rfl rfl rfl rfl rfl (by omega) ?_ | refine st_geF rfl rfl rfl rfl rfl rfl (by omega) ?_ | refine st_add rfl rfl rfl rfl rfl rfl (by omega) ?_ | refine st_I rfl rfl rfl rfl rfl ?_ | refine st_B rfl rfl rfl rfl rfl ?_ | refine st_S rfl rfl rfl rfl rfl ?_ | refine st_P rfl rfl rfl rfl rfl ?_)
    simp only [NV, reduceIte, Nat.reduceEqDiff, reduceCtorEq, Nat.one_ne_zero, Nat.zero_ne_one]
    exact goOn (j + 1) (by show E.length - (j + 1) < E.length - j; omega) ⟨rfl, rfl, rfl, rfl, by show Value.int .i64 _ = Value.int .i64 _; congr 1, trivial⟩ ⟨hx1.trans hx2 hn1, by show n ≤ n1 + 1; omega, rfl, by show j + 1 ≤ E.length; omega⟩
end Go.Proofs.YtokfihhdllmbmaaGreatDoor
namespace Go.Proofs.YtokfihhdllmbmaaGreatDoor
open Go Go.GL
theorem EqR.get {h : HF} {n : Nat} {ce : List Value} {qs : List Eqn} (e : EqR h n ce qs) : ∀ {j : Nat} {q : Eqn}, qs[j]? = some q → ∃ ve vf, (ce.drop (j * 3)).take 3 = [ve, vf, .string ⟨⟨q.rhs⟩⟩] ∧ Sl h n 4 ve (ents q.es) ∧ Sl h n 1 vf (strs q.fr) := by
  induction e with
  | nil => intro j q hq; simp at hq
  | cons h1 h2 h3 ih =>
    intro j q hq
    cases j with
    | zero => simp at hq; subst hq; exact ⟨_, _, rfl, h1, h2⟩
    | succ j =>
      obtain ⟨ve, vf, g1, g2, g3⟩ := ih (j := j) (q := q) (by simpa using hq)
      refine ⟨ve, vf, ?_, g2, g3⟩
      rw [← g1, show (j + 1) * 3 = 3 + j * 3 from by omega, ← List.drop_drop]
      rfl
theorem Sl.lenEq {h : HF} {n sz m : Nat} {a : Option Addr} {len cap : Nat} {c : List Value} (s : Sl h n sz (.slice a len cap) c) (hsz : 0 < sz) (hc : c.length = m * sz) : len = m := by
  obtain ⟨a', len', cap', e, hl⟩ := s.len
  injection e with e1 e2 e3
  subst e2
  exact Nat.eq_of_mul_eq_mul_right hsz (hl.symm.trans hc)
set_option maxHeartbeats 4000000
theorem valid_ok (k : Nat) {h : HF} (hG : GK.G h) {n : Nat} {vB vO vF vE : Value} {p : Sdp} {F least : Nat} (hF : F ≤ 100) (hn : 20 ≤ n) (hp : SdpR h n vB vO vF vE p) (hok : SdpOk F least p) : VF (cal (k + 3)) 15 [.agg #[vB, .int .i64 (p.free : Int), vO, vF, vE]] h n fun v => v = .bool true := by
  refine CF_flat (fn := Tryz.f15) rfl rfl rfl rfl ?_
  obtain ⟨hB, hO, hFr, ce, hE, hEq⟩ := hp
  obtain ⟨aB, lB, cB, rfl, _⟩ := hB.len
  obtain ⟨aO, lO, cO, rfl, _⟩ := hO.len
  obtain ⟨aF, lF, cF, rfl, _⟩ := hFr.len
  obtain ⟨aE, lE, cE, rfl, _⟩ := hE.len
  have hlB := hB.lenEq (m := p.blocks.length) (by omega) (by simp [i64s])
  have hlO := hO.lenEq (m := p.obj.length) (by omega) (ents_len _)
  have hlF := hFr.lenEq (m := p.objFree.length) (by omega) (by simp [strs])
  have hlE := hE.lenEq (m := p.eqs.length) (by omega) hEq.len
  subst hlB hlO hlF hlE
  have hbl := hok.bl
  have hfr := hok.free
  have hofl := hok.ofl
  have heql := hok.eql
  simp only [NV, reduceIte, Nat.reduceEqDiff, reduceCtorEq, Nat.one_ne_zero, Nat.zero_ne_one]
  refine st_mkp (cs := [.slice aB p.blocks.length cB, .int .i64 (p.free : Int), .slice aO p.obj.length cO, .slice aF p.objFree.length cF, .slice aE p.eqs.length cE]) rfl rfl rfl rfl rfl ?_
  generalize hh : upd h (3 * n + 2) _ = h1
  have hx1 : Ext n h h1 := by rw [← hh]; exact Ext.upd (by omega)
  have hr1 : ∃ ty, h1 (3 * n + 2) = some (.row [.slice aB p.blocks.length cB, .int .i64 (p.free : Int), .slice aO p.obj.length cO, .slice aF p.objFree.length cF, .slice aE p.eqs.length cE] ty) := ⟨_, by rw [← hh, upd_same]⟩
  obtain ⟨ty1, hr1⟩ := hr1
  have hG1 : GK.G h1 := G_ext hG hx1 hn
  repeat (first | refine st_ltT rfl rfl rfl rfl rfl rfl (by omega) ?_ | refine st_ltF rfl rfl rfl rfl rfl rfl (by omega) ?_ | refine st_gtF rfl rfl rfl rfl rfl rfl (by omega) ?_ | refine st_neqF rfl rfl rfl rfl rfl rfl (by omega) ?_ | refine st_add rfl rfl rfl rfl rfl rfl (by omega) ?_ | refine st_I rfl rfl rfl rfl rfl ?_ | refine st_B rfl rfl rfl rfl rfl ?_ | refine st_P rfl rfl rfl rfl rfl ?_)
  simp only [NV, reduceIte, Nat.reduceEqDiff, reduceCtorEq, Nat.one_ne_zero, Nat.zero_ne_one]
  repeat (first | refine st_ltT rfl rfl rfl rfl rfl rfl (by omega) ?_ | refine st_ltF rfl rfl rfl rfl rfl rfl (by omega) ?_ | refine st_gtF rfl rfl rfl rfl rfl rfl (by omega) ?_ | refine st_neqF rfl rfl rfl rfl rfl rfl (by omega) ?_ | refine st_add rfl rfl rfl rfl rfl rfl (by omega) ?_ | refine st_I rfl rfl rfl rfl rfl ?_ | refine st_B rfl rfl rfl rfl rfl ?_ | refine st_P rfl rfl rfl rfl rfl ?_)
  refine st_load1 rfl rfl rfl rfl rfl rfl hr1 rfl (v := .slice aB p.blocks.length cB) rfl ?_
  repeat (first | refine st_ltT rfl rfl rfl rfl rfl rfl (by omega) ?_ | refine st_ltF rfl rfl rfl rfl rfl rfl (by omega) ?_ | refine st_gtF rfl rfl rfl rfl rfl rfl (by omega) ?_ | refine st_neqF rfl rfl rfl rfl rfl rfl (by omega) ?_ | refine st_add rfl rfl rfl rfl rfl rfl (by omega) ?_ | refine st_I rfl rfl rfl rfl rfl ?_ | refine st_B rfl rfl rfl rfl rfl ?_ | refine st_P rfl rfl rfl rfl rfl ?_)
  refine st_load1 rfl rfl rfl rfl rfl rfl hr1 rfl (v := .slice aB p.blocks.length cB) rfl ?_
  repeat (first | refine st_ltT rfl rfl rfl rfl rfl rfl (by omega) ?_ | refine st_ltF rfl rfl rfl rfl rfl rfl (by omega) ?_ | refine st_gtF rfl rfl rfl rfl rfl rfl (by omega) ?_ | refine st_neqF rfl rfl rfl rfl rfl rfl (by omega) ?_ | refine st_add rfl rfl rfl rfl rfl rfl (by omega) ?_ | refine st_I rfl rfl rfl rfl rfl ?_ | refine st_B rfl rfl rfl rfl rfl ?_ | refine st_P rfl rfl rfl rfl rfl ?_)
  refine st_load1 rfl rfl rfl rfl rfl rfl hr1 rfl (v := .int .i64 (p.free : Int)) rfl ?_
  repeat (first | refine st_ltT rfl rfl rfl rfl rfl rfl (by omega) ?_ | refine st_ltF rfl rfl rfl rfl rfl rfl (by omega) ?_ | refine st_gtF rfl rfl rfl rfl rfl rfl (by omega) ?_ | refine st_neqF rfl rfl rfl rfl rfl rfl (by omega) ?_ | refine st_add rfl rfl rfl rfl rfl rfl (by omega) ?_ | refine st_I rfl rfl rfl rfl rfl ?_ | refine st_B rfl rfl rfl rfl rfl ?_ | refine st_P rfl rfl rfl rfl rfl ?_)
  refine st_load1 rfl rfl rfl rfl rfl rfl hr1 rfl (v := .int .i64 (p.free : Int)) rfl ?_
  repeat (first | refine st_ltT rfl rfl rfl rfl rfl rfl (by omega) ?_ | refine st_ltF rfl rfl rfl rfl rfl rfl (by omega) ?_ | refine st_gtF rfl rfl rfl rfl rfl rfl (by omega) ?_ | refine st_neqF rfl rfl rfl rfl rfl rfl (by omega) ?_ | refine st_add rfl rfl rfl rfl rfl rfl (by omega) ?_ | refine st_I rfl rfl rfl rfl rfl ?_ | refine st_B rfl rfl rfl rfl rfl ?_ | refine st_P rfl rfl rfl rfl rfl ?_)
  refine st_load1 rfl rfl rfl rfl rfl rfl hr1 rfl (v := .slice aE p.eqs.length cE) rfl ?_
  repeat (first | refine st_ltT rfl rfl rfl rfl rfl rfl (by omega) ?_ | refine st_ltF rfl rfl rfl rfl rfl rfl (by omega) ?_ | refine st_gtF rfl rfl rfl rfl rfl rfl (by omega) ?_ | refine st_neqF rfl rfl rfl rfl rfl rfl (by omega) ?_ | refine st_add rfl rfl rfl rfl rfl rfl (by omega) ?_ | refine st_I rfl rfl rfl rfl rfl ?_ | refine st_B rfl rfl rfl rfl rfl ?_ | refine st_P rfl rfl rfl rfl rfl ?_)
  simp only [NV, reduceIte, Nat.reduceEqDiff, reduceCtorEq, Nat.one_ne_zero, Nat.zero_ne_one]
  rw [EC_cond_false rfl]
  simp only [NV, reduceIte, Nat.reduceEqDiff, reduceCtorEq, Nat.one_ne_zero, Nat.zero_ne_one]
  repeat (first | refine st_ltT rfl rfl rfl rfl rfl rfl (by omega) ?_ | refine st_ltF rfl rfl rfl rfl rfl rfl (by omega) ?_ | refine st_gtF rfl rfl rfl rfl rfl rfl (by omega) ?_ | refine st_neqF rfl rfl rfl rfl rfl rfl (by omega) ?_ | refine st_add rfl rfl rfl rfl rfl rfl (by omega) ?_ | refine st_I rfl rfl rfl rfl rfl ?_ | refine st_B rfl rfl rfl rfl rfl ?_ | refine st_P rfl rfl rfl rfl rfl ?_)
  refine st_load1 rfl rfl rfl rfl rfl rfl hr1 rfl (v := .slice aB p.blocks.length cB) rfl ?_
  repeat (first | refine st_ltT rfl rfl rfl rfl rfl rfl (by omega) ?_ | refine st_ltF rfl rfl rfl rfl rfl rfl (by omega) ?_ | refine st_gtF rfl rfl rfl rfl rfl rfl (by omega) ?_ | refine st_neqF rfl rfl rfl rfl rfl rfl (by omega) ?_ | refine st_add rfl rfl rfl rfl rfl rfl (by omega) ?_ | refine st_I rfl rfl rfl rfl rfl ?_ | refine st_B rfl rfl rfl rfl rfl ?_ | refine st_P rfl rfl rfl rfl rfl ?_)
  simp only [NV, reduceIte, Nat.reduceEqDiff, reduceCtorEq, Nat.one_ne_zero, Nat.zero_ne_one]
  refine EC_for (α := Nat) (fun j => [(1, .pointer (some ⟨3 * n + 2, 0, none⟩)), (34, .slice aB p.blocks.length cB), (35, .int .i64 (p.blocks.length : Int)), (36, .int .i64 (j : Int))]) (fun j h' n' w => h1 = h' ∧ n' = n + 1 ∧ w = [] ∧ j ≤ p.blocks.length) (fun j => p.blocks.length - j) 0 ⟨rfl, rfl, rfl, rfl, trivial⟩ ⟨rfl, rfl, rfl, Nat.zero_le _⟩ (by show p.blocks.length - 0 < LL; unfold LL; omega) ?_
  rintro j t _ _ _ ⟨rfl, rfl, rfl, hj⟩
  simp only [NV, reduceIte, Nat.reduceEqDiff, reduceCtorEq, Nat.one_ne_zero, Nat.zero_ne_one]
  by_cases hjB : j ≠ p.blocks.length
  · obtain ⟨d, hd⟩ : ∃ d, p.blocks[j]? = some d := ⟨p.blocks[j]'(by omega), List.getElem?_eq_getElem (by omega)⟩
    have hd3 := hok.b3 d (List.mem_of_getElem? hd)
    obtain ⟨bB, oB, xB, csB, rfl, hbB, hxB, hcB, hcapB, hleB, heB⟩ := hB.inv (by omega)
    have hcell : csB[oB + j]? = some (.int .i64 d) := cell_at heB (by rw [i64s, List.getElem?_map, hd]; rfl)
    have hxB1 : h1 bB = some xB := by rw [hx1 bB hbB]; exact hxB
    repeat (first | refine st_ltT rfl rfl rfl rfl rfl rfl (by omega) ?_ | refine st_ltF rfl rfl rfl rfl rfl rfl (by omega) ?_ | refine st_gtF rfl rfl rfl rfl rfl rfl (by omega) ?_ | refine st_neqF rfl rfl rfl rfl rfl rfl (by omega) ?_ | refine st_add rfl rfl rfl rfl rfl rfl (by omega) ?_ | refine st_I rfl rfl rfl rfl rfl ?_ | refine st_B rfl rfl rfl rfl rfl ?_ | refine st_P rfl rfl rfl rfl rfl ?_)
    simp only [NV, reduceIte, Nat.reduceEqDiff, reduceCtorEq, Nat.one_ne_zero, Nat.zero_ne_one]
    rw [EC_cond_true rfl]
    simp only [NV, reduceIte, Nat.reduceEqDiff, reduceCtorEq, Nat.one_ne_zero, Nat.zero_ne_one]
    refine st_idx rfl rfl rfl rfl rfl rfl rfl rfl (by omega) ?_
    refine st_load1 rfl rfl rfl rfl rfl rfl hxB1 hcB (v := .int .i64 d) (by rw [← hcell]; congr 1; omega) ?_
    repeat (first | refine st_ltT rfl rfl rfl rfl rfl rfl (by omega) ?_ | refine st_ltF rfl rfl rfl rfl rfl rfl (by omega) ?_ | refine st_gtF rfl rfl rfl rfl rfl rfl (by omega) ?_ | refine st_neqF rfl rfl rfl rfl rfl rfl (by omega) ?_ | refine st_add rfl rfl rfl rfl rfl rfl (by omega) ?_ | refine st_I rfl rfl rfl rfl rfl ?_ | refine st_B rfl rfl rfl rfl rfl ?_ | refine st_P rfl rfl rfl rfl rfl ?_)
    simp only [NV, reduceIte, Nat.reduceEqDiff, reduceCtorEq, Nat.one_ne_zero, Nat.zero_ne_one]
    repeat (first | refine st_ltT rfl rfl rfl rfl rfl rfl (by omega) ?_ | refine st_ltF rfl rfl rfl rfl rfl rfl (by omega) ?_ | refine st_gtF rfl rfl rfl rfl rfl rfl (by omega) ?_ | refine st_neqF rfl rfl rfl rfl rfl rfl (by omega) ?_ | refine st_add rfl rfl rfl rfl rfl rfl (by omega) ?_ | refine st_I rfl rfl rfl rfl rfl ?_ | refine st_B rfl rfl rfl rfl rfl ?_ | refine st_P rfl rfl rfl rfl rfl ?_)
    simp only [NV, reduceIte, Nat.reduceEqDiff, reduceCtorEq, Nat.one_ne_zero, Nat.zero_ne_one]
    rw [EC_cond_false rfl]
    simp only [NV, reduceIte, Nat.reduceEqDiff, reduceCtorEq, Nat.one_ne_zero, Nat.zero_ne_one]
    repeat (first | refine st_ltT rfl rfl rfl rfl rfl rfl (by omega) ?_ | refine st_ltF rfl rfl rfl rfl rfl rfl (by omega) ?_ | refine st_gtF rfl rfl rfl rfl rfl rfl (by omega) ?_ | refine st_neqF rfl rfl rfl rfl rfl rfl (by omega) ?_ | refine st_add rfl rfl rfl rfl rfl rfl (by omega) ?_ | refine st_I rfl rfl rfl rfl rfl ?_ | refine st_B rfl rfl rfl rfl rfl ?_ | refine st_P rfl rfl rfl rfl rfl ?_)
    simp only [NV, reduceIte, Nat.reduceEqDiff, reduceCtorEq, Nat.one_ne_zero, Nat.zero_ne_one]
    exact goOn (j + 1) (by show p.blocks.length - (j + 1) < p.blocks.length - j; omega) ⟨rfl, rfl, rfl, by show Value.int .i64 _ = Value.int .i64 _; congr 1, trivial⟩ ⟨rfl, rfl, rfl, by show j + 1 ≤ p.blocks.length; omega⟩
  have hjB : j = p.blocks.length := Classical.not_not.1 hjB
  have hsmall : ∀ {s : List UInt8}, SmallS 2 s → GK.isSmall s = true := fun hs => small_is (by omega) hs
  have hB1 := hB.ext hx1 (Nat.le_succ n)
  have hO1 := hO.ext hx1 (Nat.le_succ n)
  have hF1 := hFr.ext hx1 (Nat.le_succ n)
  have hE1 := hE.ext hx1 (Nat.le_succ n)
  have hEq1 := hEq.ext hx1 (Nat.le_succ n)
  repeat (first | refine st_ltT rfl rfl rfl rfl rfl rfl (by omega) ?_ | refine st_ltF rfl rfl rfl rfl rfl rfl (by omega) ?_ | refine st_gtF rfl rfl rfl rfl rfl rfl (by omega) ?_ | refine st_neqF rfl rfl rfl rfl rfl rfl (by omega) ?_ | refine st_add rfl rfl rfl rfl rfl rfl (by omega) ?_ | refine st_I rfl rfl rfl rfl rfl ?_ | refine st_B rfl rfl rfl rfl rfl ?_ | refine st_P rfl rfl rfl rfl rfl ?_)
  simp only [NV, reduceIte, Nat.reduceEqDiff, reduceCtorEq, Nat.one_ne_zero, Nat.zero_ne_one]
  rw [EC_cond_false rfl]
  simp only [NV, reduceIte, Nat.reduceEqDiff, reduceCtorEq, Nat.one_ne_zero, Nat.zero_ne_one]
  repeat (first | refine st_ltT rfl rfl rfl rfl rfl rfl (by omega) ?_ | refine st_ltF rfl rfl rfl rfl rfl rfl (by omega) ?_ | refine st_gtF rfl rfl rfl rfl rfl rfl (by omega) ?_ | refine st_neqF rfl rfl rfl rfl rfl rfl (by omega) ?_ | refine st_add rfl rfl rfl rfl rfl rfl (by omega) ?_ | refine st_I rfl rfl rfl rfl rfl ?_ | refine st_B rfl rfl rfl rfl rfl ?_ | refine st_P rfl rfl rfl rfl rfl ?_)
  refine st_load1 rfl rfl rfl rfl rfl rfl hr1 rfl (v := .slice aF p.objFree.length cF) rfl ?_
  repeat (first | refine st_ltT rfl rfl rfl rfl rfl rfl (by omega) ?_ | refine st_ltF rfl rfl rfl rfl rfl rfl (by omega) ?_ | refine st_gtF rfl rfl rfl rfl rfl rfl (by omega) ?_ | refine st_neqF rfl rfl rfl rfl rfl rfl (by omega) ?_ | refine st_add rfl rfl rfl rfl rfl rfl (by omega) ?_ | refine st_I rfl rfl rfl rfl rfl ?_ | refine st_B rfl rfl rfl rfl rfl ?_ | refine st_P rfl rfl rfl rfl rfl ?_)
  refine st_load1 rfl rfl rfl rfl rfl rfl hr1 rfl (v := .int .i64 (p.free : Int)) rfl ?_
  repeat (first | refine st_ltT rfl rfl rfl rfl rfl rfl (by omega) ?_ | refine st_ltF rfl rfl rfl rfl rfl rfl (by omega) ?_ | refine st_gtF rfl rfl rfl rfl rfl rfl (by omega) ?_ | refine st_neqF rfl rfl rfl rfl rfl rfl (by omega) ?_ | refine st_add rfl rfl rfl rfl rfl rfl (by omega) ?_ | refine st_I rfl rfl rfl rfl rfl ?_ | refine st_B rfl rfl rfl rfl rfl ?_ | refine st_P rfl rfl rfl rfl rfl ?_)
  refine st_load1 rfl rfl rfl rfl rfl rfl hr1 rfl (v := .slice aO p.obj.length cO) rfl ?_
  repeat (first | refine st_ltT rfl rfl rfl rfl rfl rfl (by omega) ?_ | refine st_ltF rfl rfl rfl rfl rfl rfl (by omega) ?_ | refine st_gtF rfl rfl rfl rfl rfl rfl (by omega) ?_ | refine st_neqF rfl rfl rfl rfl rfl rfl (by omega) ?_ | refine st_add rfl rfl rfl rfl rfl rfl (by omega) ?_ | refine st_I rfl rfl rfl rfl rfl ?_ | refine st_B rfl rfl rfl rfl rfl ?_ | refine st_P rfl rfl rfl rfl rfl ?_)
  refine st_load1 rfl rfl rfl rfl rfl rfl hr1 rfl (v := .slice aB p.blocks.length cB) rfl ?_
  refine st_vf _ rfl rfl rfl rfl rfl (validList_ok k hG1 (by omega) hO1 hB1 hok.obj.ok hok.obj.asc (by have := hok.objl; omega)) ?_
  rintro _ rfl
  repeat (first | refine st_ltT rfl rfl rfl rfl rfl rfl (by omega) ?_ | refine st_ltF rfl rfl rfl rfl rfl rfl (by omega) ?_ | refine st_gtF rfl rfl rfl rfl rfl rfl (by omega) ?_ | refine st_neqF rfl rfl rfl rfl rfl rfl (by omega) ?_ | refine st_add rfl rfl rfl rfl rfl rfl (by omega) ?_ | refine st_I rfl rfl rfl rfl rfl ?_ | refine st_B rfl rfl rfl rfl rfl ?_ | refine st_P rfl rfl rfl rfl rfl ?_)
  refine st_load1 rfl rfl rfl rfl rfl rfl hr1 rfl (v := .slice aF p.objFree.length cF) rfl ?_
  refine st_vf _ rfl rfl rfl rfl rfl (numbers_ok k hG1 (by omega) hF1 (fun s hs => hsmall (hok.ofs s hs)) (by omega)) ?_
  rintro _ rfl
  repeat (first | refine st_ltT rfl rfl rfl rfl rfl rfl (by omega) ?_ | refine st_ltF rfl rfl rfl rfl rfl rfl (by omega) ?_ | refine st_gtF rfl rfl rfl rfl rfl rfl (by omega) ?_ | refine st_neqF rfl rfl rfl rfl rfl rfl (by omega) ?_ | refine st_add rfl rfl rfl rfl rfl rfl (by omega) ?_ | refine st_I rfl rfl rfl rfl rfl ?_ | refine st_B rfl rfl rfl rfl rfl ?_ | refine st_P rfl rfl rfl rfl rfl ?_)
  simp only [NV, reduceIte, Nat.reduceEqDiff, reduceCtorEq, Nat.one_ne_zero, Nat.zero_ne_one]
  rw [EC_cond_false rfl]
  simp only [NV, reduceIte, Nat.reduceEqDiff, reduceCtorEq, Nat.one_ne_zero, Nat.zero_ne_one]
  repeat (first | refine st_ltT rfl rfl rfl rfl rfl rfl (by omega) ?_ | refine st_ltF rfl rfl rfl rfl rfl rfl (by omega) ?_ | refine st_gtF rfl rfl rfl rfl rfl rfl (by omega) ?_ | refine st_neqF rfl rfl rfl rfl rfl rfl (by omega) ?_ | refine st_add rfl rfl rfl rfl rfl rfl (by omega) ?_ | refine st_I rfl rfl rfl rfl rfl ?_ | refine st_B rfl rfl rfl rfl rfl ?_ | refine st_P rfl rfl rfl rfl rfl ?_)
  refine st_load1 rfl rfl rfl rfl rfl rfl hr1 rfl (v := .slice aE p.eqs.length cE) rfl ?_
  repeat (first | refine st_ltT rfl rfl rfl rfl rfl rfl (by omega) ?_ | refine st_ltF rfl rfl rfl rfl rfl rfl (by omega) ?_ | refine st_gtF rfl rfl rfl rfl rfl rfl (by omega) ?_ | refine st_neqF rfl rfl rfl rfl rfl rfl (by omega) ?_ | refine st_add rfl rfl rfl rfl rfl rfl (by omega) ?_ | refine st_I rfl rfl rfl rfl rfl ?_ | refine st_B rfl rfl rfl rfl rfl ?_ | refine st_P rfl rfl rfl rfl rfl ?_)
  simp only [NV, reduceIte, Nat.reduceEqDiff, reduceCtorEq, Nat.one_ne_zero, Nat.zero_ne_one]
  refine EC_for (α := Nat) (fun j => [(1, .pointer (some ⟨3 * n + 2, 0, none⟩)), (68, .slice aE p.eqs.length cE), (69, .int .i64 (p.eqs.length : Int)), (70, .int .i64 (j : Int))]) (fun j h' n' w => Ext (n + 1) h1 h' ∧ n + 1 ≤ n' ∧ w = [] ∧ j ≤ p.eqs.length) (fun j => p.eqs.length - j) 0 ⟨rfl, rfl, rfl, rfl, trivial⟩ ⟨Ext.refl _ _, Nat.le_refl _, rfl, Nat.zero_le _⟩ (by show p.eqs.length - 0 < LL; unfold LL; omega) ?_
  rintro i t h2 n2 _ ⟨hx2, hn2, rfl, hi⟩
  simp only [NV, reduceIte, Nat.reduceEqDiff, reduceCtorEq, Nat.one_ne_zero, Nat.zero_ne_one]
  by_cases hiE : i = p.eqs.length
  · repeat (first | refine st_ltT rfl rfl rfl rfl rfl rfl (by omega) ?_ | refine st_ltF rfl rfl rfl rfl rfl rfl (by omega) ?_ | refine st_gtF rfl rfl rfl rfl rfl rfl (by omega) ?_ | refine st_neqF rfl rfl rfl rfl rfl rfl (by omega) ?_ | refine st_add rfl rfl rfl rfl rfl rfl (by omega) ?_ | refine st_I rfl rfl rfl rfl rfl ?_ | refine st_B rfl rfl rfl rfl rfl ?_ | refine st_P rfl rfl rfl rfl rfl ?_)
    simp only [NV, reduceIte, Nat.reduceEqDiff, reduceCtorEq, Nat.one_ne_zero, Nat.zero_ne_one]
    rw [EC_cond_false rfl]
    simp only [NV, reduceIte, Nat.reduceEqDiff, reduceCtorEq, Nat.one_ne_zero, Nat.zero_ne_one]
    repeat (first | refine st_ltT rfl rfl rfl rfl rfl rfl (by omega) ?_ | refine st_ltF rfl rfl rfl rfl rfl rfl (by omega) ?_ | refine st_gtF rfl rfl rfl rfl rfl rfl (by omega) ?_ | refine st_neqF rfl rfl rfl rfl rfl rfl (by omega) ?_ | refine st_add rfl rfl rfl rfl rfl rfl (by omega) ?_ | refine st_I rfl rfl rfl rfl rfl ?_ | refine st_B rfl rfl rfl rfl rfl ?_ | refine st_P rfl rfl rfl rfl rfl ?_)
    simp only [NV, reduceIte, Nat.reduceEqDiff, reduceCtorEq, Nat.one_ne_zero, Nat.zero_ne_one]
    exact retF _ rfl (resF_tmp rfl) rfl rfl rfl
  obtain ⟨q, hq⟩ : ∃ q, p.eqs[i]? = some q := ⟨p.eqs[i]'(by omega), List.getElem?_eq_getElem (by omega)⟩
  obtain ⟨q1, q2, q3, q4, q5⟩ := hok.eqo q (List.mem_of_getElem? hq)
  obtain ⟨ve, vf, hce, hve, hvf⟩ := hEq1.get hq
  obtain ⟨ae, le, cce, rfl, _⟩ := hve.len
  obtain ⟨af, lf, ccf, rfl, _⟩ := hvf.len
  have hle := hve.lenEq (m := q.es.length) (by omega) (ents_len _)
  have hlf := hvf.lenEq (m := q.fr.length) (by omega) (by simp [strs])
  subst hle hlf
  obtain ⟨bE, oE, xE, csE, rfl, hbE, hxE, hcE, hcapE, hleE, heE⟩ := hE1.inv (by omega)
  have hcell : (csE.drop (oE + i * 3)).take 3 = [.slice ae q.es.length cce, .slice af q.fr.length ccf, .string ⟨⟨q.rhs⟩⟩] := by rw [take_at heE (by omega), hce]
  have hxE2 : h2 bE = some xE := by rw [hx2 bE hbE]; exact hxE
  repeat (first | refine st_ltT rfl rfl rfl rfl rfl rfl (by omega) ?_ | refine st_ltF rfl rfl rfl rfl rfl rfl (by omega) ?_ | refine st_gtF rfl rfl rfl rfl rfl rfl (by omega) ?_ | refine st_neqF rfl rfl rfl rfl rfl rfl (by omega) ?_ | refine st_add rfl rfl rfl rfl rfl rfl (by omega) ?_ | refine st_I rfl rfl rfl rfl rfl ?_ | refine st_B rfl rfl rfl rfl rfl ?_ | refine st_P rfl rfl rfl rfl rfl ?_)
  simp only [NV, reduceIte, Nat.reduceEqDiff, reduceCtorEq, Nat.one_ne_zero, Nat.zero_ne_one]
  rw [EC_cond_true rfl]
  simp only [NV, reduceIte, Nat.reduceEqDiff, reduceCtorEq, Nat.one_ne_zero, Nat.zero_ne_one]
  refine st_idx rfl rfl rfl rfl rfl rfl rfl rfl (by omega) ?_
  refine st_load (v := .agg #[.slice ae q.es.length cce, .slice af q.fr.length ccf, .string ⟨⟨q.rhs⟩⟩]) rfl rfl rfl rfl rfl (loadn_eq rfl rfl hxE2 hcE (by omega) (by rw [← hcell]; congr 2 <;> omega)) ?_
  refine st_alloc rfl rfl rfl rfl rfl ?_
  refine st_storeW [.slice ae q.es.length cce, .slice af q.fr.length ccf, .string ⟨⟨q.rhs⟩⟩] rfl rfl rfl rfl rfl rfl rfl rfl (upd_same _ _ _) rfl (by show 3 * n ≤ 3 * n2 + 2; omega) ?_
  rw [upd_upd]
  generalize hh : upd h2 (3 * n2 + 2) _ = h3
  have hp3 : ∃ ty, h3 (3 * n2 + 2) = some (.row [.slice ae q.es.length cce, .slice af q.fr.length ccf, .string ⟨⟨q.rhs⟩⟩] ty) := ⟨_, by rw [← hh, upd_same]⟩
  obtain ⟨ty3, hp3⟩ := hp3
  have hx3 : Ext n2 h2 h3 := by rw [← hh]; exact Ext.upd (by omega)
  have hx13 : Ext (n + 1) h1 h3 := hx2.trans hx3 hn2
  have hr3 : h3 (3 * n + 2) = some (.row [.slice aB p.blocks.length cB, .int .i64 (p.free : Int), .slice aO p.obj.length cO, .slice aF p.objFree.length cF, .slice (some ⟨bE, oE, none⟩) p.eqs.length cE] ty1) := by rw [hx13 _ (by omega)]; exact hr1
  have hG3 : GK.G h3 := G_ext hG1 hx13 (by omega)
  simp only [NV, reduceIte, Nat.reduceEqDiff, reduceCtorEq, Nat.one_ne_zero, Nat.zero_ne_one]
  repeat (first | refine st_ltT rfl rfl rfl rfl rfl rfl (by omega) ?_ | refine st_ltF rfl rfl rfl rfl rfl rfl (by omega) ?_ | refine st_gtF rfl rfl rfl rfl rfl rfl (by omega) ?_ | refine st_neqF rfl rfl rfl rfl rfl rfl (by omega) ?_ | refine st_add rfl rfl rfl rfl rfl rfl (by omega) ?_ | refine st_I rfl rfl rfl rfl rfl ?_ | refine st_B rfl rfl rfl rfl rfl ?_ | refine st_P rfl rfl rfl rfl rfl ?_)
  refine st_load1 rfl rfl rfl rfl rfl rfl hp3 rfl (v := .slice af q.fr.length ccf) rfl ?_
  repeat (first | refine st_ltT rfl rfl rfl rfl rfl rfl (by omega) ?_ | refine st_ltF rfl rfl rfl rfl rfl rfl (by omega) ?_ | refine st_gtF rfl rfl rfl rfl rfl rfl (by omega) ?_ | refine st_neqF rfl rfl rfl rfl rfl rfl (by omega) ?_ | refine st_add rfl rfl rfl rfl rfl rfl (by omega) ?_ | refine st_I rfl rfl rfl rfl rfl ?_ | refine st_B rfl rfl rfl rfl rfl ?_ | refine st_P rfl rfl rfl rfl rfl ?_)
  refine st_load1 rfl rfl rfl rfl rfl rfl hr3 rfl (v := .int .i64 (p.free : Int)) rfl ?_
  repeat (first | refine st_ltT rfl rfl rfl rfl rfl rfl (by omega) ?_ | refine st_ltF rfl rfl rfl rfl rfl rfl (by omega) ?_ | refine st_gtF rfl rfl rfl rfl rfl rfl (by omega) ?_ | refine st_neqF rfl rfl rfl rfl rfl rfl (by omega) ?_ | refine st_add rfl rfl rfl rfl rfl rfl (by omega) ?_ | refine st_I rfl rfl rfl rfl rfl ?_ | refine st_B rfl rfl rfl rfl rfl ?_ | refine st_P rfl rfl rfl rfl rfl ?_)
  refine st_load1 rfl rfl rfl rfl rfl rfl hp3 rfl (v := .slice ae q.es.length cce) rfl ?_
  repeat (first | refine st_ltT rfl rfl rfl rfl rfl rfl (by omega) ?_ | refine st_ltF rfl rfl rfl rfl rfl rfl (by omega) ?_ | refine st_gtF rfl rfl rfl rfl rfl rfl (by omega) ?_ | refine st_neqF rfl rfl rfl rfl rfl rfl (by omega) ?_ | refine st_add rfl rfl rfl rfl rfl rfl (by omega) ?_ | refine st_I rfl rfl rfl rfl rfl ?_ | refine st_B rfl rfl rfl rfl rfl ?_ | refine st_P rfl rfl rfl rfl rfl ?_)
  refine st_load1 rfl rfl rfl rfl rfl rfl hr3 rfl (v := .slice aB p.blocks.length cB) rfl ?_
  refine st_vf _ rfl rfl rfl rfl rfl (validList_ok k hG3 (by omega) (hve.ext hx13 (by omega)) (hB1.ext hx13 (by omega)) q1.ok q1.asc (by omega)) ?_
  rintro _ rfl
  repeat (first | refine st_ltT rfl rfl rfl rfl rfl rfl (by omega) ?_ | refine st_ltF rfl rfl rfl rfl rfl rfl (by omega) ?_ | refine st_gtF rfl rfl rfl rfl rfl rfl (by omega) ?_ | refine st_neqF rfl rfl rfl rfl rfl rfl (by omega) ?_ | refine st_add rfl rfl rfl rfl rfl rfl (by omega) ?_ | refine st_I rfl rfl rfl rfl rfl ?_ | refine st_B rfl rfl rfl rfl rfl ?_ | refine st_P rfl rfl rfl rfl rfl ?_)
  refine st_load1 rfl rfl rfl rfl rfl rfl hp3 rfl (v := .slice af q.fr.length ccf) rfl ?_
  refine st_vf _ rfl rfl rfl rfl rfl (numbers_ok k hG3 (by omega) (hvf.ext hx13 (by omega)) (fun s hs => hsmall (q4 s hs)) (by omega)) ?_
  rintro _ rfl
  repeat (first | refine st_ltT rfl rfl rfl rfl rfl rfl (by omega) ?_ | refine st_ltF rfl rfl rfl rfl rfl rfl (by omega) ?_ | refine st_gtF rfl rfl rfl rfl rfl rfl (by omega) ?_ | refine st_neqF rfl rfl rfl rfl rfl rfl (by omega) ?_ | refine st_add rfl rfl rfl rfl rfl rfl (by omega) ?_ | refine st_I rfl rfl rfl rfl rfl ?_ | refine st_B rfl rfl rfl rfl rfl ?_ | refine st_P rfl rfl rfl rfl rfl ?_)
  refine st_load1 rfl rfl rfl rfl rfl rfl hp3 rfl (v := .string ⟨⟨q.rhs⟩⟩) rfl ?_
  refine st_vf _ rfl rfl rfl rfl rfl (rvalid_small (k + 1) hG3 _ (small_is (by omega) q5)) ?_
  rintro _ rfl
  repeat (first | refine st_ltT rfl rfl rfl rfl rfl rfl (by omega) ?_ | refine st_ltF rfl rfl rfl rfl rfl rfl (by omega) ?_ | refine st_gtF rfl rfl rfl rfl rfl rfl (by omega) ?_ | refine st_neqF rfl rfl rfl rfl rfl rfl (by omega) ?_ | refine st_add rfl rfl rfl rfl rfl rfl (by omega) ?_ | refine st_I rfl rfl rfl rfl rfl ?_ | refine st_B rfl rfl rfl rfl rfl ?_ | refine st_P rfl rfl rfl rfl rfl ?_)
  simp only [NV, reduceIte, Nat.reduceEqDiff, reduceCtorEq, Nat.one_ne_zero, Nat.zero_ne_one]
  rw [EC_cond_false rfl]
  simp only [NV, reduceIte, Nat.reduceEqDiff, reduceCtorEq, Nat.one_ne_zero, Nat.zero_ne_one]
  repeat (first | refine st_ltT rfl rfl rfl rfl rfl rfl (by omega) ?_ | refine st_ltF rfl rfl rfl rfl rfl rfl (by omega) ?_ | refine st_gtF rfl rfl rfl rfl rfl rfl (by omega) ?_ | refine st_neqF rfl rfl rfl rfl rfl rfl (by omega) ?_ | refine st_add rfl rfl rfl rfl rfl rfl (by omega) ?_ | refine st_I rfl rfl rfl rfl rfl ?_ | refine st_B rfl rfl rfl rfl rfl ?_ | refine st_P rfl rfl rfl rfl rfl ?_)
  simp only [NV, reduceIte, Nat.reduceEqDiff, reduceCtorEq, Nat.one_ne_zero, Nat.zero_ne_one]
  exact goOn (i + 1) (by show p.eqs.length - (i + 1) < p.eqs.length - i; omega) ⟨rfl, rfl, rfl, by show Value.int .i64 _ = Value.int .i64 _; congr 1, trivial⟩ ⟨hx13, by show n + 1 ≤ n2 + 1; omega, rfl, by show i + 1 ≤ p.eqs.length; omega⟩
end Go.Proofs.YtokfihhdllmbmaaGreatDoor
namespace Go.Proofs.YtokfihhdllmbmaaGreatDoor
open Go Go.GL
set_option maxHeartbeats 4000000
theorem listV_ok (k : Nat) {h : HF} {n : Nat} {aE aB : Option Addr} {lE cE lB cB : Nat} {E : List Ent} {B : List Int} (hE : Sl h n 4 (.slice aE lE cE) (ents E)) (hB : Sl h n 1 (.slice aB lB cB) (i64s B)) (hl : ∀ e ∈ E, e.v.length < 1000000) (hb : E.length < 1000000 ∧ B.length < 1000000) : VF (cal (k + 7)) 64 [.slice aB lB cB, .slice aE lE cE] h n fun v => ∃ b : Bool, v = .bool b ∧ (b = true ↔ ListV B E) := by
  refine CF_flat (fn := Tryz.f64) rfl rfl rfl rfl ?_
  have hlE : lE = E.length := by
    obtain ⟨a', len', cap', e, hl⟩ := hE.len
    injection e with e1 e2 e3
    rw [ents_len] at hl
    omega
  have hlB : lB = B.length := by
    obtain ⟨a', len', cap', e, hl⟩ := hB.len
    injection e with e1 e2 e3
    simp [i64s] at hl
    omega
  subst hlE hlB
  simp only [NV, reduceIte, Nat.reduceEqDiff, reduceCtorEq, Nat.one_ne_zero, Nat.zero_ne_one]
  repeat (first | refine st_ltT rfl rfl rfl rfl rfl rfl (by omega) ?_ | refine st_ltF rfl rfl rfl rfl rfl rfl (by omega) ?_ | refine st_eqF rfl rfl rfl rfl rfl rfl (by omega) ?_ | refine st_eq rfl rfl rfl rfl rfl rfl ?_ | refine st_add rfl rfl rfl rfl rfl rfl (by omega) ?_ | refine st_I rfl rfl rfl rfl rfl ?_ | refine st_B rfl rfl rfl rfl rfl ?_ | refine st_S rfl rfl rfl rfl rfl ?_ | refine st_P rfl rfl rfl rfl rfl ?_ | refine st_A rfl rfl rfl rfl rfl ?_ | refine st_U rfl rfl rfl rfl rfl ?_ | refine st_off rfl rfl rfl ?_)
  simp only [NV, reduceIte, Nat.reduceEqDiff, reduceCtorEq, Nat.one_ne_zero, Nat.zero_ne_one]
  repeat (first | refine st_ltT rfl rfl rfl rfl rfl rfl (by omega) ?_ | refine st_ltF rfl rfl rfl rfl rfl rfl (by omega) ?_ | refine st_eqF rfl rfl rfl rfl rfl rfl (by omega) ?_ | refine st_eq rfl rfl rfl rfl rfl rfl ?_ | refine st_add rfl rfl rfl rfl rfl rfl (by omega) ?_ | refine st_I rfl rfl rfl rfl rfl ?_ | refine st_B rfl rfl rfl rfl rfl ?_ | refine st_S rfl rfl rfl rfl rfl ?_ | refine st_P rfl rfl rfl rfl rfl ?_ | refine st_A rfl rfl rfl rfl rfl ?_ | refine st_U rfl rfl rfl rfl rfl ?_ | refine st_off rfl rfl rfl ?_)
  simp only [NV, reduceIte, Nat.reduceEqDiff, reduceCtorEq, Nat.one_ne_zero, Nat.zero_ne_one]
  refine EC_for (α := Nat) (fun j => [(0, .slice aB B.length cB), (1, .slice aE E.length cE), (9, .slice aE E.length cE), (10, .int .i64 (E.length : Int)), (11, .int .i64 (j : Int))]) (fun j h' n' w => Ext n h h' ∧ n ≤ n' ∧ w = [] ∧ j ≤ E.length ∧ ∀ i e, i < j → E[i]? = some e → EntV B E i e) (fun j => E.length - j) 0 ⟨rfl, rfl, rfl, rfl, rfl, trivial⟩ ⟨Ext.refl _ _, Nat.le_refl _, rfl, Nat.zero_le _, fun i e hi => absurd hi (Nat.not_lt_zero i)⟩ (by show E.length - 0 < LL; unfold LL; omega) ?_
  rintro j t h1 n1 _ ⟨hx1, hn1, rfl, hj, hall⟩
  simp only [NV, reduceIte, Nat.reduceEqDiff, reduceCtorEq, Nat.one_ne_zero, Nat.zero_ne_one]
  by_cases hjE : j = E.length
  · repeat (first | refine st_ltT rfl rfl rfl rfl rfl rfl (by omega) ?_ | refine st_ltF rfl rfl rfl rfl rfl rfl (by omega) ?_ | refine st_eqF rfl rfl rfl rfl rfl rfl (by omega) ?_ | refine st_eq rfl rfl rfl rfl rfl rfl ?_ | refine st_add rfl rfl rfl rfl rfl rfl (by omega) ?_ | refine st_I rfl rfl rfl rfl rfl ?_ | refine st_B rfl rfl rfl rfl rfl ?_ | refine st_S rfl rfl rfl rfl rfl ?_ | refine st_P rfl rfl rfl rfl rfl ?_ | refine st_A rfl rfl rfl rfl rfl ?_ | refine st_U rfl rfl rfl rfl rfl ?_ | refine st_off rfl rfl rfl ?_)
    simp only [NV, reduceIte, Nat.reduceEqDiff, reduceCtorEq, Nat.one_ne_zero, Nat.zero_ne_one]
    rw [EC_cond_false rfl]
    simp only [NV, reduceIte, Nat.reduceEqDiff, reduceCtorEq, Nat.one_ne_zero, Nat.zero_ne_one]
    repeat (first | refine st_ltT rfl rfl rfl rfl rfl rfl (by omega) ?_ | refine st_ltF rfl rfl rfl rfl rfl rfl (by omega) ?_ | refine st_eqF rfl rfl rfl rfl rfl rfl (by omega) ?_ | refine st_eq rfl rfl rfl rfl rfl rfl ?_ | refine st_add rfl rfl rfl rfl rfl rfl (by omega) ?_ | refine st_I rfl rfl rfl rfl rfl ?_ | refine st_B rfl rfl rfl rfl rfl ?_ | refine st_S rfl rfl rfl rfl rfl ?_ | refine st_P rfl rfl rfl rfl rfl ?_ | refine st_A rfl rfl rfl rfl rfl ?_ | refine st_U rfl rfl rfl rfl rfl ?_ | refine st_off rfl rfl rfl ?_)
    simp only [NV, reduceIte, Nat.reduceEqDiff, reduceCtorEq, Nat.one_ne_zero, Nat.zero_ne_one]
    exact retF _ rfl (resF_tmp rfl) rfl rfl ⟨true, rfl, fun _ i e hi => hall i e (by have := (List.getElem?_eq_some_iff.1 hi).1; omega) hi, fun _ => rfl⟩
  obtain ⟨e, he'⟩ : ∃ e, E[j]? = some e := ⟨E[j]'(by omega), List.getElem?_eq_getElem (by omega)⟩
  have hmem : e ∈ E := List.mem_of_getElem? he'
  obtain ⟨bE, oE, xE, csE, rfl, hbE, hxE, hcE, hcapE, hleE, heE⟩ := hE.inv (by omega)
  have hcell : (csE.drop (oE + j * 4)).take 4 = entC e := by rw [take_at heE (by omega), ents_at he']
  have hxE1 : h1 bE = some xE := by rw [hx1 bE hbE]; exact hxE
  repeat (first | refine st_ltT rfl rfl rfl rfl rfl rfl (by omega) ?_ | refine st_ltF rfl rfl rfl rfl rfl rfl (by omega) ?_ | refine st_eqF rfl rfl rfl rfl rfl rfl (by omega) ?_ | refine st_eq rfl rfl rfl rfl rfl rfl ?_ | refine st_add rfl rfl rfl rfl rfl rfl (by omega) ?_ | refine st_I rfl rfl rfl rfl rfl ?_ | refine st_B rfl rfl rfl rfl rfl ?_ | refine st_S rfl rfl rfl rfl rfl ?_ | refine st_P rfl rfl rfl rfl rfl ?_ | refine st_A rfl rfl rfl rfl rfl ?_ | refine st_U rfl rfl rfl rfl rfl ?_ | refine st_off rfl rfl rfl ?_)
  simp only [NV, reduceIte, Nat.reduceEqDiff, reduceCtorEq, Nat.one_ne_zero, Nat.zero_ne_one]
  rw [EC_cond_true rfl]
  simp only [NV, reduceIte, Nat.reduceEqDiff, reduceCtorEq, Nat.one_ne_zero, Nat.zero_ne_one]
  repeat (first | refine st_ltT rfl rfl rfl rfl rfl rfl (by omega) ?_ | refine st_ltF rfl rfl rfl rfl rfl rfl (by omega) ?_ | refine st_eqF rfl rfl rfl rfl rfl rfl (by omega) ?_ | refine st_eq rfl rfl rfl rfl rfl rfl ?_ | refine st_add rfl rfl rfl rfl rfl rfl (by omega) ?_ | refine st_I rfl rfl rfl rfl rfl ?_ | refine st_B rfl rfl rfl rfl rfl ?_ | refine st_S rfl rfl rfl rfl rfl ?_ | refine st_P rfl rfl rfl rfl rfl ?_ | refine st_A rfl rfl rfl rfl rfl ?_ | refine st_U rfl rfl rfl rfl rfl ?_ | refine st_off rfl rfl rfl ?_)
  refine st_idx rfl rfl rfl rfl rfl rfl rfl rfl (by omega) ?_
  refine st_load (v := .agg (entC e).toArray) rfl rfl rfl rfl rfl (loadn_eq rfl rfl hxE1 hcE (by omega) (by rw [← hcell]; congr 2 <;> omega)) ?_
  refine st_alloc rfl rfl rfl rfl rfl ?_
  repeat (first | refine st_ltT rfl rfl rfl rfl rfl rfl (by omega) ?_ | refine st_ltF rfl rfl rfl rfl rfl rfl (by omega) ?_ | refine st_eqF rfl rfl rfl rfl rfl rfl (by omega) ?_ | refine st_eq rfl rfl rfl rfl rfl rfl ?_ | refine st_add rfl rfl rfl rfl rfl rfl (by omega) ?_ | refine st_I rfl rfl rfl rfl rfl ?_ | refine st_B rfl rfl rfl rfl rfl ?_ | refine st_S rfl rfl rfl rfl rfl ?_ | refine st_P rfl rfl rfl rfl rfl ?_ | refine st_A rfl rfl rfl rfl rfl ?_ | refine st_U rfl rfl rfl rfl rfl ?_ | refine st_off rfl rfl rfl ?_)
  refine st_storeW (entC e) rfl rfl rfl rfl rfl rfl rfl rfl (upd_same _ _ _) rfl (by show 3 * n ≤ 3 * n1 + 2; omega) ?_
  rw [upd_upd]
  generalize hh : upd h1 (3 * n1 + 2) _ = h2
  have hp2 : ∃ ty, h2 (3 * n1 + 2) = some (.row (entC e) ty) := ⟨_, by rw [← hh, upd_same]⟩
  obtain ⟨ty2, hp2⟩ := hp2
  have hx2 : Ext n1 h1 h2 := by rw [← hh]; exact Ext.upd (by omega)
  clear hh
  have hxE2 : h2 bE = some xE := by rw [hx2 bE (by omega)]; exact hxE1
  simp only [EC_skip, EO_nil, after_normal, EC_seq]
  refine EC_cutx (α := Bool) (fun z => [(0, .slice aB B.length cB), (1, .slice (some ⟨bE, oE, none⟩) E.length cE), (6, .pointer (some ⟨3 * n1 + 2, 0, none⟩)), (9, .slice (some ⟨bE, oE, none⟩) E.length cE), (10, .int .i64 (E.length : Int)), (11, .int .i64 (j : Int)), (61, .bool z)]) (fun z h' n' w => h2 = h' ∧ n' = n1 + 1 ∧ w = [] ∧ (z = false ↔ Fits B e ∧ ∀ f, 0 < j → E[j - 1]? = some f → ltE f e)) ?_ ?_
  · refine EC_draw [0, 1, 3, 7, 15, 31, 15, 79, 255, 511, 1023, 2047, 4095, 8191, 16383, 32767, 65535, 131071, 65535, 327679, 1048575, 2097151, 4194303, 8388607, 16777215, 8388607, 8388607, 75497471, 243269631, 511705087, 1073741823, 2147483647, 4294967295, 8589934591, 17179869183, 34359738367, 68719476735, 68719476735, 206158430207, 549755813887, 1099511627775, 68719476735, 4398046511103, 8796093022207, 17592186044415, 35184372088831] rfl ?_
    by_cases q1 : e.b < 0
    · repeat (first | refine dr_load rfl rfl rfl rfl rfl rfl (load1_eq rfl hp2 rfl rfl) rfl rfl ?_ | refine dr_ltT rfl rfl rfl rfl rfl rfl (by omega) ?_ | refine dr_ltF rfl rfl rfl rfl rfl rfl (by omega) ?_ | refine dr_gtT rfl rfl rfl rfl rfl rfl (by omega) ?_ | refine dr_gtF rfl rfl rfl rfl rfl rfl (by omega) ?_ | refine dr_geT rfl rfl rfl rfl rfl rfl (by omega) ?_ | refine dr_geF rfl rfl rfl rfl rfl rfl (by omega) ?_ | refine dr_sub rfl rfl rfl rfl rfl rfl (by omega) ?_ | refine dr_I rfl rfl rfl rfl rfl ?_ | refine dr_B rfl rfl rfl rfl rfl ?_ | refine dr_S rfl rfl rfl rfl rfl ?_ | refine dr_P rfl rfl rfl rfl rfl ?_ | refine dr_off rfl rfl rfl ?_)
      simp only [NV, reduceIte, Nat.reduceEqDiff, reduceCtorEq, Nat.one_ne_zero, Nat.zero_ne_one]
      exact cutx_mk true ⟨rfl, rfl, rfl, rfl, rfl, rfl, rfl, trivial⟩ ⟨rfl, rfl, rfl, by simp only [Bool.true_eq_false, false_iff]; rintro ⟨⟨⟨g1, g2⟩, g3, g4⟩, g5⟩; omega⟩
    by_cases q2 : (B.length : Int) ≤ e.b
    · repeat (first | refine dr_load rfl rfl rfl rfl rfl rfl (load1_eq rfl hp2 rfl rfl) rfl rfl ?_ | refine dr_ltT rfl rfl rfl rfl rfl rfl (by omega) ?_ | refine dr_ltF rfl rfl rfl rfl rfl rfl (by omega) ?_ | refine dr_gtT rfl rfl rfl rfl rfl rfl (by omega) ?_ | refine dr_gtF rfl rfl rfl rfl rfl rfl (by omega) ?_ | refine dr_geT rfl rfl rfl rfl rfl rfl (by omega) ?_ | refine dr_geF rfl rfl rfl rfl rfl rfl (by omega) ?_ | refine dr_sub rfl rfl rfl rfl rfl rfl (by omega) ?_ | refine dr_I rfl rfl rfl rfl rfl ?_ | refine dr_B rfl rfl rfl rfl rfl ?_ | refine dr_S rfl rfl rfl rfl rfl ?_ | refine dr_P rfl rfl rfl rfl rfl ?_ | refine dr_off rfl rfl rfl ?_)
      simp only [NV, reduceIte, Nat.reduceEqDiff, reduceCtorEq, Nat.one_ne_zero, Nat.zero_ne_one]
      exact cutx_mk true ⟨rfl, rfl, rfl, rfl, rfl, rfl, rfl, trivial⟩ ⟨rfl, rfl, rfl, by simp only [Bool.true_eq_false, false_iff]; rintro ⟨⟨⟨g1, g2⟩, g3, g4⟩, g5⟩; omega⟩
    by_cases q3 : e.r < 0
    · repeat (first | refine dr_load rfl rfl rfl rfl rfl rfl (load1_eq rfl hp2 rfl rfl) rfl rfl ?_ | refine dr_ltT rfl rfl rfl rfl rfl rfl (by omega) ?_ | refine dr_ltF rfl rfl rfl rfl rfl rfl (by omega) ?_ | refine dr_gtT rfl rfl rfl rfl rfl rfl (by omega) ?_ | refine dr_gtF rfl rfl rfl rfl rfl rfl (by omega) ?_ | refine dr_geT rfl rfl rfl rfl rfl rfl (by omega) ?_ | refine dr_geF rfl rfl rfl rfl rfl rfl (by omega) ?_ | refine dr_sub rfl rfl rfl rfl rfl rfl (by omega) ?_ | refine dr_I rfl rfl rfl rfl rfl ?_ | refine dr_B rfl rfl rfl rfl rfl ?_ | refine dr_S rfl rfl rfl rfl rfl ?_ | refine dr_P rfl rfl rfl rfl rfl ?_ | refine dr_off rfl rfl rfl ?_)
      simp only [NV, reduceIte, Nat.reduceEqDiff, reduceCtorEq, Nat.one_ne_zero, Nat.zero_ne_one]
      exact cutx_mk true ⟨rfl, rfl, rfl, rfl, rfl, rfl, rfl, trivial⟩ ⟨rfl, rfl, rfl, by simp only [Bool.true_eq_false, false_iff]; rintro ⟨⟨⟨g1, g2⟩, g3, g4⟩, g5⟩; omega⟩
    by_cases q4 : e.c < e.r
    · repeat (first | refine dr_load rfl rfl rfl rfl rfl rfl (load1_eq rfl hp2 rfl rfl) rfl rfl ?_ | refine dr_ltT rfl rfl rfl rfl rfl rfl (by omega) ?_ | refine dr_ltF rfl rfl rfl rfl rfl rfl (by omega) ?_ | refine dr_gtT rfl rfl rfl rfl rfl rfl (by omega) ?_ | refine dr_gtF rfl rfl rfl rfl rfl rfl (by omega) ?_ | refine dr_geT rfl rfl rfl rfl rfl rfl (by omega) ?_ | refine dr_geF rfl rfl rfl rfl rfl rfl (by omega) ?_ | refine dr_sub rfl rfl rfl rfl rfl rfl (by omega) ?_ | refine dr_I rfl rfl rfl rfl rfl ?_ | refine dr_B rfl rfl rfl rfl rfl ?_ | refine dr_S rfl rfl rfl rfl rfl ?_ | refine dr_P rfl rfl rfl rfl rfl ?_ | refine dr_off rfl rfl rfl ?_)
      simp only [NV, reduceIte, Nat.reduceEqDiff, reduceCtorEq, Nat.one_ne_zero, Nat.zero_ne_one]
      exact cutx_mk true ⟨rfl, rfl, rfl, rfl, rfl, rfl, rfl, trivial⟩ ⟨rfl, rfl, rfl, by simp only [Bool.true_eq_false, false_iff]; rintro ⟨⟨⟨g1, g2⟩, g3, g4⟩, g5⟩; omega⟩
    obtain ⟨bB, oB, xB, csB, rfl, hbB, hxB, hcB, hcapB, hleB, heB⟩ := hB.inv (by omega)
    have hxB2 : h2 bB = some xB := by rw [hx2 bB (by omega), hx1 bB hbB]; exact hxB
    obtain ⟨dd, hdd⟩ : ∃ d, B[e.b.toNat]? = some d := ⟨B[e.b.toNat]'(by omega), List.getElem?_eq_getElem (by omega)⟩
    have hcellB : csB[oB + e.b.toNat]? = some (.int .i64 dd) := cell_at heB (by rw [i64s, List.getElem?_map, hdd]; rfl)
    repeat (first | refine dr_load rfl rfl rfl rfl rfl rfl (load1_eq rfl hp2 rfl rfl) rfl rfl ?_ | refine dr_ltT rfl rfl rfl rfl rfl rfl (by omega) ?_ | refine dr_ltF rfl rfl rfl rfl rfl rfl (by omega) ?_ | refine dr_gtT rfl rfl rfl rfl rfl rfl (by omega) ?_ | refine dr_gtF rfl rfl rfl rfl rfl rfl (by omega) ?_ | refine dr_geT rfl rfl rfl rfl rfl rfl (by omega) ?_ | refine dr_geF rfl rfl rfl rfl rfl rfl (by omega) ?_ | refine dr_sub rfl rfl rfl rfl rfl rfl (by omega) ?_ | refine dr_I rfl rfl rfl rfl rfl ?_ | refine dr_B rfl rfl rfl rfl rfl ?_ | refine dr_S rfl rfl rfl rfl rfl ?_ | refine dr_P rfl rfl rfl rfl rfl ?_ | refine dr_off rfl rfl rfl ?_)
    refine dr_idx rfl rfl rfl rfl rfl rfl rfl rfl (by omega) ?_
    refine dr_load rfl rfl rfl rfl rfl rfl (load1_eq rfl hxB2 hcB (v := .int .i64 dd) (by rw [← hcellB]; congr 1; omega)) rfl rfl ?_
    by_cases q5 : dd ≤ e.c
    · repeat (first | refine dr_load rfl rfl rfl rfl rfl rfl (load1_eq rfl hp2 rfl rfl) rfl rfl ?_ | refine dr_ltT rfl rfl rfl rfl rfl rfl (by omega) ?_ | refine dr_ltF rfl rfl rfl rfl rfl rfl (by omega) ?_ | refine dr_gtT rfl rfl rfl rfl rfl rfl (by omega) ?_ | refine dr_gtF rfl rfl rfl rfl rfl rfl (by omega) ?_ | refine dr_geT rfl rfl rfl rfl rfl rfl (by omega) ?_ | refine dr_geF rfl rfl rfl rfl rfl rfl (by omega) ?_ | refine dr_sub rfl rfl rfl rfl rfl rfl (by omega) ?_ | refine dr_I rfl rfl rfl rfl rfl ?_ | refine dr_B rfl rfl rfl rfl rfl ?_ | refine dr_S rfl rfl rfl rfl rfl ?_ | refine dr_P rfl rfl rfl rfl rfl ?_ | refine dr_off rfl rfl rfl ?_)
      simp only [NV, reduceIte, Nat.reduceEqDiff, reduceCtorEq, Nat.one_ne_zero, Nat.zero_ne_one]
      exact cutx_mk true ⟨rfl, rfl, rfl, rfl, rfl, rfl, rfl, trivial⟩ ⟨rfl, rfl, rfl, by simp only [Bool.true_eq_false, false_iff]; rintro ⟨⟨⟨g1, g2⟩, g3, g4⟩, g5⟩; have := g4 dd hdd; omega⟩
    have hfits : Fits B e := ⟨by omega, by omega, fun d hd => by rw [hdd] at hd; injection hd with hd; omega⟩
    by_cases hj0 : j = 0
    · repeat (first | refine dr_load rfl rfl rfl rfl rfl rfl (load1_eq rfl hp2 rfl rfl) rfl rfl ?_ | refine dr_ltT rfl rfl rfl rfl rfl rfl (by omega) ?_ | refine dr_ltF rfl rfl rfl rfl rfl rfl (by omega) ?_ | refine dr_gtT rfl rfl rfl rfl rfl rfl (by omega) ?_ | refine dr_gtF rfl rfl rfl rfl rfl rfl (by omega) ?_ | refine dr_geT rfl rfl rfl rfl rfl rfl (by omega) ?_ | refine dr_geF rfl rfl rfl rfl rfl rfl (by omega) ?_ | refine dr_sub rfl rfl rfl rfl rfl rfl (by omega) ?_ | refine dr_I rfl rfl rfl rfl rfl ?_ | refine dr_B rfl rfl rfl rfl rfl ?_ | refine dr_S rfl rfl rfl rfl rfl ?_ | refine dr_P rfl rfl rfl rfl rfl ?_ | refine dr_off rfl rfl rfl ?_)
      simp only [NV, reduceIte, Nat.reduceEqDiff, reduceCtorEq, Nat.one_ne_zero, Nat.zero_ne_one]
      exact cutx_mk false ⟨rfl, rfl, rfl, rfl, rfl, rfl, rfl, trivial⟩ ⟨rfl, rfl, rfl, fun _ => ⟨hfits, fun f h0 => by omega⟩, fun _ => rfl⟩
    obtain ⟨f, hf'⟩ : ∃ f, E[j - 1]? = some f := ⟨E[j - 1]'(by omega), List.getElem?_eq_getElem (by omega)⟩
    have hcellf : (csE.drop (oE + (j - 1) * 4)).take 4 = entC f := by rw [take_at heE (by omega), ents_at hf']
    repeat (first | refine dr_ltT rfl rfl rfl rfl rfl rfl (by omega) ?_ | refine dr_ltF rfl rfl rfl rfl rfl rfl (by omega) ?_ | refine dr_gtT rfl rfl rfl rfl rfl rfl (by omega) ?_ | refine dr_gtF rfl rfl rfl rfl rfl rfl (by omega) ?_ | refine dr_geT rfl rfl rfl rfl rfl rfl (by omega) ?_ | refine dr_geF rfl rfl rfl rfl rfl rfl (by omega) ?_ | refine dr_sub rfl rfl rfl rfl rfl rfl (by omega) ?_ | refine dr_I rfl rfl rfl rfl rfl ?_ | refine dr_B rfl rfl rfl rfl rfl ?_ | refine dr_S rfl rfl rfl rfl rfl ?_ | refine dr_P rfl rfl rfl rfl rfl ?_ | refine dr_off rfl rfl rfl ?_)
    refine dr_idx rfl rfl rfl rfl rfl rfl rfl rfl (by omega) ?_
    refine dr_load (v := .agg (entC f).toArray) rfl rfl rfl rfl rfl rfl (loadn_eq rfl rfl hxE2 hcE (by omega) (by rw [← hcellf]; congr 2 <;> omega)) rfl rfl ?_
    refine dr_load (v := .agg (entC e).toArray) rfl rfl rfl rfl rfl rfl (loadn_eq rfl rfl hp2 rfl (Nat.le_of_ble_eq_true rfl) rfl) rfl rfl ?_
    refine dr_vf _ rfl rfl rfl rfl rfl rfl rfl (less_ok (k + 5) h2 (n1 + 1) f e) ?_
    rintro _ ⟨b, rfl, hbb⟩
    cases b with
    | true =>
      repeat (first | refine dr_ltT rfl rfl rfl rfl rfl rfl (by omega) ?_ | refine dr_ltF rfl rfl rfl rfl rfl rfl (by omega) ?_ | refine dr_gtT rfl rfl rfl rfl rfl rfl (by omega) ?_ | refine dr_gtF rfl rfl rfl rfl rfl rfl (by omega) ?_ | refine dr_geT rfl rfl rfl rfl rfl rfl (by omega) ?_ | refine dr_geF rfl rfl rfl rfl rfl rfl (by omega) ?_ | refine dr_sub rfl rfl rfl rfl rfl rfl (by omega) ?_ | refine dr_I rfl rfl rfl rfl rfl ?_ | refine dr_B rfl rfl rfl rfl rfl ?_ | refine dr_S rfl rfl rfl rfl rfl ?_ | refine dr_P rfl rfl rfl rfl rfl ?_ | refine dr_off rfl rfl rfl ?_)
      simp only [NV, reduceIte, Nat.reduceEqDiff, reduceCtorEq, Nat.one_ne_zero, Nat.zero_ne_one]
      exact cutx_mk false ⟨rfl, rfl, rfl, rfl, rfl, rfl, rfl, trivial⟩ ⟨rfl, rfl, rfl, fun _ => ⟨hfits, fun f' _ hf2 => by rw [hf'] at hf2; injection hf2 with hf2; subst hf2; exact hbb.1 rfl⟩, fun _ => rfl⟩
    | false =>
      repeat (first | refine dr_ltT rfl rfl rfl rfl rfl rfl (by omega) ?_ | refine dr_ltF rfl rfl rfl rfl rfl rfl (by omega) ?_ | refine dr_gtT rfl rfl rfl rfl rfl rfl (by omega) ?_ | refine dr_gtF rfl rfl rfl rfl rfl rfl (by omega) ?_ | refine dr_geT rfl rfl rfl rfl rfl rfl (by omega) ?_ | refine dr_geF rfl rfl rfl rfl rfl rfl (by omega) ?_ | refine dr_sub rfl rfl rfl rfl rfl rfl (by omega) ?_ | refine dr_I rfl rfl rfl rfl rfl ?_ | refine dr_B rfl rfl rfl rfl rfl ?_ | refine dr_S rfl rfl rfl rfl rfl ?_ | refine dr_P rfl rfl rfl rfl rfl ?_ | refine dr_off rfl rfl rfl ?_)
      simp only [NV, reduceIte, Nat.reduceEqDiff, reduceCtorEq, Nat.one_ne_zero, Nat.zero_ne_one]
      exact cutx_mk true ⟨rfl, rfl, rfl, rfl, rfl, rfl, rfl, trivial⟩ ⟨rfl, rfl, rfl, by simp only [Bool.true_eq_false, false_iff]; rintro ⟨_, g5⟩; exact absurd (hbb.2 (g5 f (by omega) hf')) (by simp)⟩
  rintro z t _ _ _ ⟨rfl, rfl, rfl, hz⟩
  cases z with
  | true =>
    rw [EC_cond_true rfl]
    simp only [NV, reduceIte, Nat.reduceEqDiff, reduceCtorEq, Nat.one_ne_zero, Nat.zero_ne_one]
    repeat (first | refine st_ltT rfl rfl rfl rfl rfl rfl (by omega) ?_ | refine st_ltF rfl rfl rfl rfl rfl rfl (by omega) ?_ | refine st_eqF rfl rfl rfl rfl rfl rfl (by omega) ?_ | refine st_eq rfl rfl rfl rfl rfl rfl ?_ | refine st_add rfl rfl rfl rfl rfl rfl (by omega) ?_ | refine st_I rfl rfl rfl rfl rfl ?_ | refine st_B rfl rfl rfl rfl rfl ?_ | refine st_S rfl rfl rfl rfl rfl ?_ | refine st_P rfl rfl rfl rfl rfl ?_ | refine st_A rfl rfl rfl rfl rfl ?_ | refine st_U rfl rfl rfl rfl rfl ?_ | refine st_off rfl rfl rfl ?_)
    simp only [NV, reduceIte, Nat.reduceEqDiff, reduceCtorEq, Nat.one_ne_zero, Nat.zero_ne_one]
    exact retF _ rfl (resF_tmp rfl) rfl rfl ⟨false, rfl, fun h => absurd h (by simp), fun hV => absurd (hz.2 ⟨(hV j e he').1, (hV j e he').2.1⟩) (by simp)⟩
  | false =>
  rw [EC_cond_false rfl]
  simp only [NV, reduceIte, Nat.reduceEqDiff, reduceCtorEq, Nat.one_ne_zero, Nat.zero_ne_one]
  have hgeo := hz.1 rfl
  repeat (first | refine st_ltT rfl rfl rfl rfl rfl rfl (by omega) ?_ | refine st_ltF rfl rfl rfl rfl rfl rfl (by omega) ?_ | refine st_eqF rfl rfl rfl rfl rfl rfl (by omega) ?_ | refine st_eq rfl rfl rfl rfl rfl rfl ?_ | refine st_add rfl rfl rfl rfl rfl rfl (by omega) ?_ | refine st_I rfl rfl rfl rfl rfl ?_ | refine st_B rfl rfl rfl rfl rfl ?_ | refine st_S rfl rfl rfl rfl rfl ?_ | refine st_P rfl rfl rfl rfl rfl ?_ | refine st_A rfl rfl rfl rfl rfl ?_ | refine st_U rfl rfl rfl rfl rfl ?_ | refine st_off rfl rfl rfl ?_)
  refine st_load1 rfl rfl rfl rfl rfl rfl hp2 rfl (v := .string ⟨⟨e.v⟩⟩) rfl ?_
  refine st_call _ rfl rfl rfl rfl rfl (read_ok k _ _ e.v (hl e hmem)) ?_
  rintro _ h3 n3 _ ⟨rfl, hn3, hx3, u1, u2, v1, v2, q, ln, ld, ok, rfl, rq, hl1, hl2, f1, f2, hok1, hok2⟩
  repeat (first | refine st_ltT rfl rfl rfl rfl rfl rfl (by omega) ?_ | refine st_ltF rfl rfl rfl rfl rfl rfl (by omega) ?_ | refine st_eqF rfl rfl rfl rfl rfl rfl (by omega) ?_ | refine st_eq rfl rfl rfl rfl rfl rfl ?_ | refine st_add rfl rfl rfl rfl rfl rfl (by omega) ?_ | refine st_I rfl rfl rfl rfl rfl ?_ | refine st_B rfl rfl rfl rfl rfl ?_ | refine st_S rfl rfl rfl rfl rfl ?_ | refine st_P rfl rfl rfl rfl rfl ?_ | refine st_A rfl rfl rfl rfl rfl ?_ | refine st_U rfl rfl rfl rfl rfl ?_ | refine st_off rfl rfl rfl ?_)
  refine st_alloc rfl rfl rfl rfl rfl ?_
  refine st_storeW [u1, u2, v1, v2] rfl rfl rfl rfl rfl rfl rfl rq.ones (upd_same _ _ _) rfl (by show 3 * n ≤ _; omega) ?_
  rw [upd_upd]
  generalize hh : upd h3 (3 * n3 + 2) _ = h4
  have hx4 : Ext n3 h3 h4 := by rw [← hh]; exact Ext.upd (by omega)
  have hp6 : ∃ e, h4 (3 * n3 + 2) = some (.row [u1, u2, v1, v2] e) := ⟨_, by rw [← hh, upd_same]⟩
  clear hh
  obtain ⟨e6, hp6⟩ := hp6
  have rq4 := rq.ext hx4 (Nat.le_succ _)
  repeat (first | refine st_ltT rfl rfl rfl rfl rfl rfl (by omega) ?_ | refine st_ltF rfl rfl rfl rfl rfl rfl (by omega) ?_ | refine st_eqF rfl rfl rfl rfl rfl rfl (by omega) ?_ | refine st_eq rfl rfl rfl rfl rfl rfl ?_ | refine st_add rfl rfl rfl rfl rfl rfl (by omega) ?_ | refine st_I rfl rfl rfl rfl rfl ?_ | refine st_B rfl rfl rfl rfl rfl ?_ | refine st_S rfl rfl rfl rfl rfl ?_ | refine st_P rfl rfl rfl rfl rfl ?_ | refine st_A rfl rfl rfl rfl rfl ?_ | refine st_U rfl rfl rfl rfl rfl ?_ | refine st_off rfl rfl rfl ?_)
  simp only [NV, reduceIte, Nat.reduceEqDiff, reduceCtorEq, Nat.one_ne_zero, Nat.zero_ne_one]
  cases ok with
  | false =>
    repeat (first | refine st_ltT rfl rfl rfl rfl rfl rfl (by omega) ?_ | refine st_ltF rfl rfl rfl rfl rfl rfl (by omega) ?_ | refine st_eqF rfl rfl rfl rfl rfl rfl (by omega) ?_ | refine st_eq rfl rfl rfl rfl rfl rfl ?_ | refine st_add rfl rfl rfl rfl rfl rfl (by omega) ?_ | refine st_I rfl rfl rfl rfl rfl ?_ | refine st_B rfl rfl rfl rfl rfl ?_ | refine st_S rfl rfl rfl rfl rfl ?_ | refine st_P rfl rfl rfl rfl rfl ?_ | refine st_A rfl rfl rfl rfl rfl ?_ | refine st_U rfl rfl rfl rfl rfl ?_ | refine st_off rfl rfl rfl ?_)
    simp only [NV, reduceIte, Nat.reduceEqDiff, reduceCtorEq, Nat.one_ne_zero, Nat.zero_ne_one]
    rw [EC_cond_true rfl]
    simp only [NV, reduceIte, Nat.reduceEqDiff, reduceCtorEq, Nat.one_ne_zero, Nat.zero_ne_one]
    repeat (first | refine st_ltT rfl rfl rfl rfl rfl rfl (by omega) ?_ | refine st_ltF rfl rfl rfl rfl rfl rfl (by omega) ?_ | refine st_eqF rfl rfl rfl rfl rfl rfl (by omega) ?_ | refine st_eq rfl rfl rfl rfl rfl rfl ?_ | refine st_add rfl rfl rfl rfl rfl rfl (by omega) ?_ | refine st_I rfl rfl rfl rfl rfl ?_ | refine st_B rfl rfl rfl rfl rfl ?_ | refine st_S rfl rfl rfl rfl rfl ?_ | refine st_P rfl rfl rfl rfl rfl ?_ | refine st_A rfl rfl rfl rfl rfl ?_ | refine st_U rfl rfl rfl rfl rfl ?_ | refine st_off rfl rfl rfl ?_)
    simp only [NV, reduceIte, Nat.reduceEqDiff, reduceCtorEq, Nat.one_ne_zero, Nat.zero_ne_one]
    exact retF _ rfl (resF_tmp rfl) rfl rfl ⟨false, rfl, fun h => absurd h (by simp), fun hV => hok2 (hV j e he').2.2.1⟩
  | true =>
  repeat (first | refine st_ltT rfl rfl rfl rfl rfl rfl (by omega) ?_ | refine st_ltF rfl rfl rfl rfl rfl rfl (by omega) ?_ | refine st_eqF rfl rfl rfl rfl rfl rfl (by omega) ?_ | refine st_eq rfl rfl rfl rfl rfl rfl ?_ | refine st_add rfl rfl rfl rfl rfl rfl (by omega) ?_ | refine st_I rfl rfl rfl rfl rfl ?_ | refine st_B rfl rfl rfl rfl rfl ?_ | refine st_S rfl rfl rfl rfl rfl ?_ | refine st_P rfl rfl rfl rfl rfl ?_ | refine st_A rfl rfl rfl rfl rfl ?_ | refine st_U rfl rfl rfl rfl rfl ?_ | refine st_off rfl rfl rfl ?_)
  refine st_load (v := .agg #[u1, u2, v1, v2]) rfl rfl rfl rfl rfl (loadn_eq rfl rfl hp6 rfl (Nat.le_of_ble_eq_true rfl) rfl) ?_
  refine st_vf _ rfl rfl rfl rfl rfl (rsign_ok (k + 4) rq4) ?_
  rintro _ rfl
  have hq := hok1 rfl
  by_cases hq0 : q.num = 0
  · rw [hq0]
    repeat (first | refine st_ltT rfl rfl rfl rfl rfl rfl (by omega) ?_ | refine st_ltF rfl rfl rfl rfl rfl rfl (by omega) ?_ | refine st_eqF rfl rfl rfl rfl rfl rfl (by omega) ?_ | refine st_eq rfl rfl rfl rfl rfl rfl ?_ | refine st_add rfl rfl rfl rfl rfl rfl (by omega) ?_ | refine st_I rfl rfl rfl rfl rfl ?_ | refine st_B rfl rfl rfl rfl rfl ?_ | refine st_S rfl rfl rfl rfl rfl ?_ | refine st_P rfl rfl rfl rfl rfl ?_ | refine st_A rfl rfl rfl rfl rfl ?_ | refine st_U rfl rfl rfl rfl rfl ?_ | refine st_off rfl rfl rfl ?_)
    simp only [NV, reduceIte, Nat.reduceEqDiff, reduceCtorEq, Nat.one_ne_zero, Nat.zero_ne_one]
    rw [EC_cond_true rfl]
    simp only [NV, reduceIte, Nat.reduceEqDiff, reduceCtorEq, Nat.one_ne_zero, Nat.zero_ne_one]
    repeat (first | refine st_ltT rfl rfl rfl rfl rfl rfl (by omega) ?_ | refine st_ltF rfl rfl rfl rfl rfl rfl (by omega) ?_ | refine st_eqF rfl rfl rfl rfl rfl rfl (by omega) ?_ | refine st_eq rfl rfl rfl rfl rfl rfl ?_ | refine st_add rfl rfl rfl rfl rfl rfl (by omega) ?_ | refine st_I rfl rfl rfl rfl rfl ?_ | refine st_B rfl rfl rfl rfl rfl ?_ | refine st_S rfl rfl rfl rfl rfl ?_ | refine st_P rfl rfl rfl rfl rfl ?_ | refine st_A rfl rfl rfl rfl rfl ?_ | refine st_U rfl rfl rfl rfl rfl ?_ | refine st_off rfl rfl rfl ?_)
    simp only [NV, reduceIte, Nat.reduceEqDiff, reduceCtorEq, Nat.one_ne_zero, Nat.zero_ne_one]
    exact retF _ rfl (resF_tmp rfl) rfl rfl ⟨false, rfl, fun h => absurd h (by simp), fun hV => absurd (by rw [← hq]; exact ratT_zero.2 hq0) (hV j e he').2.2.2⟩
  · have hsg : ¬ q.num.sign = 0 := fun e => hq0 (Int.sign_eq_zero_iff_zero.1 e)
    repeat (first | refine st_ltT rfl rfl rfl rfl rfl rfl (by omega) ?_ | refine st_ltF rfl rfl rfl rfl rfl rfl (by omega) ?_ | refine st_eqF rfl rfl rfl rfl rfl rfl (by omega) ?_ | refine st_eq rfl rfl rfl rfl rfl rfl ?_ | refine st_add rfl rfl rfl rfl rfl rfl (by omega) ?_ | refine st_I rfl rfl rfl rfl rfl ?_ | refine st_B rfl rfl rfl rfl rfl ?_ | refine st_S rfl rfl rfl rfl rfl ?_ | refine st_P rfl rfl rfl rfl rfl ?_ | refine st_A rfl rfl rfl rfl rfl ?_ | refine st_U rfl rfl rfl rfl rfl ?_ | refine st_off rfl rfl rfl ?_)
    simp only [NV, reduceIte, Nat.reduceEqDiff, reduceCtorEq, Nat.one_ne_zero, Nat.zero_ne_one]
    rw [EC_cond_false rfl]
    simp only [NV, reduceIte, Nat.reduceEqDiff, reduceCtorEq, Nat.one_ne_zero, Nat.zero_ne_one]
    repeat (first | refine st_ltT rfl rfl rfl rfl rfl rfl (by omega) ?_ | refine st_ltF rfl rfl rfl rfl rfl rfl (by omega) ?_ | refine st_eqF rfl rfl rfl rfl rfl rfl (by omega) ?_ | refine st_eq rfl rfl rfl rfl rfl rfl ?_ | refine st_add rfl rfl rfl rfl rfl rfl (by omega) ?_ | refine st_I rfl rfl rfl rfl rfl ?_ | refine st_B rfl rfl rfl rfl rfl ?_ | refine st_S rfl rfl rfl rfl rfl ?_ | refine st_P rfl rfl rfl rfl rfl ?_ | refine st_A rfl rfl rfl rfl rfl ?_ | refine st_U rfl rfl rfl rfl rfl ?_ | refine st_off rfl rfl rfl ?_)
    simp only [NV, reduceIte, Nat.reduceEqDiff, reduceCtorEq, Nat.one_ne_zero, Nat.zero_ne_one]
    refine goOn (j + 1) (by show E.length - (j + 1) < E.length - j; omega) ⟨rfl, rfl, rfl, rfl, by show Value.int .i64 _ = Value.int .i64 _; congr 1, trivial⟩ ⟨fun b hb => (hx4 b (by omega)).trans ((hx3 b (by omega)).trans ((hx2 b (by omega)).trans (hx1 b hb))), by show n ≤ n3 + 1; omega, rfl, by show j + 1 ≤ E.length; omega, fun i e' hi he2 => ?_⟩
    by_cases hij : i < j
    · exact hall i e' hij he2
    · have : i = j := by omega
      subst this
      rw [he'] at he2
      injection he2 with he2
      subst he2
      exact ⟨hgeo.1, hgeo.2, ⟨q, hq⟩, fun e0 => hq0 (ratT_zero.1 (hq.trans e0))⟩
end Go.Proofs.YtokfihhdllmbmaaGreatDoor
namespace Go.Proofs.YtokfihhdllmbmaaGreatDoor
open Go Go.GL
structure SdpB (p : Sdp) : Prop where
  bl : p.blocks.length < 1000000
  ol : p.obj.length < 1000000
  fl : p.objFree.length < 1000000
  el : p.eqs.length < 1000000
  os : ∀ e ∈ p.obj, e.v.length < 1000000
  fs : ∀ s ∈ p.objFree, s.length < 1000000
  qs : ∀ q ∈ p.eqs, q.es.length < 1000000 ∧ q.fr.length < 999999 ∧ (∀ e ∈ q.es, e.v.length < 1000000) ∧ ∀ s ∈ q.rhs :: q.fr, s.length < 1000000
structure SdpV (p : Sdp) (fr : Int) : Prop where
  bl : 1 ≤ p.blocks.length ∧ p.blocks.length ≤ 64
  free : 0 ≤ fr ∧ fr ≤ 512
  el : p.eqs.length ≤ 512
  b : ∀ d ∈ p.blocks, 1 ≤ d ∧ d ≤ 32
  obj : ListV p.blocks p.obj
  ofl : (p.objFree.length : Int) = fr
  ofs : ∀ s ∈ p.objFree, isNum s
  eqs : ∀ q ∈ p.eqs, ListV p.blocks q.es ∧ (q.fr.length : Int) = fr ∧ ∀ s ∈ q.rhs :: q.fr, isNum s
theorem append_full {E : Env} {h : HF} {n : Nat} {sT e e' : TypeId} {size bytes m b L : Nat} {z x : Value} {old new : List Value} (hu : E.und sT = some (.slice e)) (hi : E.inf e = some (size, bytes, z)) (hz : (vcells z).length = size) (h1 : 1 ≤ size ∧ 1 ≤ bytes) (hx : argS h size x m new) (hb : (L + m) * bytes ≤ 1099511627776) (hg : gro b = false) (hrow : h b = some (.row old e')) (hbn : b < 3 * n) (ho : old.length = L * size) (hl : new.length = m * size) :
    ∃ v' h' n', appendF E h n sT (.slice (some ⟨b, 0, none⟩) L L) x = some (.val v' h' n' []) ∧ n ≤ n' ∧ Ext n h h' ∧ Sl h' n' size v' (old ++ new) ∧ ∃ a, v' = .slice a (L + m) (L + m) := by
  obtain ⟨hl', hc⟩ := hx
  have c1 : Nat.ble ((L + m) * bytes) 1099511627776 = true := Nat.ble_eq_true_of_le hb
  have c2 : Nat.beq (vcells z).length size = true := by rw [hz]; exact Nat.beq_refl _
  have c3 : Nat.ble 1 size = true := Nat.ble_eq_true_of_le h1.1
  have c4 : Nat.ble 1 bytes = true := Nat.ble_eq_true_of_le h1.2
  have hold : (argS h size (.slice (some ⟨b, 0, none⟩) L L) L old) := argS_of hrow rfl ho
  by_cases hm : m = 0
  · subst hm
    have hn0 : new = [] := List.length_eq_zero_iff.1 (by rw [hl]; simp)
    subst hn0
    have c5 : Nat.ble (L + 0) L = true := Nat.ble_eq_true_of_le (Nat.le_refl _)
    refine ⟨.slice (some ⟨b, 0, none⟩) (L + 0) L, h, n, ?_, Nat.le_refl _, Ext.refl _ _, ?_, _, rfl⟩
    · simp only [appendF, hu, hi, hl', hc, c1, c2, c3, c4, c5, Bool.and_self, inPlaceF]
    · rw [List.append_nil]
      exact .at_ hbn hrow rfl (Nat.le_refl _) (by show 0 + L * size ≤ old.length; omega) (by rw [List.drop_zero, List.take_of_length_le (by show old.length ≤ L * size; omega)])
  · have c5 : Nat.ble (L + m) L = false := by
      cases hb : Nat.ble (L + m) L with
      | false => rfl
      | true => have := Nat.le_of_ble_eq_true hb; omega
    refine ⟨.slice (some ⟨3 * n + 1, 0, none⟩) (L + m) (L + m), _, n + 1, ?_, Nat.le_succ _, Ext.upd (b := 3 * n + 1) (x := some (.row (old ++ new) e)) (by omega), .at_ (by omega) (upd_same _ _ _) rfl (Nat.le_refl _) ?_ ?_, _, rfl⟩
    · simp only [appendF, hu, hi, hl', hc, c1, c2, c3, c4, c5, hold.2, Bool.and_self, growF, hg]
    · rw [List.length_append, ho, hl, Nat.add_mul]; omega
    · rw [List.drop_zero, List.take_of_length_le (by rw [List.length_append, ho, hl, Nat.add_mul]; omega)]
theorem gro_two (b : Nat) : gro (3 * b + 2) = false := by
  unfold gro
  rw [show (3 * b + 2) % 3 = 2 from by omega]
  rfl
set_option maxHeartbeats 4000000
theorem refValid_ok (k : Nat) {h : HF} {n : Nat} {vB vO vF vE : Value} {p : Sdp} {fr : Int} (hp : SdpR h n vB vO vF vE p) (hok : SdpB p) : VF (cal (k + 9)) 16 [.agg #[vB, .int .i64 fr, vO, vF, vE]] h n fun v => ∃ b : Bool, v = .bool b ∧ (b = true ↔ SdpV p fr) := by
  refine CF_flat (fn := Tryz.f16) rfl rfl rfl rfl ?_
  obtain ⟨hB, hO, hFr, ce, hE, hEq⟩ := hp
  obtain ⟨aB, lB, cB, rfl, _⟩ := hB.len
  obtain ⟨aO, lO, cO, rfl, _⟩ := hO.len
  obtain ⟨aF, lF, cF, rfl, _⟩ := hFr.len
  obtain ⟨aE, lE, cE, rfl, _⟩ := hE.len
  have hlB := hB.lenEq (m := p.blocks.length) (by omega) (by simp [i64s])
  have hlO := hO.lenEq (m := p.obj.length) (by omega) (ents_len _)
  have hlF := hFr.lenEq (m := p.objFree.length) (by omega) (by simp [strs])
  have hlE := hE.lenEq (m := p.eqs.length) (by omega) hEq.len
  subst hlB hlO hlF hlE
  have hbl := hok.bl
  have hol := hok.ol
  have hfl := hok.fl
  have heql := hok.el
  simp only [NV, reduceIte, Nat.reduceEqDiff, reduceCtorEq, Nat.one_ne_zero, Nat.zero_ne_one]
  refine st_mkp (cs := [.slice aB p.blocks.length cB, .int .i64 fr, .slice aO p.obj.length cO, .slice aF p.objFree.length cF, .slice aE p.eqs.length cE]) rfl rfl rfl rfl rfl ?_
  generalize hh : upd h (3 * n + 2) _ = h1
  have hx1 : Ext n h h1 := by rw [← hh]; exact Ext.upd (by omega)
  have hr1 : ∃ ty, h1 (3 * n + 2) = some (.row [.slice aB p.blocks.length cB, .int .i64 fr, .slice aO p.obj.length cO, .slice aF p.objFree.length cF, .slice aE p.eqs.length cE] ty) := ⟨_, by rw [← hh, upd_same]⟩
  obtain ⟨ty1, hr1⟩ := hr1
  clear hh
  repeat (first | refine st_ltT rfl rfl rfl rfl rfl rfl (by omega) ?_ | refine st_ltF rfl rfl rfl rfl rfl rfl (by omega) ?_ | refine st_gtT rfl rfl rfl rfl rfl rfl (by omega) ?_ | refine st_gtF rfl rfl rfl rfl rfl rfl (by omega) ?_ | refine st_neqT rfl rfl rfl rfl rfl rfl (by omega) ?_ | refine st_neqF rfl rfl rfl rfl rfl rfl (by omega) ?_ | refine st_add rfl rfl rfl rfl rfl rfl (by omega) ?_ | refine st_I rfl rfl rfl rfl rfl ?_ | refine st_B rfl rfl rfl rfl rfl ?_ | refine st_P rfl rfl rfl rfl rfl ?_ | refine st_off rfl rfl rfl ?_)
  simp only [EC_skip, EO_nil, after_normal, EC_seq]
  refine EC_cutx (α := Bool) (fun z => [(1, .pointer (some ⟨3 * n + 2, 0, none⟩)), (32, .bool z)]) (fun z h' n' w => h1 = h' ∧ n' = n + 1 ∧ w = [] ∧ (z = false ↔ (1 ≤ p.blocks.length ∧ p.blocks.length ≤ 64) ∧ (0 ≤ fr ∧ fr ≤ 512) ∧ p.eqs.length ≤ 512)) ?_ ?_
  · simp only [NV, reduceIte, Nat.reduceEqDiff, reduceCtorEq, Nat.one_ne_zero, Nat.zero_ne_one]
    by_cases q1 : p.blocks.length < 1
    · repeat (first | refine st_load1 rfl rfl rfl rfl rfl rfl hr1 rfl rfl ?_ | refine st_ltT rfl rfl rfl rfl rfl rfl (by omega) ?_ | refine st_ltF rfl rfl rfl rfl rfl rfl (by omega) ?_ | refine st_gtT rfl rfl rfl rfl rfl rfl (by omega) ?_ | refine st_gtF rfl rfl rfl rfl rfl rfl (by omega) ?_ | refine st_neqT rfl rfl rfl rfl rfl rfl (by omega) ?_ | refine st_neqF rfl rfl rfl rfl rfl rfl (by omega) ?_ | refine st_add rfl rfl rfl rfl rfl rfl (by omega) ?_ | refine st_I rfl rfl rfl rfl rfl ?_ | refine st_B rfl rfl rfl rfl rfl ?_ | refine st_P rfl rfl rfl rfl rfl ?_ | refine st_off rfl rfl rfl ?_)
      simp only [NV, reduceIte, Nat.reduceEqDiff, reduceCtorEq, Nat.one_ne_zero, Nat.zero_ne_one]
      exact cutx_mk true ⟨rfl, rfl, trivial⟩ ⟨rfl, rfl, rfl, by simp only [Bool.true_eq_false, false_iff]; omega⟩
    by_cases q2 : 64 < p.blocks.length
    · repeat (first | refine st_load1 rfl rfl rfl rfl rfl rfl hr1 rfl rfl ?_ | refine st_ltT rfl rfl rfl rfl rfl rfl (by omega) ?_ | refine st_ltF rfl rfl rfl rfl rfl rfl (by omega) ?_ | refine st_gtT rfl rfl rfl rfl rfl rfl (by omega) ?_ | refine st_gtF rfl rfl rfl rfl rfl rfl (by omega) ?_ | refine st_neqT rfl rfl rfl rfl rfl rfl (by omega) ?_ | refine st_neqF rfl rfl rfl rfl rfl rfl (by omega) ?_ | refine st_add rfl rfl rfl rfl rfl rfl (by omega) ?_ | refine st_I rfl rfl rfl rfl rfl ?_ | refine st_B rfl rfl rfl rfl rfl ?_ | refine st_P rfl rfl rfl rfl rfl ?_ | refine st_off rfl rfl rfl ?_)
      simp only [NV, reduceIte, Nat.reduceEqDiff, reduceCtorEq, Nat.one_ne_zero, Nat.zero_ne_one]
      exact cutx_mk true ⟨rfl, rfl, trivial⟩ ⟨rfl, rfl, rfl, by simp only [Bool.true_eq_false, false_iff]; omega⟩
    by_cases q3 : fr < 0
    · repeat (first | refine st_load1 rfl rfl rfl rfl rfl rfl hr1 rfl rfl ?_ | refine st_ltT rfl rfl rfl rfl rfl rfl (by omega) ?_ | refine st_ltF rfl rfl rfl rfl rfl rfl (by omega) ?_ | refine st_gtT rfl rfl rfl rfl rfl rfl (by omega) ?_ | refine st_gtF rfl rfl rfl rfl rfl rfl (by omega) ?_ | refine st_neqT rfl rfl rfl rfl rfl rfl (by omega) ?_ | refine st_neqF rfl rfl rfl rfl rfl rfl (by omega) ?_ | refine st_add rfl rfl rfl rfl rfl rfl (by omega) ?_ | refine st_I rfl rfl rfl rfl rfl ?_ | refine st_B rfl rfl rfl rfl rfl ?_ | refine st_P rfl rfl rfl rfl rfl ?_ | refine st_off rfl rfl rfl ?_)
      simp only [NV, reduceIte, Nat.reduceEqDiff, reduceCtorEq, Nat.one_ne_zero, Nat.zero_ne_one]
      exact cutx_mk true ⟨rfl, rfl, trivial⟩ ⟨rfl, rfl, rfl, by simp only [Bool.true_eq_false, false_iff]; omega⟩
    by_cases q4 : 512 < fr
    · repeat (first | refine st_load1 rfl rfl rfl rfl rfl rfl hr1 rfl rfl ?_ | refine st_ltT rfl rfl rfl rfl rfl rfl (by omega) ?_ | refine st_ltF rfl rfl rfl rfl rfl rfl (by omega) ?_ | refine st_gtT rfl rfl rfl rfl rfl rfl (by omega) ?_ | refine st_gtF rfl rfl rfl rfl rfl rfl (by omega) ?_ | refine st_neqT rfl rfl rfl rfl rfl rfl (by omega) ?_ | refine st_neqF rfl rfl rfl rfl rfl rfl (by omega) ?_ | refine st_add rfl rfl rfl rfl rfl rfl (by omega) ?_ | refine st_I rfl rfl rfl rfl rfl ?_ | refine st_B rfl rfl rfl rfl rfl ?_ | refine st_P rfl rfl rfl rfl rfl ?_ | refine st_off rfl rfl rfl ?_)
      simp only [NV, reduceIte, Nat.reduceEqDiff, reduceCtorEq, Nat.one_ne_zero, Nat.zero_ne_one]
      exact cutx_mk true ⟨rfl, rfl, trivial⟩ ⟨rfl, rfl, rfl, by simp only [Bool.true_eq_false, false_iff]; omega⟩
    by_cases q5 : 512 < p.eqs.length
    · repeat (first | refine st_load1 rfl rfl rfl rfl rfl rfl hr1 rfl rfl ?_ | refine st_ltT rfl rfl rfl rfl rfl rfl (by omega) ?_ | refine st_ltF rfl rfl rfl rfl rfl rfl (by omega) ?_ | refine st_gtT rfl rfl rfl rfl rfl rfl (by omega) ?_ | refine st_gtF rfl rfl rfl rfl rfl rfl (by omega) ?_ | refine st_neqT rfl rfl rfl rfl rfl rfl (by omega) ?_ | refine st_neqF rfl rfl rfl rfl rfl rfl (by omega) ?_ | refine st_add rfl rfl rfl rfl rfl rfl (by omega) ?_ | refine st_I rfl rfl rfl rfl rfl ?_ | refine st_B rfl rfl rfl rfl rfl ?_ | refine st_P rfl rfl rfl rfl rfl ?_ | refine st_off rfl rfl rfl ?_)
      simp only [NV, reduceIte, Nat.reduceEqDiff, reduceCtorEq, Nat.one_ne_zero, Nat.zero_ne_one]
      exact cutx_mk true ⟨rfl, rfl, trivial⟩ ⟨rfl, rfl, rfl, by simp only [Bool.true_eq_false, false_iff]; omega⟩
    · repeat (first | refine st_load1 rfl rfl rfl rfl rfl rfl hr1 rfl rfl ?_ | refine st_ltT rfl rfl rfl rfl rfl rfl (by omega) ?_ | refine st_ltF rfl rfl rfl rfl rfl rfl (by omega) ?_ | refine st_gtT rfl rfl rfl rfl rfl rfl (by omega) ?_ | refine st_gtF rfl rfl rfl rfl rfl rfl (by omega) ?_ | refine st_neqT rfl rfl rfl rfl rfl rfl (by omega) ?_ | refine st_neqF rfl rfl rfl rfl rfl rfl (by omega) ?_ | refine st_add rfl rfl rfl rfl rfl rfl (by omega) ?_ | refine st_I rfl rfl rfl rfl rfl ?_ | refine st_B rfl rfl rfl rfl rfl ?_ | refine st_P rfl rfl rfl rfl rfl ?_ | refine st_off rfl rfl rfl ?_)
      simp only [NV, reduceIte, Nat.reduceEqDiff, reduceCtorEq, Nat.one_ne_zero, Nat.zero_ne_one]
      exact cutx_mk false ⟨rfl, rfl, trivial⟩ ⟨rfl, rfl, rfl, fun _ => by omega, fun _ => rfl⟩
  rintro z t _ _ _ ⟨rfl, rfl, rfl, hz⟩
  cases z with
  | true =>
    rw [EC_cond_true rfl]
    simp only [NV, reduceIte, Nat.reduceEqDiff, reduceCtorEq, Nat.one_ne_zero, Nat.zero_ne_one]
    repeat (first | refine st_ltT rfl rfl rfl rfl rfl rfl (by omega) ?_ | refine st_ltF rfl rfl rfl rfl rfl rfl (by omega) ?_ | refine st_gtT rfl rfl rfl rfl rfl rfl (by omega) ?_ | refine st_gtF rfl rfl rfl rfl rfl rfl (by omega) ?_ | refine st_neqT rfl rfl rfl rfl rfl rfl (by omega) ?_ | refine st_neqF rfl rfl rfl rfl rfl rfl (by omega) ?_ | refine st_add rfl rfl rfl rfl rfl rfl (by omega) ?_ | refine st_I rfl rfl rfl rfl rfl ?_ | refine st_B rfl rfl rfl rfl rfl ?_ | refine st_P rfl rfl rfl rfl rfl ?_ | refine st_off rfl rfl rfl ?_)
    simp only [NV, reduceIte, Nat.reduceEqDiff, reduceCtorEq, Nat.one_ne_zero, Nat.zero_ne_one]
    exact retF _ rfl (resF_tmp rfl) rfl rfl ⟨false, rfl, fun h => absurd h (by simp), fun hV => absurd (hz.2 ⟨hV.bl, hV.free, hV.el⟩) (by simp)⟩
  | false =>
  rw [EC_cond_false rfl]
  simp only [NV, reduceIte, Nat.reduceEqDiff, reduceCtorEq, Nat.one_ne_zero, Nat.zero_ne_one]
  obtain ⟨g1, g2, g3⟩ := hz.1 rfl
  clear hz
  repeat (first | refine st_load1 rfl rfl rfl rfl rfl rfl hr1 rfl rfl ?_ | refine st_ltT rfl rfl rfl rfl rfl rfl (by omega) ?_ | refine st_ltF rfl rfl rfl rfl rfl rfl (by omega) ?_ | refine st_gtT rfl rfl rfl rfl rfl rfl (by omega) ?_ | refine st_gtF rfl rfl rfl rfl rfl rfl (by omega) ?_ | refine st_neqT rfl rfl rfl rfl rfl rfl (by omega) ?_ | refine st_neqF rfl rfl rfl rfl rfl rfl (by omega) ?_ | refine st_add rfl rfl rfl rfl rfl rfl (by omega) ?_ | refine st_I rfl rfl rfl rfl rfl ?_ | refine st_B rfl rfl rfl rfl rfl ?_ | refine st_P rfl rfl rfl rfl rfl ?_ | refine st_off rfl rfl rfl ?_)
  simp only [NV, reduceIte, Nat.reduceEqDiff, reduceCtorEq, Nat.one_ne_zero, Nat.zero_ne_one]
  have hB1 := hB.ext hx1 (Nat.le_succ n)
  have hO1 := hO.ext hx1 (Nat.le_succ n)
  have hF1 := hFr.ext hx1 (Nat.le_succ n)
  have hE1 := hE.ext hx1 (Nat.le_succ n)
  have hEq1 := hEq.ext hx1 (Nat.le_succ n)
  refine EC_for (α := Nat) (fun j => [(1, .pointer (some ⟨3 * n + 2, 0, none⟩)), (34, .slice aB p.blocks.length cB), (35, .int .i64 (p.blocks.length : Int)), (36, .int .i64 (j : Int))]) (fun j h' n' w => h1 = h' ∧ n' = n + 1 ∧ w = [] ∧ j ≤ p.blocks.length ∧ ∀ i d, i < j → p.blocks[i]? = some d → 1 ≤ d ∧ d ≤ 32) (fun j => p.blocks.length - j) 0 ⟨rfl, rfl, rfl, rfl, trivial⟩ ⟨rfl, rfl, rfl, Nat.zero_le _, fun i d hi => absurd hi (Nat.not_lt_zero i)⟩ (by show p.blocks.length - 0 < LL; unfold LL; omega) ?_
  rintro j t _ _ _ ⟨rfl, rfl, rfl, hj, hbs⟩
  simp only [NV, reduceIte, Nat.reduceEqDiff, reduceCtorEq, Nat.one_ne_zero, Nat.zero_ne_one]
  by_cases hjB : j ≠ p.blocks.length
  · obtain ⟨d, hd⟩ : ∃ d, p.blocks[j]? = some d := ⟨p.blocks[j]'(by omega), List.getElem?_eq_getElem (by omega)⟩
    obtain ⟨bB, oB, xB, csB, rfl, hbB, hxB, hcB, hcapB, hleB, heB⟩ := hB.inv (by omega)
    have hcell : csB[oB + j]? = some (.int .i64 d) := cell_at heB (by rw [i64s, List.getElem?_map, hd]; rfl)
    have hxB1 : h1 bB = some xB := by rw [hx1 bB hbB]; exact hxB
    repeat (first | refine st_ltT rfl rfl rfl rfl rfl rfl (by omega) ?_ | refine st_ltF rfl rfl rfl rfl rfl rfl (by omega) ?_ | refine st_gtT rfl rfl rfl rfl rfl rfl (by omega) ?_ | refine st_gtF rfl rfl rfl rfl rfl rfl (by omega) ?_ | refine st_neqT rfl rfl rfl rfl rfl rfl (by omega) ?_ | refine st_neqF rfl rfl rfl rfl rfl rfl (by omega) ?_ | refine st_add rfl rfl rfl rfl rfl rfl (by omega) ?_ | refine st_I rfl rfl rfl rfl rfl ?_ | refine st_B rfl rfl rfl rfl rfl ?_ | refine st_P rfl rfl rfl rfl rfl ?_ | refine st_off rfl rfl rfl ?_)
    simp only [NV, reduceIte, Nat.reduceEqDiff, reduceCtorEq, Nat.one_ne_zero, Nat.zero_ne_one]
    rw [EC_cond_true rfl]
    simp only [NV, reduceIte, Nat.reduceEqDiff, reduceCtorEq, Nat.one_ne_zero, Nat.zero_ne_one]
    refine st_idx rfl rfl rfl rfl rfl rfl rfl rfl (by omega) ?_
    refine st_load1 rfl rfl rfl rfl rfl rfl hxB1 hcB (v := .int .i64 d) (by rw [← hcell]; congr 1; omega) ?_
    repeat (first | refine st_ltT rfl rfl rfl rfl rfl rfl (by omega) ?_ | refine st_ltF rfl rfl rfl rfl rfl rfl (by omega) ?_ | refine st_gtT rfl rfl rfl rfl rfl rfl (by omega) ?_ | refine st_gtF rfl rfl rfl rfl rfl rfl (by omega) ?_ | refine st_neqT rfl rfl rfl rfl rfl rfl (by omega) ?_ | refine st_neqF rfl rfl rfl rfl rfl rfl (by omega) ?_ | refine st_add rfl rfl rfl rfl rfl rfl (by omega) ?_ | refine st_I rfl rfl rfl rfl rfl ?_ | refine st_B rfl rfl rfl rfl rfl ?_ | refine st_P rfl rfl rfl rfl rfl ?_ | refine st_off rfl rfl rfl ?_)
    simp only [NV, reduceIte, Nat.reduceEqDiff, reduceCtorEq, Nat.one_ne_zero, Nat.zero_ne_one]
    by_cases hd1 : d < 1
    · repeat (first | refine st_ltT rfl rfl rfl rfl rfl rfl (by omega) ?_ | refine st_ltF rfl rfl rfl rfl rfl rfl (by omega) ?_ | refine st_gtT rfl rfl rfl rfl rfl rfl (by omega) ?_ | refine st_gtF rfl rfl rfl rfl rfl rfl (by omega) ?_ | refine st_neqT rfl rfl rfl rfl rfl rfl (by omega) ?_ | refine st_neqF rfl rfl rfl rfl rfl rfl (by omega) ?_ | refine st_add rfl rfl rfl rfl rfl rfl (by omega) ?_ | refine st_I rfl rfl rfl rfl rfl ?_ | refine st_B rfl rfl rfl rfl rfl ?_ | refine st_P rfl rfl rfl rfl rfl ?_ | refine st_off rfl rfl rfl ?_)
      simp only [NV, reduceIte, Nat.reduceEqDiff, reduceCtorEq, Nat.one_ne_zero, Nat.zero_ne_one]
      rw [EC_cond_true rfl]
      simp only [NV, reduceIte, Nat.reduceEqDiff, reduceCtorEq, Nat.one_ne_zero, Nat.zero_ne_one]
      repeat (first | refine st_ltT rfl rfl rfl rfl rfl rfl (by omega) ?_ | refine st_ltF rfl rfl rfl rfl rfl rfl (by omega) ?_ | refine st_gtT rfl rfl rfl rfl rfl rfl (by omega) ?_ | refine st_gtF rfl rfl rfl rfl rfl rfl (by omega) ?_ | refine st_neqT rfl rfl rfl rfl rfl rfl (by omega) ?_ | refine st_neqF rfl rfl rfl rfl rfl rfl (by omega) ?_ | refine st_add rfl rfl rfl rfl rfl rfl (by omega) ?_ | refine st_I rfl rfl rfl rfl rfl ?_ | refine st_B rfl rfl rfl rfl rfl ?_ | refine st_P rfl rfl rfl rfl rfl ?_ | refine st_off rfl rfl rfl ?_)
      simp only [NV, reduceIte, Nat.reduceEqDiff, reduceCtorEq, Nat.one_ne_zero, Nat.zero_ne_one]
      exact retF _ rfl (resF_tmp rfl) rfl rfl ⟨false, rfl, fun h => absurd h (by simp), fun hV => by have := hV.b d (List.mem_of_getElem? hd); omega⟩
    by_cases hd2 : 32 < d
    · repeat (first | refine st_ltT rfl rfl rfl rfl rfl rfl (by omega) ?_ | refine st_ltF rfl rfl rfl rfl rfl rfl (by omega) ?_ | refine st_gtT rfl rfl rfl rfl rfl rfl (by omega) ?_ | refine st_gtF rfl rfl rfl rfl rfl rfl (by omega) ?_ | refine st_neqT rfl rfl rfl rfl rfl rfl (by omega) ?_ | refine st_neqF rfl rfl rfl rfl rfl rfl (by omega) ?_ | refine st_add rfl rfl rfl rfl rfl rfl (by omega) ?_ | refine st_I rfl rfl rfl rfl rfl ?_ | refine st_B rfl rfl rfl rfl rfl ?_ | refine st_P rfl rfl rfl rfl rfl ?_ | refine st_off rfl rfl rfl ?_)
      simp only [NV, reduceIte, Nat.reduceEqDiff, reduceCtorEq, Nat.one_ne_zero, Nat.zero_ne_one]
      rw [EC_cond_true rfl]
      simp only [NV, reduceIte, Nat.reduceEqDiff, reduceCtorEq, Nat.one_ne_zero, Nat.zero_ne_one]
      repeat (first | refine st_ltT rfl rfl rfl rfl rfl rfl (by omega) ?_ | refine st_ltF rfl rfl rfl rfl rfl rfl (by omega) ?_ | refine st_gtT rfl rfl rfl rfl rfl rfl (by omega) ?_ | refine st_gtF rfl rfl rfl rfl rfl rfl (by omega) ?_ | refine st_neqT rfl rfl rfl rfl rfl rfl (by omega) ?_ | refine st_neqF rfl rfl rfl rfl rfl rfl (by omega) ?_ | refine st_add rfl rfl rfl rfl rfl rfl (by omega) ?_ | refine st_I rfl rfl rfl rfl rfl ?_ | refine st_B rfl rfl rfl rfl rfl ?_ | refine st_P rfl rfl rfl rfl rfl ?_ | refine st_off rfl rfl rfl ?_)
      simp only [NV, reduceIte, Nat.reduceEqDiff, reduceCtorEq, Nat.one_ne_zero, Nat.zero_ne_one]
      exact retF _ rfl (resF_tmp rfl) rfl rfl ⟨false, rfl, fun h => absurd h (by simp), fun hV => by have := hV.b d (List.mem_of_getElem? hd); omega⟩
    repeat (first | refine st_ltT rfl rfl rfl rfl rfl rfl (by omega) ?_ | refine st_ltF rfl rfl rfl rfl rfl rfl (by omega) ?_ | refine st_gtT rfl rfl rfl rfl rfl rfl (by omega) ?_ | refine st_gtF rfl rfl rfl rfl rfl rfl (by omega) ?_ | refine st_neqT rfl rfl rfl rfl rfl rfl (by omega) ?_ | refine st_neqF rfl rfl rfl rfl rfl rfl (by omega) ?_ | refine st_add rfl rfl rfl rfl rfl rfl (by omega) ?_ | refine st_I rfl rfl rfl rfl rfl ?_ | refine st_B rfl rfl rfl rfl rfl ?_ | refine st_P rfl rfl rfl rfl rfl ?_ | refine st_off rfl rfl rfl ?_)
    simp only [NV, reduceIte, Nat.reduceEqDiff, reduceCtorEq, Nat.one_ne_zero, Nat.zero_ne_one]
    rw [EC_cond_false rfl]
    simp only [NV, reduceIte, Nat.reduceEqDiff, reduceCtorEq, Nat.one_ne_zero, Nat.zero_ne_one]
    repeat (first | refine st_ltT rfl rfl rfl rfl rfl rfl (by omega) ?_ | refine st_ltF rfl rfl rfl rfl rfl rfl (by omega) ?_ | refine st_gtT rfl rfl rfl rfl rfl rfl (by omega) ?_ | refine st_gtF rfl rfl rfl rfl rfl rfl (by omega) ?_ | refine st_neqT rfl rfl rfl rfl rfl rfl (by omega) ?_ | refine st_neqF rfl rfl rfl rfl rfl rfl (by omega) ?_ | refine st_add rfl rfl rfl rfl rfl rfl (by omega) ?_ | refine st_I rfl rfl rfl rfl rfl ?_ | refine st_B rfl rfl rfl rfl rfl ?_ | refine st_P rfl rfl rfl rfl rfl ?_ | refine st_off rfl rfl rfl ?_)
    simp only [NV, reduceIte, Nat.reduceEqDiff, reduceCtorEq, Nat.one_ne_zero, Nat.zero_ne_one]
    refine goOn (j + 1) (by show p.blocks.length - (j + 1) < p.blocks.length - j; omega) ⟨rfl, rfl, rfl, by show Value.int .i64 _ = Value.int .i64 _; congr 1, trivial⟩ ⟨rfl, rfl, rfl, by show j + 1 ≤ p.blocks.length; omega, fun i d' hi hd' => ?_⟩
    by_cases hij : i < j
    · exact hbs i d' hij hd'
    · have : i = j := by omega
      subst this
      rw [hd] at hd'
      injection hd' with hd'
      omega
  have hjB : j = p.blocks.length := Classical.not_not.1 hjB
  have hbs' : ∀ d ∈ p.blocks, 1 ≤ d ∧ d ≤ 32 := fun d hd => by
    obtain ⟨i, hi, e⟩ := List.getElem_of_mem hd
    exact hbs i d (by omega) (by rw [List.getElem?_eq_getElem hi, e])
  clear hbs
  repeat (first | refine st_ltT rfl rfl rfl rfl rfl rfl (by omega) ?_ | refine st_ltF rfl rfl rfl rfl rfl rfl (by omega) ?_ | refine st_gtT rfl rfl rfl rfl rfl rfl (by omega) ?_ | refine st_gtF rfl rfl rfl rfl rfl rfl (by omega) ?_ | refine st_neqT rfl rfl rfl rfl rfl rfl (by omega) ?_ | refine st_neqF rfl rfl rfl rfl rfl rfl (by omega) ?_ | refine st_add rfl rfl rfl rfl rfl rfl (by omega) ?_ | refine st_I rfl rfl rfl rfl rfl ?_ | refine st_B rfl rfl rfl rfl rfl ?_ | refine st_P rfl rfl rfl rfl rfl ?_ | refine st_off rfl rfl rfl ?_)
  simp only [NV, reduceIte, Nat.reduceEqDiff, reduceCtorEq, Nat.one_ne_zero, Nat.zero_ne_one]
  rw [EC_cond_false rfl]
  simp only [NV, reduceIte, Nat.reduceEqDiff, reduceCtorEq, Nat.one_ne_zero, Nat.zero_ne_one]
  repeat (first | refine st_load1 rfl rfl rfl rfl rfl rfl hr1 rfl rfl ?_ | refine st_ltT rfl rfl rfl rfl rfl rfl (by omega) ?_ | refine st_ltF rfl rfl rfl rfl rfl rfl (by omega) ?_ | refine st_gtT rfl rfl rfl rfl rfl rfl (by omega) ?_ | refine st_gtF rfl rfl rfl rfl rfl rfl (by omega) ?_ | refine st_neqT rfl rfl rfl rfl rfl rfl (by omega) ?_ | refine st_neqF rfl rfl rfl rfl rfl rfl (by omega) ?_ | refine st_add rfl rfl rfl rfl rfl rfl (by omega) ?_ | refine st_I rfl rfl rfl rfl rfl ?_ | refine st_B rfl rfl rfl rfl rfl ?_ | refine st_P rfl rfl rfl rfl rfl ?_ | refine st_off rfl rfl rfl ?_)
  refine st_vf _ rfl rfl rfl rfl rfl (listV_ok (k + 1) hO1 hB1 hok.os (by omega)) ?_
  rintro _ ⟨b1, rfl, hb1⟩
  cases b1 with
  | false =>
    repeat (first | refine st_ltT rfl rfl rfl rfl rfl rfl (by omega) ?_ | refine st_ltF rfl rfl rfl rfl rfl rfl (by omega) ?_ | refine st_gtT rfl rfl rfl rfl rfl rfl (by omega) ?_ | refine st_gtF rfl rfl rfl rfl rfl rfl (by omega) ?_ | refine st_neqT rfl rfl rfl rfl rfl rfl (by omega) ?_ | refine st_neqF rfl rfl rfl rfl rfl rfl (by omega) ?_ | refine st_add rfl rfl rfl rfl rfl rfl (by omega) ?_ | refine st_I rfl rfl rfl rfl rfl ?_ | refine st_B rfl rfl rfl rfl rfl ?_ | refine st_P rfl rfl rfl rfl rfl ?_ | refine st_off rfl rfl rfl ?_)
    simp only [NV, reduceIte, Nat.reduceEqDiff, reduceCtorEq, Nat.one_ne_zero, Nat.zero_ne_one]
    rw [EC_cond_true rfl]
    simp only [NV, reduceIte, Nat.reduceEqDiff, reduceCtorEq, Nat.one_ne_zero, Nat.zero_ne_one]
    repeat (first | refine st_ltT rfl rfl rfl rfl rfl rfl (by omega) ?_ | refine st_ltF rfl rfl rfl rfl rfl rfl (by omega) ?_ | refine st_gtT rfl rfl rfl rfl rfl rfl (by omega) ?_ | refine st_gtF rfl rfl rfl rfl rfl rfl (by omega) ?_ | refine st_neqT rfl rfl rfl rfl rfl rfl (by omega) ?_ | refine st_neqF rfl rfl rfl rfl rfl rfl (by omega) ?_ | refine st_add rfl rfl rfl rfl rfl rfl (by omega) ?_ | refine st_I rfl rfl rfl rfl rfl ?_ | refine st_B rfl rfl rfl rfl rfl ?_ | refine st_P rfl rfl rfl rfl rfl ?_ | refine st_off rfl rfl rfl ?_)
    simp only [NV, reduceIte, Nat.reduceEqDiff, reduceCtorEq, Nat.one_ne_zero, Nat.zero_ne_one]
    exact retF _ rfl (resF_tmp rfl) rfl rfl ⟨false, rfl, fun h => absurd h (by simp), fun hV => hb1.2 hV.obj⟩
  | true =>
  by_cases hofl : (p.objFree.length : Int) = fr
  case neg =>
    repeat (first | refine st_load1 rfl rfl rfl rfl rfl rfl hr1 rfl rfl ?_ | refine st_ltT rfl rfl rfl rfl rfl rfl (by omega) ?_ | refine st_ltF rfl rfl rfl rfl rfl rfl (by omega) ?_ | refine st_gtT rfl rfl rfl rfl rfl rfl (by omega) ?_ | refine st_gtF rfl rfl rfl rfl rfl rfl (by omega) ?_ | refine st_neqT rfl rfl rfl rfl rfl rfl (by omega) ?_ | refine st_neqF rfl rfl rfl rfl rfl rfl (by omega) ?_ | refine st_add rfl rfl rfl rfl rfl rfl (by omega) ?_ | refine st_I rfl rfl rfl rfl rfl ?_ | refine st_B rfl rfl rfl rfl rfl ?_ | refine st_P rfl rfl rfl rfl rfl ?_ | refine st_off rfl rfl rfl ?_)
    simp only [NV, reduceIte, Nat.reduceEqDiff, reduceCtorEq, Nat.one_ne_zero, Nat.zero_ne_one]
    rw [EC_cond_true rfl]
    simp only [NV, reduceIte, Nat.reduceEqDiff, reduceCtorEq, Nat.one_ne_zero, Nat.zero_ne_one]
    repeat (first | refine st_ltT rfl rfl rfl rfl rfl rfl (by omega) ?_ | refine st_ltF rfl rfl rfl rfl rfl rfl (by omega) ?_ | refine st_gtT rfl rfl rfl rfl rfl rfl (by omega) ?_ | refine st_gtF rfl rfl rfl rfl rfl rfl (by omega) ?_ | refine st_neqT rfl rfl rfl rfl rfl rfl (by omega) ?_ | refine st_neqF rfl rfl rfl rfl rfl rfl (by omega) ?_ | refine st_add rfl rfl rfl rfl rfl rfl (by omega) ?_ | refine st_I rfl rfl rfl rfl rfl ?_ | refine st_B rfl rfl rfl rfl rfl ?_ | refine st_P rfl rfl rfl rfl rfl ?_ | refine st_off rfl rfl rfl ?_)
    simp only [NV, reduceIte, Nat.reduceEqDiff, reduceCtorEq, Nat.one_ne_zero, Nat.zero_ne_one]
    exact retF _ rfl (resF_tmp rfl) rfl rfl ⟨false, rfl, fun h => absurd h (by simp), fun hV => absurd hV.ofl hofl⟩
  repeat (first | refine st_load1 rfl rfl rfl rfl rfl rfl hr1 rfl rfl ?_ | refine st_ltT rfl rfl rfl rfl rfl rfl (by omega) ?_ | refine st_ltF rfl rfl rfl rfl rfl rfl (by omega) ?_ | refine st_gtT rfl rfl rfl rfl rfl rfl (by omega) ?_ | refine st_gtF rfl rfl rfl rfl rfl rfl (by omega) ?_ | refine st_neqT rfl rfl rfl rfl rfl rfl (by omega) ?_ | refine st_neqF rfl rfl rfl rfl rfl rfl (by omega) ?_ | refine st_add rfl rfl rfl rfl rfl rfl (by omega) ?_ | refine st_I rfl rfl rfl rfl rfl ?_ | refine st_B rfl rfl rfl rfl rfl ?_ | refine st_P rfl rfl rfl rfl rfl ?_ | refine st_off rfl rfl rfl ?_)
  refine st_vf _ rfl rfl rfl rfl rfl (numbersR_ok k hF1 hok.fs (by omega)) ?_
  rintro _ ⟨b2, rfl, hb2⟩
  cases b2 with
  | false =>
    repeat (first | refine st_ltT rfl rfl rfl rfl rfl rfl (by omega) ?_ | refine st_ltF rfl rfl rfl rfl rfl rfl (by omega) ?_ | refine st_gtT rfl rfl rfl rfl rfl rfl (by omega) ?_ | refine st_gtF rfl rfl rfl rfl rfl rfl (by omega) ?_ | refine st_neqT rfl rfl rfl rfl rfl rfl (by omega) ?_ | refine st_neqF rfl rfl rfl rfl rfl rfl (by omega) ?_ | refine st_add rfl rfl rfl rfl rfl rfl (by omega) ?_ | refine st_I rfl rfl rfl rfl rfl ?_ | refine st_B rfl rfl rfl rfl rfl ?_ | refine st_P rfl rfl rfl rfl rfl ?_ | refine st_off rfl rfl rfl ?_)
    simp only [NV, reduceIte, Nat.reduceEqDiff, reduceCtorEq, Nat.one_ne_zero, Nat.zero_ne_one]
    rw [EC_cond_true rfl]
    simp only [NV, reduceIte, Nat.reduceEqDiff, reduceCtorEq, Nat.one_ne_zero, Nat.zero_ne_one]
    repeat (first | refine st_ltT rfl rfl rfl rfl rfl rfl (by omega) ?_ | refine st_ltF rfl rfl rfl rfl rfl rfl (by omega) ?_ | refine st_gtT rfl rfl rfl rfl rfl rfl (by omega) ?_ | refine st_gtF rfl rfl rfl rfl rfl rfl (by omega) ?_ | refine st_neqT rfl rfl rfl rfl rfl rfl (by omega) ?_ | refine st_neqF rfl rfl rfl rfl rfl rfl (by omega) ?_ | refine st_add rfl rfl rfl rfl rfl rfl (by omega) ?_ | refine st_I rfl rfl rfl rfl rfl ?_ | refine st_B rfl rfl rfl rfl rfl ?_ | refine st_P rfl rfl rfl rfl rfl ?_ | refine st_off rfl rfl rfl ?_)
    simp only [NV, reduceIte, Nat.reduceEqDiff, reduceCtorEq, Nat.one_ne_zero, Nat.zero_ne_one]
    exact retF _ rfl (resF_tmp rfl) rfl rfl ⟨false, rfl, fun h => absurd h (by simp), fun hV => hb2.2 hV.ofs⟩
  | true =>
  repeat (first | refine st_ltT rfl rfl rfl rfl rfl rfl (by omega) ?_ | refine st_ltF rfl rfl rfl rfl rfl rfl (by omega) ?_ | refine st_gtT rfl rfl rfl rfl rfl rfl (by omega) ?_ | refine st_gtF rfl rfl rfl rfl rfl rfl (by omega) ?_ | refine st_neqT rfl rfl rfl rfl rfl rfl (by omega) ?_ | refine st_neqF rfl rfl rfl rfl rfl rfl (by omega) ?_ | refine st_add rfl rfl rfl rfl rfl rfl (by omega) ?_ | refine st_I rfl rfl rfl rfl rfl ?_ | refine st_B rfl rfl rfl rfl rfl ?_ | refine st_P rfl rfl rfl rfl rfl ?_ | refine st_off rfl rfl rfl ?_)
  simp only [NV, reduceIte, Nat.reduceEqDiff, reduceCtorEq, Nat.one_ne_zero, Nat.zero_ne_one]
  rw [EC_cond_false rfl]
  simp only [NV, reduceIte, Nat.reduceEqDiff, reduceCtorEq, Nat.one_ne_zero, Nat.zero_ne_one]
  repeat (first | refine st_load1 rfl rfl rfl rfl rfl rfl hr1 rfl rfl ?_ | refine st_ltT rfl rfl rfl rfl rfl rfl (by omega) ?_ | refine st_ltF rfl rfl rfl rfl rfl rfl (by omega) ?_ | refine st_gtT rfl rfl rfl rfl rfl rfl (by omega) ?_ | refine st_gtF rfl rfl rfl rfl rfl rfl (by omega) ?_ | refine st_neqT rfl rfl rfl rfl rfl rfl (by omega) ?_ | refine st_neqF rfl rfl rfl rfl rfl rfl (by omega) ?_ | refine st_add rfl rfl rfl rfl rfl rfl (by omega) ?_ | refine st_I rfl rfl rfl rfl rfl ?_ | refine st_B rfl rfl rfl rfl rfl ?_ | refine st_P rfl rfl rfl rfl rfl ?_ | refine st_off rfl rfl rfl ?_)
  simp only [NV, reduceIte, Nat.reduceEqDiff, reduceCtorEq, Nat.one_ne_zero, Nat.zero_ne_one]
  refine EC_for (α := Nat) (fun j => [(1, .pointer (some ⟨3 * n + 2, 0, none⟩)), (68, .slice aE p.eqs.length cE), (69, .int .i64 (p.eqs.length : Int)), (70, .int .i64 (j : Int))]) (fun j h' n' w => Ext (n + 1) h1 h' ∧ n + 1 ≤ n' ∧ w = [] ∧ j ≤ p.eqs.length ∧ ∀ i q, i < j → p.eqs[i]? = some q → ListV p.blocks q.es ∧ (q.fr.length : Int) = fr ∧ ∀ s ∈ q.rhs :: q.fr, isNum s) (fun j => p.eqs.length - j) 0 ⟨rfl, rfl, rfl, rfl, trivial⟩ ⟨Ext.refl _ _, Nat.le_refl _, rfl, Nat.zero_le _, fun i d hi => absurd hi (Nat.not_lt_zero i)⟩ (by show p.eqs.length - 0 < LL; unfold LL; omega) ?_
  rintro i t h2 n2 _ ⟨hx2, hn2, rfl, hi, hqs⟩
  simp only [NV, reduceIte, Nat.reduceEqDiff, reduceCtorEq, Nat.one_ne_zero, Nat.zero_ne_one]
  by_cases hiE : i = p.eqs.length
  · repeat (first | refine st_ltT rfl rfl rfl rfl rfl rfl (by omega) ?_ | refine st_ltF rfl rfl rfl rfl rfl rfl (by omega) ?_ | refine st_gtT rfl rfl rfl rfl rfl rfl (by omega) ?_ | refine st_gtF rfl rfl rfl rfl rfl rfl (by omega) ?_ | refine st_neqT rfl rfl rfl rfl rfl rfl (by omega) ?_ | refine st_neqF rfl rfl rfl rfl rfl rfl (by omega) ?_ | refine st_add rfl rfl rfl rfl rfl rfl (by omega) ?_ | refine st_I rfl rfl rfl rfl rfl ?_ | refine st_B rfl rfl rfl rfl rfl ?_ | refine st_P rfl rfl rfl rfl rfl ?_ | refine st_off rfl rfl rfl ?_)
    simp only [NV, reduceIte, Nat.reduceEqDiff, reduceCtorEq, Nat.one_ne_zero, Nat.zero_ne_one]
    rw [EC_cond_false rfl]
    simp only [NV, reduceIte, Nat.reduceEqDiff, reduceCtorEq, Nat.one_ne_zero, Nat.zero_ne_one]
    repeat (first | refine st_ltT rfl rfl rfl rfl rfl rfl (by omega) ?_ | refine st_ltF rfl rfl rfl rfl rfl rfl (by omega) ?_ | refine st_gtT rfl rfl rfl rfl rfl rfl (by omega) ?_ | refine st_gtF rfl rfl rfl rfl rfl rfl (by omega) ?_ | refine st_neqT rfl rfl rfl rfl rfl rfl (by omega) ?_ | refine st_neqF rfl rfl rfl rfl rfl rfl (by omega) ?_ | refine st_add rfl rfl rfl rfl rfl rfl (by omega) ?_ | refine st_I rfl rfl rfl rfl rfl ?_ | refine st_B rfl rfl rfl rfl rfl ?_ | refine st_P rfl rfl rfl rfl rfl ?_ | refine st_off rfl rfl rfl ?_)
    simp only [NV, reduceIte, Nat.reduceEqDiff, reduceCtorEq, Nat.one_ne_zero, Nat.zero_ne_one]
    refine retF _ rfl (resF_tmp rfl) rfl rfl ⟨true, rfl, fun _ => ⟨g1, g2, g3, hbs', hb1.1 rfl, hofl, hb2.1 rfl, fun q hq => ?_⟩, fun _ => rfl⟩
    obtain ⟨i', hi', e⟩ := List.getElem_of_mem hq
    exact hqs i' q (by omega) (by rw [List.getElem?_eq_getElem hi', e])
  obtain ⟨q, hq⟩ : ∃ q, p.eqs[i]? = some q := ⟨p.eqs[i]'(by omega), List.getElem?_eq_getElem (by omega)⟩
  have hqm := List.mem_of_getElem? hq
  obtain ⟨q1, q2, q3, q4⟩ := hok.qs q hqm
  obtain ⟨ve, vf, hce, hve, hvf⟩ := hEq1.get hq
  obtain ⟨ae, le, cce, rfl, _⟩ := hve.len
  obtain ⟨af, lf, ccf, rfl, _⟩ := hvf.len
  have hle := hve.lenEq (m := q.es.length) (by omega) (ents_len _)
  have hlf := hvf.lenEq (m := q.fr.length) (by omega) (by simp [strs])
  subst hle hlf
  obtain ⟨bE, oE, xE, csE, rfl, hbE, hxE, hcE, hcapE, hleE, heE⟩ := hE1.inv (by omega)
  have hcell : (csE.drop (oE + i * 3)).take 3 = [.slice ae q.es.length cce, .slice af q.fr.length ccf, .string ⟨⟨q.rhs⟩⟩] := by rw [take_at heE (by omega), hce]
  have hxE2 : h2 bE = some xE := by rw [hx2 bE hbE]; exact hxE
  repeat (first | refine st_ltT rfl rfl rfl rfl rfl rfl (by omega) ?_ | refine st_ltF rfl rfl rfl rfl rfl rfl (by omega) ?_ | refine st_gtT rfl rfl rfl rfl rfl rfl (by omega) ?_ | refine st_gtF rfl rfl rfl rfl rfl rfl (by omega) ?_ | refine st_neqT rfl rfl rfl rfl rfl rfl (by omega) ?_ | refine st_neqF rfl rfl rfl rfl rfl rfl (by omega) ?_ | refine st_add rfl rfl rfl rfl rfl rfl (by omega) ?_ | refine st_I rfl rfl rfl rfl rfl ?_ | refine st_B rfl rfl rfl rfl rfl ?_ | refine st_P rfl rfl rfl rfl rfl ?_ | refine st_off rfl rfl rfl ?_)
  simp only [NV, reduceIte, Nat.reduceEqDiff, reduceCtorEq, Nat.one_ne_zero, Nat.zero_ne_one]
  rw [EC_cond_true rfl]
  simp only [NV, reduceIte, Nat.reduceEqDiff, reduceCtorEq, Nat.one_ne_zero, Nat.zero_ne_one]
  refine st_idx rfl rfl rfl rfl rfl rfl rfl rfl (by omega) ?_
  refine st_load (v := .agg #[.slice ae q.es.length cce, .slice af q.fr.length ccf, .string ⟨⟨q.rhs⟩⟩]) rfl rfl rfl rfl rfl (loadn_eq rfl rfl hxE2 hcE (by omega) (by rw [← hcell]; congr 2 <;> omega)) ?_
  refine st_alloc rfl rfl rfl rfl rfl ?_
  refine st_storeW [.slice ae q.es.length cce, .slice af q.fr.length ccf, .string ⟨⟨q.rhs⟩⟩] rfl rfl rfl rfl rfl rfl rfl rfl (upd_same _ _ _) rfl (by show 3 * n ≤ 3 * n2 + 2; omega) ?_
  rw [upd_upd]
  generalize hh : upd h2 (3 * n2 + 2) _ = h3
  have hp3 : ∃ ty, h3 (3 * n2 + 2) = some (.row [.slice ae q.es.length cce, .slice af q.fr.length ccf, .string ⟨⟨q.rhs⟩⟩] ty) := ⟨_, by rw [← hh, upd_same]⟩
  obtain ⟨ty3, hp3⟩ := hp3
  have hx3 : Ext n2 h2 h3 := by rw [← hh]; exact Ext.upd (by omega)
  clear hh
  have hx13 : Ext (n + 1) h1 h3 := hx2.trans hx3 hn2
  have hr3 : h3 (3 * n + 2) = some (.row [.slice aB p.blocks.length cB, .int .i64 fr, .slice aO p.obj.length cO, .slice aF p.objFree.length cF, .slice (some ⟨bE, oE, none⟩) p.eqs.length cE] ty1) := by rw [hx13 _ (by omega)]; exact hr1
  simp only [NV, reduceIte, Nat.reduceEqDiff, reduceCtorEq, Nat.one_ne_zero, Nat.zero_ne_one]
  repeat (first | refine st_load1 rfl rfl rfl rfl rfl rfl hp3 rfl rfl ?_ | refine st_load1 rfl rfl rfl rfl rfl rfl hr3 rfl rfl ?_ | refine st_ltT rfl rfl rfl rfl rfl rfl (by omega) ?_ | refine st_ltF rfl rfl rfl rfl rfl rfl (by omega) ?_ | refine st_gtT rfl rfl rfl rfl rfl rfl (by omega) ?_ | refine st_gtF rfl rfl rfl rfl rfl rfl (by omega) ?_ | refine st_neqT rfl rfl rfl rfl rfl rfl (by omega) ?_ | refine st_neqF rfl rfl rfl rfl rfl rfl (by omega) ?_ | refine st_add rfl rfl rfl rfl rfl rfl (by omega) ?_ | refine st_I rfl rfl rfl rfl rfl ?_ | refine st_B rfl rfl rfl rfl rfl ?_ | refine st_P rfl rfl rfl rfl rfl ?_ | refine st_off rfl rfl rfl ?_)
  refine st_vf _ rfl rfl rfl rfl rfl (listV_ok (k + 1) (hve.ext hx13 (show n + 1 ≤ n2 + 1 by omega)) (hB1.ext hx13 (show n + 1 ≤ n2 + 1 by omega)) q3 (by omega)) ?_
  rintro _ ⟨b3, rfl, hb3⟩
  cases b3 with
  | false =>
    repeat (first | refine st_ltT rfl rfl rfl rfl rfl rfl (by omega) ?_ | refine st_ltF rfl rfl rfl rfl rfl rfl (by omega) ?_ | refine st_gtT rfl rfl rfl rfl rfl rfl (by omega) ?_ | refine st_gtF rfl rfl rfl rfl rfl rfl (by omega) ?_ | refine st_neqT rfl rfl rfl rfl rfl rfl (by omega) ?_ | refine st_neqF rfl rfl rfl rfl rfl rfl (by omega) ?_ | refine st_add rfl rfl rfl rfl rfl rfl (by omega) ?_ | refine st_I rfl rfl rfl rfl rfl ?_ | refine st_B rfl rfl rfl rfl rfl ?_ | refine st_P rfl rfl rfl rfl rfl ?_ | refine st_off rfl rfl rfl ?_)
    simp only [NV, reduceIte, Nat.reduceEqDiff, reduceCtorEq, Nat.one_ne_zero, Nat.zero_ne_one]
    rw [EC_cond_true rfl]
    simp only [NV, reduceIte, Nat.reduceEqDiff, reduceCtorEq, Nat.one_ne_zero, Nat.zero_ne_one]
    repeat (first | refine st_ltT rfl rfl rfl rfl rfl rfl (by omega) ?_ | refine st_ltF rfl rfl rfl rfl rfl rfl (by omega) ?_ | refine st_gtT rfl rfl rfl rfl rfl rfl (by omega) ?_ | refine st_gtF rfl rfl rfl rfl rfl rfl (by omega) ?_ | refine st_neqT rfl rfl rfl rfl rfl rfl (by omega) ?_ | refine st_neqF rfl rfl rfl rfl rfl rfl (by omega) ?_ | refine st_add rfl rfl rfl rfl rfl rfl (by omega) ?_ | refine st_I rfl rfl rfl rfl rfl ?_ | refine st_B rfl rfl rfl rfl rfl ?_ | refine st_P rfl rfl rfl rfl rfl ?_ | refine st_off rfl rfl rfl ?_)
    simp only [NV, reduceIte, Nat.reduceEqDiff, reduceCtorEq, Nat.one_ne_zero, Nat.zero_ne_one]
    exact retF _ rfl (resF_tmp rfl) rfl rfl ⟨false, rfl, fun h => absurd h (by simp), fun hV => hb3.2 (hV.eqs q hqm).1⟩
  | true =>
  by_cases hqf : (q.fr.length : Int) = fr
  case neg =>
    repeat (first | refine st_load1 rfl rfl rfl rfl rfl rfl hp3 rfl rfl ?_ | refine st_load1 rfl rfl rfl rfl rfl rfl hr3 rfl rfl ?_ | refine st_ltT rfl rfl rfl rfl rfl rfl (by omega) ?_ | refine st_ltF rfl rfl rfl rfl rfl rfl (by omega) ?_ | refine st_gtT rfl rfl rfl rfl rfl rfl (by omega) ?_ | refine st_gtF rfl rfl rfl rfl rfl rfl (by omega) ?_ | refine st_neqT rfl rfl rfl rfl rfl rfl (by omega) ?_ | refine st_neqF rfl rfl rfl rfl rfl rfl (by omega) ?_ | refine st_add rfl rfl rfl rfl rfl rfl (by omega) ?_ | refine st_I rfl rfl rfl rfl rfl ?_ | refine st_B rfl rfl rfl rfl rfl ?_ | refine st_P rfl rfl rfl rfl rfl ?_ | refine st_off rfl rfl rfl ?_)
    simp only [NV, reduceIte, Nat.reduceEqDiff, reduceCtorEq, Nat.one_ne_zero, Nat.zero_ne_one]
    rw [EC_cond_true rfl]
    simp only [NV, reduceIte, Nat.reduceEqDiff, reduceCtorEq, Nat.one_ne_zero, Nat.zero_ne_one]
    repeat (first | refine st_ltT rfl rfl rfl rfl rfl rfl (by omega) ?_ | refine st_ltF rfl rfl rfl rfl rfl rfl (by omega) ?_ | refine st_gtT rfl rfl rfl rfl rfl rfl (by omega) ?_ | refine st_gtF rfl rfl rfl rfl rfl rfl (by omega) ?_ | refine st_neqT rfl rfl rfl rfl rfl rfl (by omega) ?_ | refine st_neqF rfl rfl rfl rfl rfl rfl (by omega) ?_ | refine st_add rfl rfl rfl rfl rfl rfl (by omega) ?_ | refine st_I rfl rfl rfl rfl rfl ?_ | refine st_B rfl rfl rfl rfl rfl ?_ | refine st_P rfl rfl rfl rfl rfl ?_ | refine st_off rfl rfl rfl ?_)
    simp only [NV, reduceIte, Nat.reduceEqDiff, reduceCtorEq, Nat.one_ne_zero, Nat.zero_ne_one]
    exact retF _ rfl (resF_tmp rfl) rfl rfl ⟨false, rfl, fun h => absurd h (by simp), fun hV => absurd (hV.eqs q hqm).2.1 hqf⟩
  repeat (first | refine st_load1 rfl rfl rfl rfl rfl rfl hp3 rfl rfl ?_ | refine st_load1 rfl rfl rfl rfl rfl rfl hr3 rfl rfl ?_ | refine st_ltT rfl rfl rfl rfl rfl rfl (by omega) ?_ | refine st_ltF rfl rfl rfl rfl rfl rfl (by omega) ?_ | refine st_gtT rfl rfl rfl rfl rfl rfl (by omega) ?_ | refine st_gtF rfl rfl rfl rfl rfl rfl (by omega) ?_ | refine st_neqT rfl rfl rfl rfl rfl rfl (by omega) ?_ | refine st_neqF rfl rfl rfl rfl rfl rfl (by omega) ?_ | refine st_add rfl rfl rfl rfl rfl rfl (by omega) ?_ | refine st_I rfl rfl rfl rfl rfl ?_ | refine st_B rfl rfl rfl rfl rfl ?_ | refine st_P rfl rfl rfl rfl rfl ?_ | refine st_off rfl rfl rfl ?_)
  refine st_mks (cs := [.string ⟨⟨q.rhs⟩⟩]) rfl rfl rfl rfl rfl ?_
  have hx4 : Ext (n2 + 1) h3 (upd h3 (3 * (n2 + 1) + 2) (some (.row [.string ⟨⟨q.rhs⟩⟩] 9))) := Ext.upd (by omega)
  have hp4 : (upd h3 (3 * (n2 + 1) + 2) (some (.row [.string ⟨⟨q.rhs⟩⟩] 9))) (3 * n2 + 2) = _ := (hx4 _ (by omega)).trans hp3
  repeat (first | refine st_load1 rfl rfl rfl rfl rfl rfl hp4 rfl rfl ?_ | refine st_ltT rfl rfl rfl rfl rfl rfl (by omega) ?_ | refine st_ltF rfl rfl rfl rfl rfl rfl (by omega) ?_ | refine st_gtT rfl rfl rfl rfl rfl rfl (by omega) ?_ | refine st_gtF rfl rfl rfl rfl rfl rfl (by omega) ?_ | refine st_neqT rfl rfl rfl rfl rfl rfl (by omega) ?_ | refine st_neqF rfl rfl rfl rfl rfl rfl (by omega) ?_ | refine st_add rfl rfl rfl rfl rfl rfl (by omega) ?_ | refine st_I rfl rfl rfl rfl rfl ?_ | refine st_B rfl rfl rfl rfl rfl ?_ | refine st_P rfl rfl rfl rfl rfl ?_ | refine st_off rfl rfl rfl ?_)
  obtain ⟨v', h5, n5, ha5, hn5, hx5, hs5, a5, rfl⟩ := append_full (E := env) (h := upd h3 (3 * (n2 + 1) + 2) (some (.row [.string ⟨⟨q.rhs⟩⟩] 9))) (n := n2 + 1 + 1) (sT := 24) (b := 3 * (n2 + 1) + 2) (L := 1) (m := q.fr.length) (old := [.string ⟨⟨q.rhs⟩⟩]) rfl rfl rfl (by decide) (argS_sl ((hvf.ext hx13 (show n + 1 ≤ n2 + 1 by omega)).ext hx4 (Nat.le_succ _))) (by omega) (gro_two _) (upd_same _ _ _) (by omega) rfl (by rw [strs_len, Nat.mul_one])
  refine st_append rfl rfl rfl rfl rfl ha5 ?_
  refine st_vf _ rfl rfl rfl rfl rfl (numbersR_ok k (S := q.rhs :: q.fr) hs5 q4 (by rw [List.length_cons]; omega)) ?_
  rintro _ ⟨b4, rfl, hb4⟩
  cases b4 with
  | false =>
    repeat (first | refine st_ltT rfl rfl rfl rfl rfl rfl (by omega) ?_ | refine st_ltF rfl rfl rfl rfl rfl rfl (by omega) ?_ | refine st_gtT rfl rfl rfl rfl rfl rfl (by omega) ?_ | refine st_gtF rfl rfl rfl rfl rfl rfl (by omega) ?_ | refine st_neqT rfl rfl rfl rfl rfl rfl (by omega) ?_ | refine st_neqF rfl rfl rfl rfl rfl rfl (by omega) ?_ | refine st_add rfl rfl rfl rfl rfl rfl (by omega) ?_ | refine st_I rfl rfl rfl rfl rfl ?_ | refine st_B rfl rfl rfl rfl rfl ?_ | refine st_P rfl rfl rfl rfl rfl ?_ | refine st_off rfl rfl rfl ?_)
    simp only [NV, reduceIte, Nat.reduceEqDiff, reduceCtorEq, Nat.one_ne_zero, Nat.zero_ne_one]
    rw [EC_cond_true rfl]
    simp only [NV, reduceIte, Nat.reduceEqDiff, reduceCtorEq, Nat.one_ne_zero, Nat.zero_ne_one]
    repeat (first | refine st_ltT rfl rfl rfl rfl rfl rfl (by omega) ?_ | refine st_ltF rfl rfl rfl rfl rfl rfl (by omega) ?_ | refine st_gtT rfl rfl rfl rfl rfl rfl (by omega) ?_ | refine st_gtF rfl rfl rfl rfl rfl rfl (by omega) ?_ | refine st_neqT rfl rfl rfl rfl rfl rfl (by omega) ?_ | refine st_neqF rfl rfl rfl rfl rfl rfl (by omega) ?_ | refine st_add rfl rfl rfl rfl rfl rfl (by omega) ?_ | refine st_I rfl rfl rfl rfl rfl ?_ | refine st_B rfl rfl rfl rfl rfl ?_ | refine st_P rfl rfl rfl rfl rfl ?_ | refine st_off rfl rfl rfl ?_)
    simp only [NV, reduceIte, Nat.reduceEqDiff, reduceCtorEq, Nat.one_ne_zero, Nat.zero_ne_one]
    exact retF _ rfl (resF_tmp rfl) rfl rfl ⟨false, rfl, fun h => absurd h (by simp), fun hV => hb4.2 (hV.eqs q hqm).2.2⟩
  | true =>
  repeat (first | refine st_ltT rfl rfl rfl rfl rfl rfl (by omega) ?_ | refine st_ltF rfl rfl rfl rfl rfl rfl (by omega) ?_ | refine st_gtT rfl rfl rfl rfl rfl rfl (by omega) ?_ | refine st_gtF rfl rfl rfl rfl rfl rfl (by omega) ?_ | refine st_neqT rfl rfl rfl rfl rfl rfl (by omega) ?_ | refine st_neqF rfl rfl rfl rfl rfl rfl (by omega) ?_ | refine st_add rfl rfl rfl rfl rfl rfl (by omega) ?_ | refine st_I rfl rfl rfl rfl rfl ?_ | refine st_B rfl rfl rfl rfl rfl ?_ | refine st_P rfl rfl rfl rfl rfl ?_ | refine st_off rfl rfl rfl ?_)
  simp only [NV, reduceIte, Nat.reduceEqDiff, reduceCtorEq, Nat.one_ne_zero, Nat.zero_ne_one]
  rw [EC_cond_false rfl]
  simp only [NV, reduceIte, Nat.reduceEqDiff, reduceCtorEq, Nat.one_ne_zero, Nat.zero_ne_one]
  repeat (first | refine st_ltT rfl rfl rfl rfl rfl rfl (by omega) ?_ | refine st_ltF rfl rfl rfl rfl rfl rfl (by omega) ?_ | refine st_gtT rfl rfl rfl rfl rfl rfl (by omega) ?_ | refine st_gtF rfl rfl rfl rfl rfl rfl (by omega) ?_ | refine st_neqT rfl rfl rfl rfl rfl rfl (by omega) ?_ | refine st_neqF rfl rfl rfl rfl rfl rfl (by omega) ?_ | refine st_add rfl rfl rfl rfl rfl rfl (by omega) ?_ | refine st_I rfl rfl rfl rfl rfl ?_ | refine st_B rfl rfl rfl rfl rfl ?_ | refine st_P rfl rfl rfl rfl rfl ?_ | refine st_off rfl rfl rfl ?_)
  simp only [NV, reduceIte, Nat.reduceEqDiff, reduceCtorEq, Nat.one_ne_zero, Nat.zero_ne_one]
  refine goOn (i + 1) (by show p.eqs.length - (i + 1) < p.eqs.length - i; omega) ⟨rfl, rfl, rfl, by show Value.int .i64 _ = Value.int .i64 _; congr 1, trivial⟩ ⟨fun b hb => (hx5 b (by omega)).trans ((hx4 b (by omega)).trans (hx13 b hb)), by show n + 1 ≤ n5; omega, rfl, by show i + 1 ≤ p.eqs.length; omega, fun i' q' hi' hq' => ?_⟩
  by_cases hij : i' < i
  · exact hqs i' q' hij hq'
  · have : i' = i := by omega
    subst this
    rw [hq] at hq'
    injection hq' with hq'
    subst hq'
    exact ⟨hb3.1 rfl, hqf, hb4.1 rfl⟩
end Go.Proofs.YtokfihhdllmbmaaGreatDoor
namespace Go.Proofs.YtokfihhdllmbmaaGreatDoor
open Go Go.GL
def RV (kr : Nat) (R : List UInt8 → Prop) : Prop := ∀ (j : Nat) {h : HF}, GK.G h → ∀ (n : Nat) (s : List UInt8), R s → VF (cal (kr + j)) 63 [.string ⟨⟨s⟩⟩] h n fun v => ∃ b : Bool, v = .bool b ∧ (b = true ↔ isNum s)
set_option maxHeartbeats 4000000
theorem numbersS_ok (k : Nat) {R : List UInt8 → Prop} (hR : RV (k + 1) R) {h : HF} (hG : GK.G h) {n : Nat} {a : Option Addr} {len cap : Nat} {S : List (List UInt8)} (hs : Sl h n 1 (.slice a len cap) (strs S)) (hS : ∀ s ∈ S, R s) (hb : S.length < 1000000) : VF (cal (k + 2)) 62 [.slice a len cap] h n fun v => ∃ b : Bool, v = .bool b ∧ (b = true ↔ ∀ s ∈ S, isNum s) := by
  refine CF_flat (fn := Tryz.f62) rfl rfl rfl rfl ?_
  have e1 := strs_at hs
  subst e1
  simp only [NV, reduceIte, Nat.reduceEqDiff, reduceCtorEq, Nat.one_ne_zero, Nat.zero_ne_one]
  repeat (first | refine st_ltT rfl rfl rfl rfl rfl rfl (by omega) ?_ | refine st_ltF rfl rfl rfl rfl rfl rfl (by omega) ?_ | refine st_add rfl rfl rfl rfl rfl rfl (by omega) ?_ | refine st_I rfl rfl rfl rfl rfl ?_ | refine st_B rfl rfl rfl rfl rfl ?_ | refine st_S rfl rfl rfl rfl rfl ?_ | refine st_T rfl rfl rfl rfl rfl ?_)
  simp only [NV, reduceIte, Nat.reduceEqDiff, reduceCtorEq, Nat.one_ne_zero, Nat.zero_ne_one]
  repeat (first | refine st_ltT rfl rfl rfl rfl rfl rfl (by omega) ?_ | refine st_ltF rfl rfl rfl rfl rfl rfl (by omega) ?_ | refine st_add rfl rfl rfl rfl rfl rfl (by omega) ?_ | refine st_I rfl rfl rfl rfl rfl ?_ | refine st_B rfl rfl rfl rfl rfl ?_ | refine st_S rfl rfl rfl rfl rfl ?_ | refine st_T rfl rfl rfl rfl rfl ?_)
  simp only [NV, reduceIte, Nat.reduceEqDiff, reduceCtorEq, Nat.one_ne_zero, Nat.zero_ne_one]
  refine EC_for (α := Nat) (fun z => [(0, .slice a S.length cap), (5, .slice a S.length cap), (6, .int .i64 (S.length : Int)), (7, .int .i64 (z : Int))]) (fun z h' n' w' => h = h' ∧ n' = n ∧ w' = [] ∧ z ≤ S.length ∧ ∀ i s, i < z → S[i]? = some s → isNum s) (fun z => S.length - z) 0 ⟨rfl, rfl, rfl, rfl, trivial⟩ ⟨rfl, rfl, rfl, Nat.zero_le _, fun i d hi => absurd hi (Nat.not_lt_zero i)⟩ (by show S.length - 0 < LL; unfold LL; omega) ?_
  rintro z t _ _ _ ⟨rfl, rfl, rfl, hz, hall⟩
  simp only [NV, reduceIte, Nat.reduceEqDiff, reduceCtorEq, Nat.one_ne_zero, Nat.zero_ne_one]
  by_cases hze : z = S.length
  · repeat (first | refine st_ltT rfl rfl rfl rfl rfl rfl (by omega) ?_ | refine st_ltF rfl rfl rfl rfl rfl rfl (by omega) ?_ | refine st_add rfl rfl rfl rfl rfl rfl (by omega) ?_ | refine st_I rfl rfl rfl rfl rfl ?_ | refine st_B rfl rfl rfl rfl rfl ?_ | refine st_S rfl rfl rfl rfl rfl ?_ | refine st_T rfl rfl rfl rfl rfl ?_)
    simp only [NV, reduceIte, Nat.reduceEqDiff, reduceCtorEq, Nat.one_ne_zero, Nat.zero_ne_one]
    rw [EC_cond_false rfl]
    simp only [NV, reduceIte, Nat.reduceEqDiff, reduceCtorEq, Nat.one_ne_zero, Nat.zero_ne_one]
    repeat (first | refine st_ltT rfl rfl rfl rfl rfl rfl (by omega) ?_ | refine st_ltF rfl rfl rfl rfl rfl rfl (by omega) ?_ | refine st_add rfl rfl rfl rfl rfl rfl (by omega) ?_ | refine st_I rfl rfl rfl rfl rfl ?_ | refine st_B rfl rfl rfl rfl rfl ?_ | refine st_S rfl rfl rfl rfl rfl ?_ | refine st_T rfl rfl rfl rfl rfl ?_)
    simp only [NV, reduceIte, Nat.reduceEqDiff, reduceCtorEq, Nat.one_ne_zero, Nat.zero_ne_one]
    refine retF _ rfl (resF_tmp rfl) rfl rfl ⟨true, rfl, fun _ s hs => ?_, fun _ => rfl⟩
    obtain ⟨i, hi, e⟩ := List.getElem_of_mem hs
    exact hall i s (by omega) (by rw [List.getElem?_eq_getElem hi, e])
  obtain ⟨s, hsz⟩ : ∃ s, S[z]? = some s := ⟨S[z]'(by omega), List.getElem?_eq_getElem (by omega)⟩
  have hmem : s ∈ S := List.mem_of_getElem? hsz
  repeat (first | refine st_ltT rfl rfl rfl rfl rfl rfl (by omega) ?_ | refine st_ltF rfl rfl rfl rfl rfl rfl (by omega) ?_ | refine st_add rfl rfl rfl rfl rfl rfl (by omega) ?_ | refine st_I rfl rfl rfl rfl rfl ?_ | refine st_B rfl rfl rfl rfl rfl ?_ | refine st_S rfl rfl rfl rfl rfl ?_ | refine st_T rfl rfl rfl rfl rfl ?_)
  simp only [NV, reduceIte, Nat.reduceEqDiff, reduceCtorEq, Nat.one_ne_zero, Nat.zero_ne_one]
  rw [EC_cond_true rfl]
  simp only [NV, reduceIte, Nat.reduceEqDiff, reduceCtorEq, Nat.one_ne_zero, Nat.zero_ne_one]
  refine st_at (f := fun s => Value.string ⟨⟨s⟩⟩) (j := z) (dv := s) rfl rfl rfl rfl rfl rfl rfl hs rfl rfl hsz (fun _ => rfl) rfl rfl rfl rfl fun _ => ?_
  repeat (first | refine st_ltT rfl rfl rfl rfl rfl rfl (by omega) ?_ | refine st_ltF rfl rfl rfl rfl rfl rfl (by omega) ?_ | refine st_add rfl rfl rfl rfl rfl rfl (by omega) ?_ | refine st_I rfl rfl rfl rfl rfl ?_ | refine st_B rfl rfl rfl rfl rfl ?_ | refine st_S rfl rfl rfl rfl rfl ?_ | refine st_T rfl rfl rfl rfl rfl ?_)
  simp only [NV, reduceIte, Nat.reduceEqDiff, reduceCtorEq, Nat.one_ne_zero, Nat.zero_ne_one]
  (first | refine st_I rfl rfl rfl rfl rfl ?_ | refine st_B rfl rfl rfl rfl rfl ?_ | refine st_S rfl rfl rfl rfl rfl ?_ | refine st_T rfl rfl rfl rfl rfl ?_)
  refine st_vf _ rfl rfl rfl rfl rfl (hR 0 hG _ s (hS s hmem)) ?_
  rintro _ ⟨b, rfl, hb'⟩
  cases b with
  | false =>
    repeat (first | refine st_ltT rfl rfl rfl rfl rfl rfl (by omega) ?_ | refine st_ltF rfl rfl rfl rfl rfl rfl (by omega) ?_ | refine st_add rfl rfl rfl rfl rfl rfl (by omega) ?_ | refine st_I rfl rfl rfl rfl rfl ?_ | refine st_B rfl rfl rfl rfl rfl ?_ | refine st_S rfl rfl rfl rfl rfl ?_ | refine st_T rfl rfl rfl rfl rfl ?_)
    simp only [NV, reduceIte, Nat.reduceEqDiff, reduceCtorEq, Nat.one_ne_zero, Nat.zero_ne_one]
    rw [EC_cond_true rfl]
    simp only [NV, reduceIte, Nat.reduceEqDiff, reduceCtorEq, Nat.one_ne_zero, Nat.zero_ne_one]
    repeat (first | refine st_ltT rfl rfl rfl rfl rfl rfl (by omega) ?_ | refine st_ltF rfl rfl rfl rfl rfl rfl (by omega) ?_ | refine st_add rfl rfl rfl rfl rfl rfl (by omega) ?_ | refine st_I rfl rfl rfl rfl rfl ?_ | refine st_B rfl rfl rfl rfl rfl ?_ | refine st_S rfl rfl rfl rfl rfl ?_ | refine st_T rfl rfl rfl rfl rfl ?_)
    simp only [NV, reduceIte, Nat.reduceEqDiff, reduceCtorEq, Nat.one_ne_zero, Nat.zero_ne_one]
    exact retF _ rfl (resF_tmp rfl) rfl rfl ⟨false, rfl, fun h => absurd h (by simp), fun hV => hb'.2 (hV s hmem)⟩
  | true =>
  repeat (first | refine st_ltT rfl rfl rfl rfl rfl rfl (by omega) ?_ | refine st_ltF rfl rfl rfl rfl rfl rfl (by omega) ?_ | refine st_add rfl rfl rfl rfl rfl rfl (by omega) ?_ | refine st_I rfl rfl rfl rfl rfl ?_ | refine st_B rfl rfl rfl rfl rfl ?_ | refine st_S rfl rfl rfl rfl rfl ?_ | refine st_T rfl rfl rfl rfl rfl ?_)
  simp only [NV, reduceIte, Nat.reduceEqDiff, reduceCtorEq, Nat.one_ne_zero, Nat.zero_ne_one]
  rw [EC_cond_false rfl]
  simp only [NV, reduceIte, Nat.reduceEqDiff, reduceCtorEq, Nat.one_ne_zero, Nat.zero_ne_one]
  repeat (first | refine st_ltT rfl rfl rfl rfl rfl rfl (by omega) ?_ | refine st_ltF rfl rfl rfl rfl rfl rfl (by omega) ?_ | refine st_add rfl rfl rfl rfl rfl rfl (by omega) ?_ | refine st_I rfl rfl rfl rfl rfl ?_ | refine st_B rfl rfl rfl rfl rfl ?_ | refine st_S rfl rfl rfl rfl rfl ?_ | refine st_T rfl rfl rfl rfl rfl ?_)
  simp only [NV, reduceIte, Nat.reduceEqDiff, reduceCtorEq, Nat.one_ne_zero, Nat.zero_ne_one]
  refine goOn (z + 1) (by show S.length - (z + 1) < S.length - z; omega) ⟨rfl, rfl, rfl, by show Value.int .i64 _ = Value.int .i64 _; congr 1, trivial⟩ ⟨rfl, rfl, rfl, by show z + 1 ≤ S.length; omega, fun i s' hi hs' => ?_⟩
  by_cases hij : i < z
  · exact hall i s' hij hs'
  · have : i = z := by omega
    subst this
    rw [hsz] at hs'
    injection hs' with hs'
    subst hs'
    exact hb'.1 rfl
theorem listS_ok (k : Nat) {R : List UInt8 → Prop} (hR : RV (k + 1) R) {h : HF} (hG : GK.G h) {n : Nat} {aE aB : Option Addr} {lE cE lB cB : Nat} {E : List Ent} {B : List Int} (hn : 20 ≤ n) (hE : Sl h n 4 (.slice aE lE cE) (ents E)) (hB : Sl h n 1 (.slice aB lB cB) (i64s B)) (hl : ∀ e ∈ E, R e.v) (hb : E.length < 1000000 ∧ B.length < 1000000) : VF (cal (k + 2)) 61 [.slice aE lE cE, .slice aB lB cB] h n fun v => ∃ b : Bool, v = .bool b ∧ (b = true ↔ ListV B E) := by
  refine CF_flat (fn := Tryz.f61) rfl rfl rfl rfl ?_
  have hlE : lE = E.length := by
    obtain ⟨a', len', cap', e, hl⟩ := hE.len
    injection e with e1 e2 e3
    rw [ents_len] at hl
    omega
  have hlB : lB = B.length := by
    obtain ⟨a', len', cap', e, hl⟩ := hB.len
    injection e with e1 e2 e3
    simp [i64s] at hl
    omega
  subst hlE hlB
  simp only [NV, reduceIte, Nat.reduceEqDiff, reduceCtorEq, Nat.one_ne_zero, Nat.zero_ne_one]
  repeat (first | refine st_ltT rfl rfl rfl rfl rfl rfl (by omega) ?_ | refine st_ltF rfl rfl rfl rfl rfl rfl (by omega) ?_ | refine st_gtT rfl rfl rfl rfl rfl rfl (by omega) ?_ | refine st_gtF rfl rfl rfl rfl rfl rfl (by omega) ?_ | refine st_geT rfl rfl rfl rfl rfl rfl (by omega) ?_ | refine st_geF rfl rfl rfl rfl rfl rfl (by omega) ?_ | refine st_add rfl rfl rfl rfl rfl rfl (by omega) ?_ | refine st_I rfl rfl rfl rfl rfl ?_ | refine st_B rfl rfl rfl rfl rfl ?_ | refine st_S rfl rfl rfl rfl rfl ?_ | refine st_P rfl rfl rfl rfl rfl ?_ | refine st_off rfl rfl rfl ?_)
  simp only [NV, reduceIte, Nat.reduceEqDiff, reduceCtorEq, Nat.one_ne_zero, Nat.zero_ne_one]
  repeat (first | refine st_ltT rfl rfl rfl rfl rfl rfl (by omega) ?_ | refine st_ltF rfl rfl rfl rfl rfl rfl (by omega) ?_ | refine st_gtT rfl rfl rfl rfl rfl rfl (by omega) ?_ | refine st_gtF rfl rfl rfl rfl rfl rfl (by omega) ?_ | refine st_geT rfl rfl rfl rfl rfl rfl (by omega) ?_ | refine st_geF rfl rfl rfl rfl rfl rfl (by omega) ?_ | refine st_add rfl rfl rfl rfl rfl rfl (by omega) ?_ | refine st_I rfl rfl rfl rfl rfl ?_ | refine st_B rfl rfl rfl rfl rfl ?_ | refine st_S rfl rfl rfl rfl rfl ?_ | refine st_P rfl rfl rfl rfl rfl ?_ | refine st_off rfl rfl rfl ?_)
  simp only [NV, reduceIte, Nat.reduceEqDiff, reduceCtorEq, Nat.one_ne_zero, Nat.zero_ne_one]
  refine EC_for (α := Nat) (fun j => [(0, .slice aE E.length cE), (1, .slice aB B.length cB), (7, .slice aE E.length cE), (8, .int .i64 (E.length : Int)), (9, .int .i64 (j : Int))]) (fun j h' n' w => Ext n h h' ∧ n ≤ n' ∧ w = [] ∧ j ≤ E.length ∧ ∀ i e, i < j → E[i]? = some e → EntV B E i e) (fun j => E.length - j) 0 ⟨rfl, rfl, rfl, rfl, rfl, trivial⟩ ⟨Ext.refl _ _, Nat.le_refl _, rfl, Nat.zero_le _, fun i e hi => absurd hi (Nat.not_lt_zero i)⟩ (by show E.length - 0 < LL; unfold LL; omega) ?_
  rintro j t h1 n1 _ ⟨hx1, hn1, rfl, hj, hall⟩
  simp only [NV, reduceIte, Nat.reduceEqDiff, reduceCtorEq, Nat.one_ne_zero, Nat.zero_ne_one]
  by_cases hjE : j = E.length
  · repeat (first | refine st_ltT rfl rfl rfl rfl rfl rfl (by omega) ?_ | refine st_ltF rfl rfl rfl rfl rfl rfl (by omega) ?_ | refine st_gtT rfl rfl rfl rfl rfl rfl (by omega) ?_ | refine st_gtF rfl rfl rfl rfl rfl rfl (by omega) ?_ | refine st_geT rfl rfl rfl rfl rfl rfl (by omega) ?_ | refine st_geF rfl rfl rfl rfl rfl rfl (by omega) ?_ | refine st_add rfl rfl rfl rfl rfl rfl (by omega) ?_ | refine st_I rfl rfl rfl rfl rfl ?_ | refine st_B rfl rfl rfl rfl rfl ?_ | refine st_S rfl rfl rfl rfl rfl ?_ | refine st_P rfl rfl rfl rfl rfl ?_ | refine st_off rfl rfl rfl ?_)
    simp only [NV, reduceIte, Nat.reduceEqDiff, reduceCtorEq, Nat.one_ne_zero, Nat.zero_ne_one]
    rw [EC_cond_false rfl]
    simp only [NV, reduceIte, Nat.reduceEqDiff, reduceCtorEq, Nat.one_ne_zero, Nat.zero_ne_one]
    repeat (first | refine st_ltT rfl rfl rfl rfl rfl rfl (by omega) ?_ | refine st_ltF rfl rfl rfl rfl rfl rfl (by omega) ?_ | refine st_gtT rfl rfl rfl rfl rfl rfl (by omega) ?_ | refine st_gtF rfl rfl rfl rfl rfl rfl (by omega) ?_ | refine st_geT rfl rfl rfl rfl rfl rfl (by omega) ?_ | refine st_geF rfl rfl rfl rfl rfl rfl (by omega) ?_ | refine st_add rfl rfl rfl rfl rfl rfl (by omega) ?_ | refine st_I rfl rfl rfl rfl rfl ?_ | refine st_B rfl rfl rfl rfl rfl ?_ | refine st_S rfl rfl rfl rfl rfl ?_ | refine st_P rfl rfl rfl rfl rfl ?_ | refine st_off rfl rfl rfl ?_)
    simp only [NV, reduceIte, Nat.reduceEqDiff, reduceCtorEq, Nat.one_ne_zero, Nat.zero_ne_one]
    exact retF _ rfl (resF_tmp rfl) rfl rfl ⟨true, rfl, fun _ i e hi => hall i e (by have := (List.getElem?_eq_some_iff.1 hi).1; omega) hi, fun _ => rfl⟩
  obtain ⟨e, he'⟩ : ∃ e, E[j]? = some e := ⟨E[j]'(by omega), List.getElem?_eq_getElem (by omega)⟩
  have hmem : e ∈ E := List.mem_of_getElem? he'
  obtain ⟨bE, oE, xE, csE, rfl, hbE, hxE, hcE, hcapE, hleE, heE⟩ := hE.inv (by omega)
  have hcell : (csE.drop (oE + j * 4)).take 4 = entC e := by rw [take_at heE (by omega), ents_at he']
  have hxE1 : h1 bE = some xE := by rw [hx1 bE hbE]; exact hxE
  repeat (first | refine st_ltT rfl rfl rfl rfl rfl rfl (by omega) ?_ | refine st_ltF rfl rfl rfl rfl rfl rfl (by omega) ?_ | refine st_gtT rfl rfl rfl rfl rfl rfl (by omega) ?_ | refine st_gtF rfl rfl rfl rfl rfl rfl (by omega) ?_ | refine st_geT rfl rfl rfl rfl rfl rfl (by omega) ?_ | refine st_geF rfl rfl rfl rfl rfl rfl (by omega) ?_ | refine st_add rfl rfl rfl rfl rfl rfl (by omega) ?_ | refine st_I rfl rfl rfl rfl rfl ?_ | refine st_B rfl rfl rfl rfl rfl ?_ | refine st_S rfl rfl rfl rfl rfl ?_ | refine st_P rfl rfl rfl rfl rfl ?_ | refine st_off rfl rfl rfl ?_)
  simp only [NV, reduceIte, Nat.reduceEqDiff, reduceCtorEq, Nat.one_ne_zero, Nat.zero_ne_one]
  rw [EC_cond_true rfl]
  simp only [NV, reduceIte, Nat.reduceEqDiff, reduceCtorEq, Nat.one_ne_zero, Nat.zero_ne_one]
  repeat (first | refine st_ltT rfl rfl rfl rfl rfl rfl (by omega) ?_ | refine st_ltF rfl rfl rfl rfl rfl rfl (by omega) ?_ | refine st_gtT rfl rfl rfl rfl rfl rfl (by omega) ?_ | refine st_gtF rfl rfl rfl rfl rfl rfl (by omega) ?_ | refine st_geT rfl rfl rfl rfl rfl rfl (by omega) ?_ | refine st_geF rfl rfl rfl rfl rfl rfl (by omega) ?_ | refine st_add rfl rfl rfl rfl rfl rfl (by omega) ?_ | refine st_I rfl rfl rfl rfl rfl ?_ | refine st_B rfl rfl rfl rfl rfl ?_ | refine st_S rfl rfl rfl rfl rfl ?_ | refine st_P rfl rfl rfl rfl rfl ?_ | refine st_off rfl rfl rfl ?_)
  refine st_idx rfl rfl rfl rfl rfl rfl rfl rfl (by omega) ?_
  refine st_load (v := .agg (entC e).toArray) rfl rfl rfl rfl rfl (loadn_eq rfl rfl hxE1 hcE (by omega) (by rw [← hcell]; congr 2 <;> omega)) ?_
  refine st_alloc rfl rfl rfl rfl rfl ?_
  repeat (first | refine st_ltT rfl rfl rfl rfl rfl rfl (by omega) ?_ | refine st_ltF rfl rfl rfl rfl rfl rfl (by omega) ?_ | refine st_gtT rfl rfl rfl rfl rfl rfl (by omega) ?_ | refine st_gtF rfl rfl rfl rfl rfl rfl (by omega) ?_ | refine st_geT rfl rfl rfl rfl rfl rfl (by omega) ?_ | refine st_geF rfl rfl rfl rfl rfl rfl (by omega) ?_ | refine st_add rfl rfl rfl rfl rfl rfl (by omega) ?_ | refine st_I rfl rfl rfl rfl rfl ?_ | refine st_B rfl rfl rfl rfl rfl ?_ | refine st_S rfl rfl rfl rfl rfl ?_ | refine st_P rfl rfl rfl rfl rfl ?_ | refine st_off rfl rfl rfl ?_)
  refine st_storeW (entC e) rfl rfl rfl rfl rfl rfl rfl rfl (upd_same _ _ _) rfl (by show 3 * n ≤ 3 * n1 + 2; omega) ?_
  rw [upd_upd]
  generalize hh : upd h1 (3 * n1 + 2) _ = h2
  have hp2 : ∃ ty, h2 (3 * n1 + 2) = some (.row (entC e) ty) := ⟨_, by rw [← hh, upd_same]⟩
  obtain ⟨ty2, hp2⟩ := hp2
  have hx2 : Ext n1 h1 h2 := by rw [← hh]; exact Ext.upd (by omega)
  clear hh
  have hxE2 : h2 bE = some xE := by rw [hx2 bE (by omega)]; exact hxE1
  have hG2 : GK.G h2 := G_ext hG (hx1.trans hx2 hn1) hn
  simp only [EC_skip, EO_nil, after_normal, EC_seq]
  refine EC_cutx (α := Bool) (fun z => [(0, .slice (some ⟨bE, oE, none⟩) E.length cE), (1, .slice aB B.length cB), (5, .int .i64 (j : Int)), (6, .pointer (some ⟨3 * n1 + 2, 0, none⟩)), (7, .slice (some ⟨bE, oE, none⟩) E.length cE), (8, .int .i64 (E.length : Int)), (9, .int .i64 (j : Int)), (45, .bool z)]) (fun z h' n' w => h2 = h' ∧ n' = n1 + 1 ∧ w = [] ∧ (z = false ↔ Fits B e)) ?_ ?_
  · rw [EC_quiet rfl]
    by_cases q1 : e.b < 0
    · repeat (first | refine st_load1 rfl rfl rfl rfl rfl rfl hp2 rfl rfl ?_ | refine st_ltT rfl rfl rfl rfl rfl rfl (by omega) ?_ | refine st_ltF rfl rfl rfl rfl rfl rfl (by omega) ?_ | refine st_gtT rfl rfl rfl rfl rfl rfl (by omega) ?_ | refine st_gtF rfl rfl rfl rfl rfl rfl (by omega) ?_ | refine st_geT rfl rfl rfl rfl rfl rfl (by omega) ?_ | refine st_geF rfl rfl rfl rfl rfl rfl (by omega) ?_ | refine st_add rfl rfl rfl rfl rfl rfl (by omega) ?_ | refine st_I rfl rfl rfl rfl rfl ?_ | refine st_B rfl rfl rfl rfl rfl ?_ | refine st_S rfl rfl rfl rfl rfl ?_ | refine st_P rfl rfl rfl rfl rfl ?_ | refine st_off rfl rfl rfl ?_)
      simp only [NV, reduceIte, Nat.reduceEqDiff, reduceCtorEq, Nat.one_ne_zero, Nat.zero_ne_one]
      exact cutx_mk true ⟨rfl, rfl, rfl, rfl, rfl, rfl, rfl, rfl, trivial⟩ ⟨rfl, rfl, rfl, by simp only [Bool.true_eq_false, false_iff]; rintro ⟨⟨g1, g2⟩, g3, g4⟩; omega⟩
    by_cases q2 : (B.length : Int) ≤ e.b
    · repeat (first | refine st_load1 rfl rfl rfl rfl rfl rfl hp2 rfl rfl ?_ | refine st_ltT rfl rfl rfl rfl rfl rfl (by omega) ?_ | refine st_ltF rfl rfl rfl rfl rfl rfl (by omega) ?_ | refine st_gtT rfl rfl rfl rfl rfl rfl (by omega) ?_ | refine st_gtF rfl rfl rfl rfl rfl rfl (by omega) ?_ | refine st_geT rfl rfl rfl rfl rfl rfl (by omega) ?_ | refine st_geF rfl rfl rfl rfl rfl rfl (by omega) ?_ | refine st_add rfl rfl rfl rfl rfl rfl (by omega) ?_ | refine st_I rfl rfl rfl rfl rfl ?_ | refine st_B rfl rfl rfl rfl rfl ?_ | refine st_S rfl rfl rfl rfl rfl ?_ | refine st_P rfl rfl rfl rfl rfl ?_ | refine st_off rfl rfl rfl ?_)
      simp only [NV, reduceIte, Nat.reduceEqDiff, reduceCtorEq, Nat.one_ne_zero, Nat.zero_ne_one]
      exact cutx_mk true ⟨rfl, rfl, rfl, rfl, rfl, rfl, rfl, rfl, trivial⟩ ⟨rfl, rfl, rfl, by simp only [Bool.true_eq_false, false_iff]; rintro ⟨⟨g1, g2⟩, g3, g4⟩; omega⟩
    by_cases q3 : e.r < 0
    · repeat (first | refine st_load1 rfl rfl rfl rfl rfl rfl hp2 rfl rfl ?_ | refine st_ltT rfl rfl rfl rfl rfl rfl (by omega) ?_ | refine st_ltF rfl rfl rfl rfl rfl rfl (by omega) ?_ | refine st_gtT rfl rfl rfl rfl rfl rfl (by omega) ?_ | refine st_gtF rfl rfl rfl rfl rfl rfl (by omega) ?_ | refine st_geT rfl rfl rfl rfl rfl rfl (by omega) ?_ | refine st_geF rfl rfl rfl rfl rfl rfl (by omega) ?_ | refine st_add rfl rfl rfl rfl rfl rfl (by omega) ?_ | refine st_I rfl rfl rfl rfl rfl ?_ | refine st_B rfl rfl rfl rfl rfl ?_ | refine st_S rfl rfl rfl rfl rfl ?_ | refine st_P rfl rfl rfl rfl rfl ?_ | refine st_off rfl rfl rfl ?_)
      simp only [NV, reduceIte, Nat.reduceEqDiff, reduceCtorEq, Nat.one_ne_zero, Nat.zero_ne_one]
      exact cutx_mk true ⟨rfl, rfl, rfl, rfl, rfl, rfl, rfl, rfl, trivial⟩ ⟨rfl, rfl, rfl, by simp only [Bool.true_eq_false, false_iff]; rintro ⟨⟨g1, g2⟩, g3, g4⟩; omega⟩
    by_cases q4 : e.c < e.r
    · repeat (first | refine st_load1 rfl rfl rfl rfl rfl rfl hp2 rfl rfl ?_ | refine st_ltT rfl rfl rfl rfl rfl rfl (by omega) ?_ | refine st_ltF rfl rfl rfl rfl rfl rfl (by omega) ?_ | refine st_gtT rfl rfl rfl rfl rfl rfl (by omega) ?_ | refine st_gtF rfl rfl rfl rfl rfl rfl (by omega) ?_ | refine st_geT rfl rfl rfl rfl rfl rfl (by omega) ?_ | refine st_geF rfl rfl rfl rfl rfl rfl (by omega) ?_ | refine st_add rfl rfl rfl rfl rfl rfl (by omega) ?_ | refine st_I rfl rfl rfl rfl rfl ?_ | refine st_B rfl rfl rfl rfl rfl ?_ | refine st_S rfl rfl rfl rfl rfl ?_ | refine st_P rfl rfl rfl rfl rfl ?_ | refine st_off rfl rfl rfl ?_)
      simp only [NV, reduceIte, Nat.reduceEqDiff, reduceCtorEq, Nat.one_ne_zero, Nat.zero_ne_one]
      exact cutx_mk true ⟨rfl, rfl, rfl, rfl, rfl, rfl, rfl, rfl, trivial⟩ ⟨rfl, rfl, rfl, by simp only [Bool.true_eq_false, false_iff]; rintro ⟨⟨g1, g2⟩, g3, g4⟩; omega⟩
    obtain ⟨bB, oB, xB, csB, rfl, hbB, hxB, hcB, hcapB, hleB, heB⟩ := hB.inv (by omega)
    have hxB2 : h2 bB = some xB := by rw [hx2 bB (by omega), hx1 bB hbB]; exact hxB
    obtain ⟨dd, hdd⟩ : ∃ d, B[e.b.toNat]? = some d := ⟨B[e.b.toNat]'(by omega), List.getElem?_eq_getElem (by omega)⟩
    have hcellB : csB[oB + e.b.toNat]? = some (.int .i64 dd) := cell_at heB (by rw [i64s, List.getElem?_map, hdd]; rfl)
    repeat (first | refine st_load1 rfl rfl rfl rfl rfl rfl hp2 rfl rfl ?_ | refine st_ltT rfl rfl rfl rfl rfl rfl (by omega) ?_ | refine st_ltF rfl rfl rfl rfl rfl rfl (by omega) ?_ | refine st_gtT rfl rfl rfl rfl rfl rfl (by omega) ?_ | refine st_gtF rfl rfl rfl rfl rfl rfl (by omega) ?_ | refine st_geT rfl rfl rfl rfl rfl rfl (by omega) ?_ | refine st_geF rfl rfl rfl rfl rfl rfl (by omega) ?_ | refine st_add rfl rfl rfl rfl rfl rfl (by omega) ?_ | refine st_I rfl rfl rfl rfl rfl ?_ | refine st_B rfl rfl rfl rfl rfl ?_ | refine st_S rfl rfl rfl rfl rfl ?_ | refine st_P rfl rfl rfl rfl rfl ?_ | refine st_off rfl rfl rfl ?_)
    refine st_idx rfl rfl rfl rfl rfl rfl rfl rfl (by omega) ?_
    refine st_load1 rfl rfl rfl rfl rfl rfl hxB2 hcB (v := .int .i64 dd) (by rw [← hcellB]; congr 1; omega) ?_
    by_cases q5 : dd ≤ e.c
    · repeat (first | refine st_load1 rfl rfl rfl rfl rfl rfl hp2 rfl rfl ?_ | refine st_ltT rfl rfl rfl rfl rfl rfl (by omega) ?_ | refine st_ltF rfl rfl rfl rfl rfl rfl (by omega) ?_ | refine st_gtT rfl rfl rfl rfl rfl rfl (by omega) ?_ | refine st_gtF rfl rfl rfl rfl rfl rfl (by omega) ?_ | refine st_geT rfl rfl rfl rfl rfl rfl (by omega) ?_ | refine st_geF rfl rfl rfl rfl rfl rfl (by omega) ?_ | refine st_add rfl rfl rfl rfl rfl rfl (by omega) ?_ | refine st_I rfl rfl rfl rfl rfl ?_ | refine st_B rfl rfl rfl rfl rfl ?_ | refine st_S rfl rfl rfl rfl rfl ?_ | refine st_P rfl rfl rfl rfl rfl ?_ | refine st_off rfl rfl rfl ?_)
      simp only [NV, reduceIte, Nat.reduceEqDiff, reduceCtorEq, Nat.one_ne_zero, Nat.zero_ne_one]
      exact cutx_mk true ⟨rfl, rfl, rfl, rfl, rfl, rfl, rfl, rfl, trivial⟩ ⟨rfl, rfl, rfl, by simp only [Bool.true_eq_false, false_iff]; rintro ⟨⟨g1, g2⟩, g3, g4⟩; have := g4 dd hdd; omega⟩
    · repeat (first | refine st_load1 rfl rfl rfl rfl rfl rfl hp2 rfl rfl ?_ | refine st_ltT rfl rfl rfl rfl rfl rfl (by omega) ?_ | refine st_ltF rfl rfl rfl rfl rfl rfl (by omega) ?_ | refine st_gtT rfl rfl rfl rfl rfl rfl (by omega) ?_ | refine st_gtF rfl rfl rfl rfl rfl rfl (by omega) ?_ | refine st_geT rfl rfl rfl rfl rfl rfl (by omega) ?_ | refine st_geF rfl rfl rfl rfl rfl rfl (by omega) ?_ | refine st_add rfl rfl rfl rfl rfl rfl (by omega) ?_ | refine st_I rfl rfl rfl rfl rfl ?_ | refine st_B rfl rfl rfl rfl rfl ?_ | refine st_S rfl rfl rfl rfl rfl ?_ | refine st_P rfl rfl rfl rfl rfl ?_ | refine st_off rfl rfl rfl ?_)
      simp only [NV, reduceIte, Nat.reduceEqDiff, reduceCtorEq, Nat.one_ne_zero, Nat.zero_ne_one]
      exact cutx_mk false ⟨rfl, rfl, rfl, rfl, rfl, rfl, rfl, rfl, trivial⟩ ⟨rfl, rfl, rfl, fun _ => ⟨by omega, by omega, fun d hd => by rw [hdd] at hd; injection hd with hd; omega⟩, fun _ => rfl⟩
  rintro z t _ _ _ ⟨rfl, rfl, rfl, hz⟩
  cases z with
  | true =>
    rw [EC_cond_true rfl]
    simp only [NV, reduceIte, Nat.reduceEqDiff, reduceCtorEq, Nat.one_ne_zero, Nat.zero_ne_one]
    repeat (first | refine st_ltT rfl rfl rfl rfl rfl rfl (by omega) ?_ | refine st_ltF rfl rfl rfl rfl rfl rfl (by omega) ?_ | refine st_gtT rfl rfl rfl rfl rfl rfl (by omega) ?_ | refine st_gtF rfl rfl rfl rfl rfl rfl (by omega) ?_ | refine st_geT rfl rfl rfl rfl rfl rfl (by omega) ?_ | refine st_geF rfl rfl rfl rfl rfl rfl (by omega) ?_ | refine st_add rfl rfl rfl rfl rfl rfl (by omega) ?_ | refine st_I rfl rfl rfl rfl rfl ?_ | refine st_B rfl rfl rfl rfl rfl ?_ | refine st_S rfl rfl rfl rfl rfl ?_ | refine st_P rfl rfl rfl rfl rfl ?_ | refine st_off rfl rfl rfl ?_)
    simp only [NV, reduceIte, Nat.reduceEqDiff, reduceCtorEq, Nat.one_ne_zero, Nat.zero_ne_one]
    exact retF _ rfl (resF_tmp rfl) rfl rfl ⟨false, rfl, fun h => absurd h (by simp), fun hV => absurd (hz.2 (hV j e he').1) (by simp)⟩
  | false =>
  rw [EC_cond_false rfl]
  simp only [EC_skip, EO_nil, after_normal, EC_seq]
  have hfits := hz.1 rfl
  refine EC_cutx (α := Bool) (fun z => [(0, .slice (some ⟨bE, oE, none⟩) E.length cE), (1, .slice aB B.length cB), (7, .slice (some ⟨bE, oE, none⟩) E.length cE), (8, .int .i64 (E.length : Int)), (9, .int .i64 (j : Int)), (68, .bool z)]) (fun z h' n' w => h2 = h' ∧ n' = n1 + 1 ∧ w = [] ∧ (z = false ↔ (∀ f, 0 < j → E[j - 1]? = some f → ltE f e) ∧ isNum e.v ∧ e.v ≠ [48])) ?_ ?_
  · refine EC_draw [0, 1, 3, 7, 7, 23, 63, 127, 7, 511, 1023, 2047, 4095, 8191, 16383, 32767, 65535, 131071, 262143, 524287, 1048575, 2097151, 4194303] rfl ?_
    by_cases hj0 : j = 0
    · skip
      repeat (first | refine dr_gtT rfl rfl rfl rfl rfl rfl (by omega) ?_ | refine dr_gtF rfl rfl rfl rfl rfl rfl (by omega) ?_ | refine dr_sub rfl rfl rfl rfl rfl rfl (by omega) ?_ | refine dr_I rfl rfl rfl rfl rfl ?_ | refine dr_B rfl rfl rfl rfl rfl ?_ | refine dr_S rfl rfl rfl rfl rfl ?_ | refine dr_P rfl rfl rfl rfl rfl ?_ | refine dr_off rfl rfl rfl ?_)
      refine dr_load rfl rfl rfl rfl rfl rfl (load1_eq rfl hp2 rfl (v := .string ⟨⟨e.v⟩⟩) rfl) rfl rfl ?_
      refine dr_vf _ rfl rfl rfl rfl rfl rfl rfl (hR 0 hG2 _ e.v (hl e hmem)) ?_
      rintro _ ⟨b, rfl, hb'⟩
      cases b with
      | false =>
        repeat (first | refine dr_gtT rfl rfl rfl rfl rfl rfl (by omega) ?_ | refine dr_gtF rfl rfl rfl rfl rfl rfl (by omega) ?_ | refine dr_sub rfl rfl rfl rfl rfl rfl (by omega) ?_ | refine dr_I rfl rfl rfl rfl rfl ?_ | refine dr_B rfl rfl rfl rfl rfl ?_ | refine dr_S rfl rfl rfl rfl rfl ?_ | refine dr_P rfl rfl rfl rfl rfl ?_ | refine dr_off rfl rfl rfl ?_)
        simp only [NV, reduceIte, Nat.reduceEqDiff, reduceCtorEq, Nat.one_ne_zero, Nat.zero_ne_one]
        exact cutx_mk true ⟨rfl, rfl, rfl, rfl, rfl, rfl, trivial⟩ ⟨rfl, rfl, rfl, by simp only [Bool.true_eq_false, false_iff]; rintro ⟨_, g2, _⟩; exact absurd (hb'.2 g2) (by simp)⟩
      | true =>
      repeat (first | refine dr_gtT rfl rfl rfl rfl rfl rfl (by omega) ?_ | refine dr_gtF rfl rfl rfl rfl rfl rfl (by omega) ?_ | refine dr_sub rfl rfl rfl rfl rfl rfl (by omega) ?_ | refine dr_I rfl rfl rfl rfl rfl ?_ | refine dr_B rfl rfl rfl rfl rfl ?_ | refine dr_S rfl rfl rfl rfl rfl ?_ | refine dr_P rfl rfl rfl rfl rfl ?_ | refine dr_off rfl rfl rfl ?_)
      refine dr_load rfl rfl rfl rfl rfl rfl (load1_eq rfl hp2 rfl (v := .string ⟨⟨e.v⟩⟩) rfl) (okEffsF_nil (by simp)) rfl ?_
      by_cases h48 : e.v = [48]
      · refine dr_val (v := .bool true) rfl rfl rfl rfl (by show some (Value.bool (e.v == [48])) = _; rw [h48]; rfl) ?_
        repeat (first | refine dr_gtT rfl rfl rfl rfl rfl rfl (by omega) ?_ | refine dr_gtF rfl rfl rfl rfl rfl rfl (by omega) ?_ | refine dr_sub rfl rfl rfl rfl rfl rfl (by omega) ?_ | refine dr_I rfl rfl rfl rfl rfl ?_ | refine dr_B rfl rfl rfl rfl rfl ?_ | refine dr_S rfl rfl rfl rfl rfl ?_ | refine dr_P rfl rfl rfl rfl rfl ?_ | refine dr_off rfl rfl rfl ?_)
        simp only [NV, reduceIte, Nat.reduceEqDiff, reduceCtorEq, Nat.one_ne_zero, Nat.zero_ne_one]
        exact cutx_mk true ⟨rfl, rfl, rfl, rfl, rfl, rfl, trivial⟩ ⟨rfl, rfl, rfl, by simp only [Bool.true_eq_false, false_iff]; rintro ⟨_, _, g3⟩; exact g3 h48⟩
      · refine dr_val (v := .bool false) rfl rfl rfl rfl (by show some (Value.bool (e.v == [48])) = _; rw [show (e.v == [48]) = false from by simpa using h48]) ?_
        repeat (first | refine dr_gtT rfl rfl rfl rfl rfl rfl (by omega) ?_ | refine dr_gtF rfl rfl rfl rfl rfl rfl (by omega) ?_ | refine dr_sub rfl rfl rfl rfl rfl rfl (by omega) ?_ | refine dr_I rfl rfl rfl rfl rfl ?_ | refine dr_B rfl rfl rfl rfl rfl ?_ | refine dr_S rfl rfl rfl rfl rfl ?_ | refine dr_P rfl rfl rfl rfl rfl ?_ | refine dr_off rfl rfl rfl ?_)
        simp only [NV, reduceIte, Nat.reduceEqDiff, reduceCtorEq, Nat.one_ne_zero, Nat.zero_ne_one]
        exact cutx_mk false ⟨rfl, rfl, rfl, rfl, rfl, rfl, trivial⟩ ⟨rfl, rfl, rfl, fun _ => ⟨fun f h0 => by omega, hb'.1 rfl, h48⟩, fun _ => rfl⟩
    obtain ⟨f, hf'⟩ : ∃ f, E[j - 1]? = some f := ⟨E[j - 1]'(by omega), List.getElem?_eq_getElem (by omega)⟩
    have hcellf : (csE.drop (oE + (j - 1) * 4)).take 4 = entC f := by rw [take_at heE (by omega), ents_at hf']
    repeat (first | refine dr_gtT rfl rfl rfl rfl rfl rfl (by omega) ?_ | refine dr_gtF rfl rfl rfl rfl rfl rfl (by omega) ?_ | refine dr_sub rfl rfl rfl rfl rfl rfl (by omega) ?_ | refine dr_I rfl rfl rfl rfl rfl ?_ | refine dr_B rfl rfl rfl rfl rfl ?_ | refine dr_S rfl rfl rfl rfl rfl ?_ | refine dr_P rfl rfl rfl rfl rfl ?_ | refine dr_off rfl rfl rfl ?_)
    refine dr_idx rfl rfl rfl rfl rfl rfl rfl rfl (by omega) ?_
    refine dr_load (v := .agg (entC f).toArray) rfl rfl rfl rfl rfl rfl (loadn_eq rfl rfl hxE2 hcE (by omega) (by rw [← hcellf]; congr 2 <;> omega)) rfl rfl ?_
    refine dr_load (v := .agg (entC e).toArray) rfl rfl rfl rfl rfl rfl (loadn_eq rfl rfl hp2 rfl (Nat.le_of_ble_eq_true rfl) rfl) rfl rfl ?_
    refine dr_vf _ rfl rfl rfl rfl rfl rfl rfl (ascending_ok k h2 (n1 + 1) f e) ?_
    rintro _ ⟨ba, rfl, hba⟩
    cases ba with
    | false =>
      repeat (first | refine dr_gtT rfl rfl rfl rfl rfl rfl (by omega) ?_ | refine dr_gtF rfl rfl rfl rfl rfl rfl (by omega) ?_ | refine dr_sub rfl rfl rfl rfl rfl rfl (by omega) ?_ | refine dr_I rfl rfl rfl rfl rfl ?_ | refine dr_B rfl rfl rfl rfl rfl ?_ | refine dr_S rfl rfl rfl rfl rfl ?_ | refine dr_P rfl rfl rfl rfl rfl ?_ | refine dr_off rfl rfl rfl ?_)
      simp only [NV, reduceIte, Nat.reduceEqDiff, reduceCtorEq, Nat.one_ne_zero, Nat.zero_ne_one]
      exact cutx_mk true ⟨rfl, rfl, rfl, rfl, rfl, rfl, trivial⟩ ⟨rfl, rfl, rfl, by simp only [Bool.true_eq_false, false_iff]; rintro ⟨g1, _, _⟩; exact absurd (hba.2 (g1 f (by omega) hf')) (by simp)⟩
    | true =>
    repeat (first | refine dr_gtT rfl rfl rfl rfl rfl rfl (by omega) ?_ | refine dr_gtF rfl rfl rfl rfl rfl rfl (by omega) ?_ | refine dr_sub rfl rfl rfl rfl rfl rfl (by omega) ?_ | refine dr_I rfl rfl rfl rfl rfl ?_ | refine dr_B rfl rfl rfl rfl rfl ?_ | refine dr_S rfl rfl rfl rfl rfl ?_ | refine dr_P rfl rfl rfl rfl rfl ?_ | refine dr_off rfl rfl rfl ?_)
    refine dr_load rfl rfl rfl rfl rfl rfl (load1_eq rfl hp2 rfl (v := .string ⟨⟨e.v⟩⟩) rfl) (okEffsF_nil (by simp)) rfl ?_
    refine dr_vf _ rfl rfl rfl rfl rfl rfl rfl (hR 0 hG2 _ e.v (hl e hmem)) ?_
    rintro _ ⟨b, rfl, hb'⟩
    cases b with
    | false =>
      repeat (first | refine dr_gtT rfl rfl rfl rfl rfl rfl (by omega) ?_ | refine dr_gtF rfl rfl rfl rfl rfl rfl (by omega) ?_ | refine dr_sub rfl rfl rfl rfl rfl rfl (by omega) ?_ | refine dr_I rfl rfl rfl rfl rfl ?_ | refine dr_B rfl rfl rfl rfl rfl ?_ | refine dr_S rfl rfl rfl rfl rfl ?_ | refine dr_P rfl rfl rfl rfl rfl ?_ | refine dr_off rfl rfl rfl ?_)
      simp only [NV, reduceIte, Nat.reduceEqDiff, reduceCtorEq, Nat.one_ne_zero, Nat.zero_ne_one]
      exact cutx_mk true ⟨rfl, rfl, rfl, rfl, rfl, rfl, trivial⟩ ⟨rfl, rfl, rfl, by simp only [Bool.true_eq_false, false_iff]; rintro ⟨_, g2, _⟩; exact absurd (hb'.2 g2) (by simp)⟩
    | true =>
    repeat (first | refine dr_gtT rfl rfl rfl rfl rfl rfl (by omega) ?_ | refine dr_gtF rfl rfl rfl rfl rfl rfl (by omega) ?_ | refine dr_sub rfl rfl rfl rfl rfl rfl (by omega) ?_ | refine dr_I rfl rfl rfl rfl rfl ?_ | refine dr_B rfl rfl rfl rfl rfl ?_ | refine dr_S rfl rfl rfl rfl rfl ?_ | refine dr_P rfl rfl rfl rfl rfl ?_ | refine dr_off rfl rfl rfl ?_)
    refine dr_load rfl rfl rfl rfl rfl rfl (load1_eq rfl hp2 rfl (v := .string ⟨⟨e.v⟩⟩) rfl) (okEffsF_nil (by simp)) rfl ?_
    by_cases h48 : e.v = [48]
    · refine dr_val (v := .bool true) rfl rfl rfl rfl (by show some (Value.bool (e.v == [48])) = _; rw [h48]; rfl) ?_
      repeat (first | refine dr_gtT rfl rfl rfl rfl rfl rfl (by omega) ?_ | refine dr_gtF rfl rfl rfl rfl rfl rfl (by omega) ?_ | refine dr_sub rfl rfl rfl rfl rfl rfl (by omega) ?_ | refine dr_I rfl rfl rfl rfl rfl ?_ | refine dr_B rfl rfl rfl rfl rfl ?_ | refine dr_S rfl rfl rfl rfl rfl ?_ | refine dr_P rfl rfl rfl rfl rfl ?_ | refine dr_off rfl rfl rfl ?_)
      simp only [NV, reduceIte, Nat.reduceEqDiff, reduceCtorEq, Nat.one_ne_zero, Nat.zero_ne_one]
      exact cutx_mk true ⟨rfl, rfl, rfl, rfl, rfl, rfl, trivial⟩ ⟨rfl, rfl, rfl, by simp only [Bool.true_eq_false, false_iff]; rintro ⟨_, _, g3⟩; exact g3 h48⟩
    · refine dr_val (v := .bool false) rfl rfl rfl rfl (by show some (Value.bool (e.v == [48])) = _; rw [show (e.v == [48]) = false from by simpa using h48]) ?_
      repeat (first | refine dr_gtT rfl rfl rfl rfl rfl rfl (by omega) ?_ | refine dr_gtF rfl rfl rfl rfl rfl rfl (by omega) ?_ | refine dr_sub rfl rfl rfl rfl rfl rfl (by omega) ?_ | refine dr_I rfl rfl rfl rfl rfl ?_ | refine dr_B rfl rfl rfl rfl rfl ?_ | refine dr_S rfl rfl rfl rfl rfl ?_ | refine dr_P rfl rfl rfl rfl rfl ?_ | refine dr_off rfl rfl rfl ?_)
      simp only [NV, reduceIte, Nat.reduceEqDiff, reduceCtorEq, Nat.one_ne_zero, Nat.zero_ne_one]
      exact cutx_mk false ⟨rfl, rfl, rfl, rfl, rfl, rfl, trivial⟩ ⟨rfl, rfl, rfl, fun _ => ⟨fun f' _ hf2 => by rw [hf'] at hf2; injection hf2 with hf2; subst hf2; exact hba.1 rfl, hb'.1 rfl, h48⟩, fun _ => rfl⟩
  rintro z t _ _ _ ⟨rfl, rfl, rfl, hz2⟩
  cases z with
  | true =>
    rw [EC_cond_true rfl]
    simp only [NV, reduceIte, Nat.reduceEqDiff, reduceCtorEq, Nat.one_ne_zero, Nat.zero_ne_one]
    repeat (first | refine st_ltT rfl rfl rfl rfl rfl rfl (by omega) ?_ | refine st_ltF rfl rfl rfl rfl rfl rfl (by omega) ?_ | refine st_gtT rfl rfl rfl rfl rfl rfl (by omega) ?_ | refine st_gtF rfl rfl rfl rfl rfl rfl (by omega) ?_ | refine st_geT rfl rfl rfl rfl rfl rfl (by omega) ?_ | refine st_geF rfl rfl rfl rfl rfl rfl (by omega) ?_ | refine st_add rfl rfl rfl rfl rfl rfl (by omega) ?_ | refine st_I rfl rfl rfl rfl rfl ?_ | refine st_B rfl rfl rfl rfl rfl ?_ | refine st_S rfl rfl rfl rfl rfl ?_ | refine st_P rfl rfl rfl rfl rfl ?_ | refine st_off rfl rfl rfl ?_)
    simp only [NV, reduceIte, Nat.reduceEqDiff, reduceCtorEq, Nat.one_ne_zero, Nat.zero_ne_one]
    exact retF _ rfl (resF_tmp rfl) rfl rfl ⟨false, rfl, fun h => absurd h (by simp), fun hV => absurd (hz2.2 (hV j e he').2) (by simp)⟩
  | false =>
  rw [EC_cond_false rfl]
  simp only [NV, reduceIte, Nat.reduceEqDiff, reduceCtorEq, Nat.one_ne_zero, Nat.zero_ne_one]
  repeat (first | refine st_ltT rfl rfl rfl rfl rfl rfl (by omega) ?_ | refine st_ltF rfl rfl rfl rfl rfl rfl (by omega) ?_ | refine st_gtT rfl rfl rfl rfl rfl rfl (by omega) ?_ | refine st_gtF rfl rfl rfl rfl rfl rfl (by omega) ?_ | refine st_geT rfl rfl rfl rfl rfl rfl (by omega) ?_ | refine st_geF rfl rfl rfl rfl rfl rfl (by omega) ?_ | refine st_add rfl rfl rfl rfl rfl rfl (by omega) ?_ | refine st_I rfl rfl rfl rfl rfl ?_ | refine st_B rfl rfl rfl rfl rfl ?_ | refine st_S rfl rfl rfl rfl rfl ?_ | refine st_P rfl rfl rfl rfl rfl ?_ | refine st_off rfl rfl rfl ?_)
  simp only [NV, reduceIte, Nat.reduceEqDiff, reduceCtorEq, Nat.one_ne_zero, Nat.zero_ne_one]
  refine goOn (j + 1) (by show E.length - (j + 1) < E.length - j; omega) ⟨rfl, rfl, rfl, rfl, by show Value.int .i64 _ = Value.int .i64 _; congr 1, trivial⟩ ⟨hx1.trans hx2 hn1, by show n ≤ n1 + 1; omega, rfl, by show j + 1 ≤ E.length; omega, fun i e' hi he2 => ?_⟩
  by_cases hij : i < j
  · exact hall i e' hij he2
  · have : i = j := by omega
    subst this
    rw [he'] at he2
    injection he2 with he2
    subst he2
    exact ⟨hfits, hz2.1 rfl⟩
end Go.Proofs.YtokfihhdllmbmaaGreatDoor
namespace Go.Proofs.YtokfihhdllmbmaaGreatDoor
open Go Go.GL
structure SdpStr (R : List UInt8 → Prop) (p : Sdp) : Prop where
  obj : ∀ e ∈ p.obj, R e.v
  objFree : ∀ s ∈ p.objFree, R s
  eqs : ∀ q ∈ p.eqs, (∀ e ∈ q.es, R e.v) ∧ ∀ s ∈ q.rhs :: q.fr, R s
set_option maxHeartbeats 4000000
theorem sdpValid_ok (k : Nat) {R : List UInt8 → Prop} (hR : RV (k + 1) R) {h : HF} (hG : GK.G h) {n : Nat} (hn : 20 ≤ n) {vB vO vF vE : Value} {p : Sdp} {fr : Int} (hp : SdpR h n vB vO vF vE p) (hok : SdpB p) (hsR : SdpStr R p) : VF (cal (k + 3)) 15 [.agg #[vB, .int .i64 fr, vO, vF, vE]] h n fun v => ∃ b : Bool, v = .bool b ∧ (b = true ↔ SdpV p fr) := by
  refine CF_flat (fn := Tryz.f15) rfl rfl rfl rfl ?_
  obtain ⟨hB, hO, hFr, ce, hE, hEq⟩ := hp
  obtain ⟨aB, lB, cB, rfl, _⟩ := hB.len
  obtain ⟨aO, lO, cO, rfl, _⟩ := hO.len
  obtain ⟨aF, lF, cF, rfl, _⟩ := hFr.len
  obtain ⟨aE, lE, cE, rfl, _⟩ := hE.len
  have hlB := hB.lenEq (m := p.blocks.length) (by omega) (by simp [i64s])
  have hlO := hO.lenEq (m := p.obj.length) (by omega) (ents_len _)
  have hlF := hFr.lenEq (m := p.objFree.length) (by omega) (by simp [strs])
  have hlE := hE.lenEq (m := p.eqs.length) (by omega) hEq.len
  subst hlB hlO hlF hlE
  have hbl := hok.bl
  have hol := hok.ol
  have hfl := hok.fl
  have heql := hok.el
  simp only [NV, reduceIte, Nat.reduceEqDiff, reduceCtorEq, Nat.one_ne_zero, Nat.zero_ne_one]
  refine st_mkp (cs := [.slice aB p.blocks.length cB, .int .i64 fr, .slice aO p.obj.length cO, .slice aF p.objFree.length cF, .slice aE p.eqs.length cE]) rfl rfl rfl rfl rfl ?_
  generalize hh : upd h (3 * n + 2) _ = h1
  have hx1 : Ext n h h1 := by rw [← hh]; exact Ext.upd (by omega)
  have hr1 : ∃ ty, h1 (3 * n + 2) = some (.row [.slice aB p.blocks.length cB, .int .i64 fr, .slice aO p.obj.length cO, .slice aF p.objFree.length cF, .slice aE p.eqs.length cE] ty) := ⟨_, by rw [← hh, upd_same]⟩
  obtain ⟨ty1, hr1⟩ := hr1
  clear hh
  have hG1 : GK.G h1 := G_ext hG hx1 hn
  repeat (first | refine st_ltT rfl rfl rfl rfl rfl rfl (by omega) ?_ | refine st_ltF rfl rfl rfl rfl rfl rfl (by omega) ?_ | refine st_gtT rfl rfl rfl rfl rfl rfl (by omega) ?_ | refine st_gtF rfl rfl rfl rfl rfl rfl (by omega) ?_ | refine st_neqT rfl rfl rfl rfl rfl rfl (by omega) ?_ | refine st_neqF rfl rfl rfl rfl rfl rfl (by omega) ?_ | refine st_add rfl rfl rfl rfl rfl rfl (by omega) ?_ | refine st_I rfl rfl rfl rfl rfl ?_ | refine st_B rfl rfl rfl rfl rfl ?_ | refine st_P rfl rfl rfl rfl rfl ?_ | refine st_off rfl rfl rfl ?_)
  simp only [EC_skip, EO_nil, after_normal, EC_seq]
  refine EC_cutx (α := Bool) (fun z => [(1, .pointer (some ⟨3 * n + 2, 0, none⟩)), (32, .bool z)]) (fun z h' n' w => h1 = h' ∧ n' = n + 1 ∧ w = [] ∧ (z = false ↔ (1 ≤ p.blocks.length ∧ p.blocks.length ≤ 64) ∧ (0 ≤ fr ∧ fr ≤ 512) ∧ p.eqs.length ≤ 512)) ?_ ?_
  · simp only [NV, reduceIte, Nat.reduceEqDiff, reduceCtorEq, Nat.one_ne_zero, Nat.zero_ne_one]
    by_cases q1 : p.blocks.length < 1
    · repeat (first | refine st_load1 rfl rfl rfl rfl rfl rfl hr1 rfl rfl ?_ | refine st_ltT rfl rfl rfl rfl rfl rfl (by omega) ?_ | refine st_ltF rfl rfl rfl rfl rfl rfl (by omega) ?_ | refine st_gtT rfl rfl rfl rfl rfl rfl (by omega) ?_ | refine st_gtF rfl rfl rfl rfl rfl rfl (by omega) ?_ | refine st_neqT rfl rfl rfl rfl rfl rfl (by omega) ?_ | refine st_neqF rfl rfl rfl rfl rfl rfl (by omega) ?_ | refine st_add rfl rfl rfl rfl rfl rfl (by omega) ?_ | refine st_I rfl rfl rfl rfl rfl ?_ | refine st_B rfl rfl rfl rfl rfl ?_ | refine st_P rfl rfl rfl rfl rfl ?_ | refine st_off rfl rfl rfl ?_)
      simp only [NV, reduceIte, Nat.reduceEqDiff, reduceCtorEq, Nat.one_ne_zero, Nat.zero_ne_one]
      exact cutx_mk true ⟨rfl, rfl, trivial⟩ ⟨rfl, rfl, rfl, by simp only [Bool.true_eq_false, false_iff]; omega⟩
    by_cases q2 : 64 < p.blocks.length
    · repeat (first | refine st_load1 rfl rfl rfl rfl rfl rfl hr1 rfl rfl ?_ | refine st_ltT rfl rfl rfl rfl rfl rfl (by omega) ?_ | refine st_ltF rfl rfl rfl rfl rfl rfl (by omega) ?_ | refine st_gtT rfl rfl rfl rfl rfl rfl (by omega) ?_ | refine st_gtF rfl rfl rfl rfl rfl rfl (by omega) ?_ | refine st_neqT rfl rfl rfl rfl rfl rfl (by omega) ?_ | refine st_neqF rfl rfl rfl rfl rfl rfl (by omega) ?_ | refine st_add rfl rfl rfl rfl rfl rfl (by omega) ?_ | refine st_I rfl rfl rfl rfl rfl ?_ | refine st_B rfl rfl rfl rfl rfl ?_ | refine st_P rfl rfl rfl rfl rfl ?_ | refine st_off rfl rfl rfl ?_)
      simp only [NV, reduceIte, Nat.reduceEqDiff, reduceCtorEq, Nat.one_ne_zero, Nat.zero_ne_one]
      exact cutx_mk true ⟨rfl, rfl, trivial⟩ ⟨rfl, rfl, rfl, by simp only [Bool.true_eq_false, false_iff]; omega⟩
    by_cases q3 : fr < 0
    · repeat (first | refine st_load1 rfl rfl rfl rfl rfl rfl hr1 rfl rfl ?_ | refine st_ltT rfl rfl rfl rfl rfl rfl (by omega) ?_ | refine st_ltF rfl rfl rfl rfl rfl rfl (by omega) ?_ | refine st_gtT rfl rfl rfl rfl rfl rfl (by omega) ?_ | refine st_gtF rfl rfl rfl rfl rfl rfl (by omega) ?_ | refine st_neqT rfl rfl rfl rfl rfl rfl (by omega) ?_ | refine st_neqF rfl rfl rfl rfl rfl rfl (by omega) ?_ | refine st_add rfl rfl rfl rfl rfl rfl (by omega) ?_ | refine st_I rfl rfl rfl rfl rfl ?_ | refine st_B rfl rfl rfl rfl rfl ?_ | refine st_P rfl rfl rfl rfl rfl ?_ | refine st_off rfl rfl rfl ?_)
      simp only [NV, reduceIte, Nat.reduceEqDiff, reduceCtorEq, Nat.one_ne_zero, Nat.zero_ne_one]
      exact cutx_mk true ⟨rfl, rfl, trivial⟩ ⟨rfl, rfl, rfl, by simp only [Bool.true_eq_false, false_iff]; omega⟩
    by_cases q4 : 512 < fr
    · repeat (first | refine st_load1 rfl rfl rfl rfl rfl rfl hr1 rfl rfl ?_ | refine st_ltT rfl rfl rfl rfl rfl rfl (by omega) ?_ | refine st_ltF rfl rfl rfl rfl rfl rfl (by omega) ?_ | refine st_gtT rfl rfl rfl rfl rfl rfl (by omega) ?_ | refine st_gtF rfl rfl rfl rfl rfl rfl (by omega) ?_ | refine st_neqT rfl rfl rfl rfl rfl rfl (by omega) ?_ | refine st_neqF rfl rfl rfl rfl rfl rfl (by omega) ?_ | refine st_add rfl rfl rfl rfl rfl rfl (by omega) ?_ | refine st_I rfl rfl rfl rfl rfl ?_ | refine st_B rfl rfl rfl rfl rfl ?_ | refine st_P rfl rfl rfl rfl rfl ?_ | refine st_off rfl rfl rfl ?_)
      simp only [NV, reduceIte, Nat.reduceEqDiff, reduceCtorEq, Nat.one_ne_zero, Nat.zero_ne_one]
      exact cutx_mk true ⟨rfl, rfl, trivial⟩ ⟨rfl, rfl, rfl, by simp only [Bool.true_eq_false, false_iff]; omega⟩
    by_cases q5 : 512 < p.eqs.length
    · repeat (first | refine st_load1 rfl rfl rfl rfl rfl rfl hr1 rfl rfl ?_ | refine st_ltT rfl rfl rfl rfl rfl rfl (by omega) ?_ | refine st_ltF rfl rfl rfl rfl rfl rfl (by omega) ?_ | refine st_gtT rfl rfl rfl rfl rfl rfl (by omega) ?_ | refine st_gtF rfl rfl rfl rfl rfl rfl (by omega) ?_ | refine st_neqT rfl rfl rfl rfl rfl rfl (by omega) ?_ | refine st_neqF rfl rfl rfl rfl rfl rfl (by omega) ?_ | refine st_add rfl rfl rfl rfl rfl rfl (by omega) ?_ | refine st_I rfl rfl rfl rfl rfl ?_ | refine st_B rfl rfl rfl rfl rfl ?_ | refine st_P rfl rfl rfl rfl rfl ?_ | refine st_off rfl rfl rfl ?_)
      simp only [NV, reduceIte, Nat.reduceEqDiff, reduceCtorEq, Nat.one_ne_zero, Nat.zero_ne_one]
      exact cutx_mk true ⟨rfl, rfl, trivial⟩ ⟨rfl, rfl, rfl, by simp only [Bool.true_eq_false, false_iff]; omega⟩
    · repeat (first | refine st_load1 rfl rfl rfl rfl rfl rfl hr1 rfl rfl ?_ | refine st_ltT rfl rfl rfl rfl rfl rfl (by omega) ?_ | refine st_ltF rfl rfl rfl rfl rfl rfl (by omega) ?_ | refine st_gtT rfl rfl rfl rfl rfl rfl (by omega) ?_ | refine st_gtF rfl rfl rfl rfl rfl rfl (by omega) ?_ | refine st_neqT rfl rfl rfl rfl rfl rfl (by omega) ?_ | refine st_neqF rfl rfl rfl rfl rfl rfl (by omega) ?_ | refine st_add rfl rfl rfl rfl rfl rfl (by omega) ?_ | refine st_I rfl rfl rfl rfl rfl ?_ | refine st_B rfl rfl rfl rfl rfl ?_ | refine st_P rfl rfl rfl rfl rfl ?_ | refine st_off rfl rfl rfl ?_)
      simp only [NV, reduceIte, Nat.reduceEqDiff, reduceCtorEq, Nat.one_ne_zero, Nat.zero_ne_one]
      exact cutx_mk false ⟨rfl, rfl, trivial⟩ ⟨rfl, rfl, rfl, fun _ => by omega, fun _ => rfl⟩
  rintro z t _ _ _ ⟨rfl, rfl, rfl, hz⟩
  cases z with
  | true =>
    rw [EC_cond_true rfl]
    simp only [NV, reduceIte, Nat.reduceEqDiff, reduceCtorEq, Nat.one_ne_zero, Nat.zero_ne_one]
    repeat (first | refine st_ltT rfl rfl rfl rfl rfl rfl (by omega) ?_ | refine st_ltF rfl rfl rfl rfl rfl rfl (by omega) ?_ | refine st_gtT rfl rfl rfl rfl rfl rfl (by omega) ?_ | refine st_gtF rfl rfl rfl rfl rfl rfl (by omega) ?_ | refine st_neqT rfl rfl rfl rfl rfl rfl (by omega) ?_ | refine st_neqF rfl rfl rfl rfl rfl rfl (by omega) ?_ | refine st_add rfl rfl rfl rfl rfl rfl (by omega) ?_ | refine st_I rfl rfl rfl rfl rfl ?_ | refine st_B rfl rfl rfl rfl rfl ?_ | refine st_P rfl rfl rfl rfl rfl ?_ | refine st_off rfl rfl rfl ?_)
    simp only [NV, reduceIte, Nat.reduceEqDiff, reduceCtorEq, Nat.one_ne_zero, Nat.zero_ne_one]
    exact retF _ rfl (resF_tmp rfl) rfl rfl ⟨false, rfl, fun h => absurd h (by simp), fun hV => absurd (hz.2 ⟨hV.bl, hV.free, hV.el⟩) (by simp)⟩
  | false =>
  rw [EC_cond_false rfl]
  simp only [NV, reduceIte, Nat.reduceEqDiff, reduceCtorEq, Nat.one_ne_zero, Nat.zero_ne_one]
  obtain ⟨g1, g2, g3⟩ := hz.1 rfl
  clear hz
  repeat (first | refine st_load1 rfl rfl rfl rfl rfl rfl hr1 rfl rfl ?_ | refine st_ltT rfl rfl rfl rfl rfl rfl (by omega) ?_ | refine st_ltF rfl rfl rfl rfl rfl rfl (by omega) ?_ | refine st_gtT rfl rfl rfl rfl rfl rfl (by omega) ?_ | refine st_gtF rfl rfl rfl rfl rfl rfl (by omega) ?_ | refine st_neqT rfl rfl rfl rfl rfl rfl (by omega) ?_ | refine st_neqF rfl rfl rfl rfl rfl rfl (by omega) ?_ | refine st_add rfl rfl rfl rfl rfl rfl (by omega) ?_ | refine st_I rfl rfl rfl rfl rfl ?_ | refine st_B rfl rfl rfl rfl rfl ?_ | refine st_P rfl rfl rfl rfl rfl ?_ | refine st_off rfl rfl rfl ?_)
  simp only [NV, reduceIte, Nat.reduceEqDiff, reduceCtorEq, Nat.one_ne_zero, Nat.zero_ne_one]
  have hB1 := hB.ext hx1 (Nat.le_succ n)
  have hO1 := hO.ext hx1 (Nat.le_succ n)
  have hF1 := hFr.ext hx1 (Nat.le_succ n)
  have hE1 := hE.ext hx1 (Nat.le_succ n)
  have hEq1 := hEq.ext hx1 (Nat.le_succ n)
  refine EC_for (α := Nat) (fun j => [(1, .pointer (some ⟨3 * n + 2, 0, none⟩)), (34, .slice aB p.blocks.length cB), (35, .int .i64 (p.blocks.length : Int)), (36, .int .i64 (j : Int))]) (fun j h' n' w => h1 = h' ∧ n' = n + 1 ∧ w = [] ∧ j ≤ p.blocks.length ∧ ∀ i d, i < j → p.blocks[i]? = some d → 1 ≤ d ∧ d ≤ 32) (fun j => p.blocks.length - j) 0 ⟨rfl, rfl, rfl, rfl, trivial⟩ ⟨rfl, rfl, rfl, Nat.zero_le _, fun i d hi => absurd hi (Nat.not_lt_zero i)⟩ (by show p.blocks.length - 0 < LL; unfold LL; omega) ?_
  rintro j t _ _ _ ⟨rfl, rfl, rfl, hj, hbs⟩
  simp only [NV, reduceIte, Nat.reduceEqDiff, reduceCtorEq, Nat.one_ne_zero, Nat.zero_ne_one]
  by_cases hjB : j ≠ p.blocks.length
  · obtain ⟨d, hd⟩ : ∃ d, p.blocks[j]? = some d := ⟨p.blocks[j]'(by omega), List.getElem?_eq_getElem (by omega)⟩
    obtain ⟨bB, oB, xB, csB, rfl, hbB, hxB, hcB, hcapB, hleB, heB⟩ := hB.inv (by omega)
    have hcell : csB[oB + j]? = some (.int .i64 d) := cell_at heB (by rw [i64s, List.getElem?_map, hd]; rfl)
    have hxB1 : h1 bB = some xB := by rw [hx1 bB hbB]; exact hxB
    repeat (first | refine st_ltT rfl rfl rfl rfl rfl rfl (by omega) ?_ | refine st_ltF rfl rfl rfl rfl rfl rfl (by omega) ?_ | refine st_gtT rfl rfl rfl rfl rfl rfl (by omega) ?_ | refine st_gtF rfl rfl rfl rfl rfl rfl (by omega) ?_ | refine st_neqT rfl rfl rfl rfl rfl rfl (by omega) ?_ | refine st_neqF rfl rfl rfl rfl rfl rfl (by omega) ?_ | refine st_add rfl rfl rfl rfl rfl rfl (by omega) ?_ | refine st_I rfl rfl rfl rfl rfl ?_ | refine st_B rfl rfl rfl rfl rfl ?_ | refine st_P rfl rfl rfl rfl rfl ?_ | refine st_off rfl rfl rfl ?_)
    simp only [NV, reduceIte, Nat.reduceEqDiff, reduceCtorEq, Nat.one_ne_zero, Nat.zero_ne_one]
    rw [EC_cond_true rfl]
    simp only [NV, reduceIte, Nat.reduceEqDiff, reduceCtorEq, Nat.one_ne_zero, Nat.zero_ne_one]
    refine st_idx rfl rfl rfl rfl rfl rfl rfl rfl (by omega) ?_
    refine st_load1 rfl rfl rfl rfl rfl rfl hxB1 hcB (v := .int .i64 d) (by rw [← hcell]; congr 1; omega) ?_
    repeat (first | refine st_ltT rfl rfl rfl rfl rfl rfl (by omega) ?_ | refine st_ltF rfl rfl rfl rfl rfl rfl (by omega) ?_ | refine st_gtT rfl rfl rfl rfl rfl rfl (by omega) ?_ | refine st_gtF rfl rfl rfl rfl rfl rfl (by omega) ?_ | refine st_neqT rfl rfl rfl rfl rfl rfl (by omega) ?_ | refine st_neqF rfl rfl rfl rfl rfl rfl (by omega) ?_ | refine st_add rfl rfl rfl rfl rfl rfl (by omega) ?_ | refine st_I rfl rfl rfl rfl rfl ?_ | refine st_B rfl rfl rfl rfl rfl ?_ | refine st_P rfl rfl rfl rfl rfl ?_ | refine st_off rfl rfl rfl ?_)
    simp only [NV, reduceIte, Nat.reduceEqDiff, reduceCtorEq, Nat.one_ne_zero, Nat.zero_ne_one]
    by_cases hd1 : d < 1
    · repeat (first | refine st_ltT rfl rfl rfl rfl rfl rfl (by omega) ?_ | refine st_ltF rfl rfl rfl rfl rfl rfl (by omega) ?_ | refine st_gtT rfl rfl rfl rfl rfl rfl (by omega) ?_ | refine st_gtF rfl rfl rfl rfl rfl rfl (by omega) ?_ | refine st_neqT rfl rfl rfl rfl rfl rfl (by omega) ?_ | refine st_neqF rfl rfl rfl rfl rfl rfl (by omega) ?_ | refine st_add rfl rfl rfl rfl rfl rfl (by omega) ?_ | refine st_I rfl rfl rfl rfl rfl ?_ | refine st_B rfl rfl rfl rfl rfl ?_ | refine st_P rfl rfl rfl rfl rfl ?_ | refine st_off rfl rfl rfl ?_)
      simp only [NV, reduceIte, Nat.reduceEqDiff, reduceCtorEq, Nat.one_ne_zero, Nat.zero_ne_one]
      rw [EC_cond_true rfl]
      simp only [NV, reduceIte, Nat.reduceEqDiff, reduceCtorEq, Nat.one_ne_zero, Nat.zero_ne_one]
      repeat (first | refine st_ltT rfl rfl rfl rfl rfl rfl (by omega) ?_ | refine st_ltF rfl rfl rfl rfl rfl rfl (by omega) ?_ | refine st_gtT rfl rfl rfl rfl rfl rfl (by omega) ?_ | refine st_gtF rfl rfl rfl rfl rfl rfl (by omega) ?_ | refine st_neqT rfl rfl rfl rfl rfl rfl (by omega) ?_ | refine st_neqF rfl rfl rfl rfl rfl rfl (by omega) ?_ | refine st_add rfl rfl rfl rfl rfl rfl (by omega) ?_ | refine st_I rfl rfl rfl rfl rfl ?_ | refine st_B rfl rfl rfl rfl rfl ?_ | refine st_P rfl rfl rfl rfl rfl ?_ | refine st_off rfl rfl rfl ?_)
      simp only [NV, reduceIte, Nat.reduceEqDiff, reduceCtorEq, Nat.one_ne_zero, Nat.zero_ne_one]
      exact retF _ rfl (resF_tmp rfl) rfl rfl ⟨false, rfl, fun h => absurd h (by simp), fun hV => by have := hV.b d (List.mem_of_getElem? hd); omega⟩
    by_cases hd2 : 32 < d
    · repeat (first | refine st_ltT rfl rfl rfl rfl rfl rfl (by omega) ?_ | refine st_ltF rfl rfl rfl rfl rfl rfl (by omega) ?_ | refine st_gtT rfl rfl rfl rfl rfl rfl (by omega) ?_ | refine st_gtF rfl rfl rfl rfl rfl rfl (by omega) ?_ | refine st_neqT rfl rfl rfl rfl rfl rfl (by omega) ?_ | refine st_neqF rfl rfl rfl rfl rfl rfl (by omega) ?_ | refine st_add rfl rfl rfl rfl rfl rfl (by omega) ?_ | refine st_I rfl rfl rfl rfl rfl ?_ | refine st_B rfl rfl rfl rfl rfl ?_ | refine st_P rfl rfl rfl rfl rfl ?_ | refine st_off rfl rfl rfl ?_)
      simp only [NV, reduceIte, Nat.reduceEqDiff, reduceCtorEq, Nat.one_ne_zero, Nat.zero_ne_one]
      rw [EC_cond_true rfl]
      simp only [NV, reduceIte, Nat.reduceEqDiff, reduceCtorEq, Nat.one_ne_zero, Nat.zero_ne_one]
      repeat (first | refine st_ltT rfl rfl rfl rfl rfl rfl (by omega) ?_ | refine st_ltF rfl rfl rfl rfl rfl rfl (by omega) ?_ | refine st_gtT rfl rfl rfl rfl rfl rfl (by omega) ?_ | refine st_gtF rfl rfl rfl rfl rfl rfl (by omega) ?_ | refine st_neqT rfl rfl rfl rfl rfl rfl (by omega) ?_ | refine st_neqF rfl rfl rfl rfl rfl rfl (by omega) ?_ | refine st_add rfl rfl rfl rfl rfl rfl (by omega) ?_ | refine st_I rfl rfl rfl rfl rfl ?_ | refine st_B rfl rfl rfl rfl rfl ?_ | refine st_P rfl rfl rfl rfl rfl ?_ | refine st_off rfl rfl rfl ?_)
      simp only [NV, reduceIte, Nat.reduceEqDiff, reduceCtorEq, Nat.one_ne_zero, Nat.zero_ne_one]
      exact retF _ rfl (resF_tmp rfl) rfl rfl ⟨false, rfl, fun h => absurd h (by simp), fun hV => by have := hV.b d (List.mem_of_getElem? hd); omega⟩
    repeat (first | refine st_ltT rfl rfl rfl rfl rfl rfl (by omega) ?_ | refine st_ltF rfl rfl rfl rfl rfl rfl (by omega) ?_ | refine st_gtT rfl rfl rfl rfl rfl rfl (by omega) ?_ | refine st_gtF rfl rfl rfl rfl rfl rfl (by omega) ?_ | refine st_neqT rfl rfl rfl rfl rfl rfl (by omega) ?_ | refine st_neqF rfl rfl rfl rfl rfl rfl (by omega) ?_ | refine st_add rfl rfl rfl rfl rfl rfl (by omega) ?_ | refine st_I rfl rfl rfl rfl rfl ?_ | refine st_B rfl rfl rfl rfl rfl ?_ | refine st_P rfl rfl rfl rfl rfl ?_ | refine st_off rfl rfl rfl ?_)
    simp only [NV, reduceIte, Nat.reduceEqDiff, reduceCtorEq, Nat.one_ne_zero, Nat.zero_ne_one]
    rw [EC_cond_false rfl]
    simp only [NV, reduceIte, Nat.reduceEqDiff, reduceCtorEq, Nat.one_ne_zero, Nat.zero_ne_one]
    repeat (first | refine st_ltT rfl rfl rfl rfl rfl rfl (by omega) ?_ | refine st_ltF rfl rfl rfl rfl rfl rfl (by omega) ?_ | refine st_gtT rfl rfl rfl rfl rfl rfl (by omega) ?_ | refine st_gtF rfl rfl rfl rfl rfl rfl (by omega) ?_ | refine st_neqT rfl rfl rfl rfl rfl rfl (by omega) ?_ | refine st_neqF rfl rfl rfl rfl rfl rfl (by omega) ?_ | refine st_add rfl rfl rfl rfl rfl rfl (by omega) ?_ | refine st_I rfl rfl rfl rfl rfl ?_ | refine st_B rfl rfl rfl rfl rfl ?_ | refine st_P rfl rfl rfl rfl rfl ?_ | refine st_off rfl rfl rfl ?_)
    simp only [NV, reduceIte, Nat.reduceEqDiff, reduceCtorEq, Nat.one_ne_zero, Nat.zero_ne_one]
    refine goOn (j + 1) (by show p.blocks.length - (j + 1) < p.blocks.length - j; omega) ⟨rfl, rfl, rfl, by show Value.int .i64 _ = Value.int .i64 _; congr 1, trivial⟩ ⟨rfl, rfl, rfl, by show j + 1 ≤ p.blocks.length; omega, fun i d' hi hd' => ?_⟩
    by_cases hij : i < j
    · exact hbs i d' hij hd'
    · have : i = j := by omega
      subst this
      rw [hd] at hd'
      injection hd' with hd'
      omega
  have hjB : j = p.blocks.length := Classical.not_not.1 hjB
  have hbs' : ∀ d ∈ p.blocks, 1 ≤ d ∧ d ≤ 32 := fun d hd => by
    obtain ⟨i, hi, e⟩ := List.getElem_of_mem hd
    exact hbs i d (by omega) (by rw [List.getElem?_eq_getElem hi, e])
  clear hbs
  repeat (first | refine st_ltT rfl rfl rfl rfl rfl rfl (by omega) ?_ | refine st_ltF rfl rfl rfl rfl rfl rfl (by omega) ?_ | refine st_gtT rfl rfl rfl rfl rfl rfl (by omega) ?_ | refine st_gtF rfl rfl rfl rfl rfl rfl (by omega) ?_ | refine st_neqT rfl rfl rfl rfl rfl rfl (by omega) ?_ | refine st_neqF rfl rfl rfl rfl rfl rfl (by omega) ?_ | refine st_add rfl rfl rfl rfl rfl rfl (by omega) ?_ | refine st_I rfl rfl rfl rfl rfl ?_ | refine st_B rfl rfl rfl rfl rfl ?_ | refine st_P rfl rfl rfl rfl rfl ?_ | refine st_off rfl rfl rfl ?_)
  simp only [NV, reduceIte, Nat.reduceEqDiff, reduceCtorEq, Nat.one_ne_zero, Nat.zero_ne_one]
  rw [EC_cond_false rfl]
  simp only [NV, reduceIte, Nat.reduceEqDiff, reduceCtorEq, Nat.one_ne_zero, Nat.zero_ne_one]
  by_cases hofl : (p.objFree.length : Int) = fr
  case neg =>
    repeat (first | refine st_load1 rfl rfl rfl rfl rfl rfl hr1 rfl rfl ?_ | refine st_ltT rfl rfl rfl rfl rfl rfl (by omega) ?_ | refine st_ltF rfl rfl rfl rfl rfl rfl (by omega) ?_ | refine st_gtT rfl rfl rfl rfl rfl rfl (by omega) ?_ | refine st_gtF rfl rfl rfl rfl rfl rfl (by omega) ?_ | refine st_neqT rfl rfl rfl rfl rfl rfl (by omega) ?_ | refine st_neqF rfl rfl rfl rfl rfl rfl (by omega) ?_ | refine st_add rfl rfl rfl rfl rfl rfl (by omega) ?_ | refine st_I rfl rfl rfl rfl rfl ?_ | refine st_B rfl rfl rfl rfl rfl ?_ | refine st_P rfl rfl rfl rfl rfl ?_ | refine st_off rfl rfl rfl ?_)
    simp only [NV, reduceIte, Nat.reduceEqDiff, reduceCtorEq, Nat.one_ne_zero, Nat.zero_ne_one]
    rw [EC_cond_true rfl]
    simp only [NV, reduceIte, Nat.reduceEqDiff, reduceCtorEq, Nat.one_ne_zero, Nat.zero_ne_one]
    repeat (first | refine st_ltT rfl rfl rfl rfl rfl rfl (by omega) ?_ | refine st_ltF rfl rfl rfl rfl rfl rfl (by omega) ?_ | refine st_gtT rfl rfl rfl rfl rfl rfl (by omega) ?_ | refine st_gtF rfl rfl rfl rfl rfl rfl (by omega) ?_ | refine st_neqT rfl rfl rfl rfl rfl rfl (by omega) ?_ | refine st_neqF rfl rfl rfl rfl rfl rfl (by omega) ?_ | refine st_add rfl rfl rfl rfl rfl rfl (by omega) ?_ | refine st_I rfl rfl rfl rfl rfl ?_ | refine st_B rfl rfl rfl rfl rfl ?_ | refine st_P rfl rfl rfl rfl rfl ?_ | refine st_off rfl rfl rfl ?_)
    simp only [NV, reduceIte, Nat.reduceEqDiff, reduceCtorEq, Nat.one_ne_zero, Nat.zero_ne_one]
    exact retF _ rfl (resF_tmp rfl) rfl rfl ⟨false, rfl, fun h => absurd h (by simp), fun hV => absurd hV.ofl hofl⟩
  repeat (first | refine st_load1 rfl rfl rfl rfl rfl rfl hr1 rfl rfl ?_ | refine st_ltT rfl rfl rfl rfl rfl rfl (by omega) ?_ | refine st_ltF rfl rfl rfl rfl rfl rfl (by omega) ?_ | refine st_gtT rfl rfl rfl rfl rfl rfl (by omega) ?_ | refine st_gtF rfl rfl rfl rfl rfl rfl (by omega) ?_ | refine st_neqT rfl rfl rfl rfl rfl rfl (by omega) ?_ | refine st_neqF rfl rfl rfl rfl rfl rfl (by omega) ?_ | refine st_add rfl rfl rfl rfl rfl rfl (by omega) ?_ | refine st_I rfl rfl rfl rfl rfl ?_ | refine st_B rfl rfl rfl rfl rfl ?_ | refine st_P rfl rfl rfl rfl rfl ?_ | refine st_off rfl rfl rfl ?_)
  refine st_vf _ rfl rfl rfl rfl rfl (listS_ok k hR hG1 (by omega) hO1 hB1 hsR.obj (by omega)) ?_
  rintro _ ⟨b1, rfl, hb1⟩
  cases b1 with
  | false =>
    repeat (first | refine st_ltT rfl rfl rfl rfl rfl rfl (by omega) ?_ | refine st_ltF rfl rfl rfl rfl rfl rfl (by omega) ?_ | refine st_gtT rfl rfl rfl rfl rfl rfl (by omega) ?_ | refine st_gtF rfl rfl rfl rfl rfl rfl (by omega) ?_ | refine st_neqT rfl rfl rfl rfl rfl rfl (by omega) ?_ | refine st_neqF rfl rfl rfl rfl rfl rfl (by omega) ?_ | refine st_add rfl rfl rfl rfl rfl rfl (by omega) ?_ | refine st_I rfl rfl rfl rfl rfl ?_ | refine st_B rfl rfl rfl rfl rfl ?_ | refine st_P rfl rfl rfl rfl rfl ?_ | refine st_off rfl rfl rfl ?_)
    simp only [NV, reduceIte, Nat.reduceEqDiff, reduceCtorEq, Nat.one_ne_zero, Nat.zero_ne_one]
    rw [EC_cond_true rfl]
    simp only [NV, reduceIte, Nat.reduceEqDiff, reduceCtorEq, Nat.one_ne_zero, Nat.zero_ne_one]
    repeat (first | refine st_ltT rfl rfl rfl rfl rfl rfl (by omega) ?_ | refine st_ltF rfl rfl rfl rfl rfl rfl (by omega) ?_ | refine st_gtT rfl rfl rfl rfl rfl rfl (by omega) ?_ | refine st_gtF rfl rfl rfl rfl rfl rfl (by omega) ?_ | refine st_neqT rfl rfl rfl rfl rfl rfl (by omega) ?_ | refine st_neqF rfl rfl rfl rfl rfl rfl (by omega) ?_ | refine st_add rfl rfl rfl rfl rfl rfl (by omega) ?_ | refine st_I rfl rfl rfl rfl rfl ?_ | refine st_B rfl rfl rfl rfl rfl ?_ | refine st_P rfl rfl rfl rfl rfl ?_ | refine st_off rfl rfl rfl ?_)
    simp only [NV, reduceIte, Nat.reduceEqDiff, reduceCtorEq, Nat.one_ne_zero, Nat.zero_ne_one]
    exact retF _ rfl (resF_tmp rfl) rfl rfl ⟨false, rfl, fun h => absurd h (by simp), fun hV => hb1.2 hV.obj⟩
  | true =>
  repeat (first | refine st_load1 rfl rfl rfl rfl rfl rfl hr1 rfl rfl ?_ | refine st_ltT rfl rfl rfl rfl rfl rfl (by omega) ?_ | refine st_ltF rfl rfl rfl rfl rfl rfl (by omega) ?_ | refine st_gtT rfl rfl rfl rfl rfl rfl (by omega) ?_ | refine st_gtF rfl rfl rfl rfl rfl rfl (by omega) ?_ | refine st_neqT rfl rfl rfl rfl rfl rfl (by omega) ?_ | refine st_neqF rfl rfl rfl rfl rfl rfl (by omega) ?_ | refine st_add rfl rfl rfl rfl rfl rfl (by omega) ?_ | refine st_I rfl rfl rfl rfl rfl ?_ | refine st_B rfl rfl rfl rfl rfl ?_ | refine st_P rfl rfl rfl rfl rfl ?_ | refine st_off rfl rfl rfl ?_)
  refine st_vf _ rfl rfl rfl rfl rfl (numbersS_ok k hR hG1 hF1 hsR.objFree (by omega)) ?_
  rintro _ ⟨b2, rfl, hb2⟩
  cases b2 with
  | false =>
    repeat (first | refine st_ltT rfl rfl rfl rfl rfl rfl (by omega) ?_ | refine st_ltF rfl rfl rfl rfl rfl rfl (by omega) ?_ | refine st_gtT rfl rfl rfl rfl rfl rfl (by omega) ?_ | refine st_gtF rfl rfl rfl rfl rfl rfl (by omega) ?_ | refine st_neqT rfl rfl rfl rfl rfl rfl (by omega) ?_ | refine st_neqF rfl rfl rfl rfl rfl rfl (by omega) ?_ | refine st_add rfl rfl rfl rfl rfl rfl (by omega) ?_ | refine st_I rfl rfl rfl rfl rfl ?_ | refine st_B rfl rfl rfl rfl rfl ?_ | refine st_P rfl rfl rfl rfl rfl ?_ | refine st_off rfl rfl rfl ?_)
    simp only [NV, reduceIte, Nat.reduceEqDiff, reduceCtorEq, Nat.one_ne_zero, Nat.zero_ne_one]
    rw [EC_cond_true rfl]
    simp only [NV, reduceIte, Nat.reduceEqDiff, reduceCtorEq, Nat.one_ne_zero, Nat.zero_ne_one]
    repeat (first | refine st_ltT rfl rfl rfl rfl rfl rfl (by omega) ?_ | refine st_ltF rfl rfl rfl rfl rfl rfl (by omega) ?_ | refine st_gtT rfl rfl rfl rfl rfl rfl (by omega) ?_ | refine st_gtF rfl rfl rfl rfl rfl rfl (by omega) ?_ | refine st_neqT rfl rfl rfl rfl rfl rfl (by omega) ?_ | refine st_neqF rfl rfl rfl rfl rfl rfl (by omega) ?_ | refine st_add rfl rfl rfl rfl rfl rfl (by omega) ?_ | refine st_I rfl rfl rfl rfl rfl ?_ | refine st_B rfl rfl rfl rfl rfl ?_ | refine st_P rfl rfl rfl rfl rfl ?_ | refine st_off rfl rfl rfl ?_)
    simp only [NV, reduceIte, Nat.reduceEqDiff, reduceCtorEq, Nat.one_ne_zero, Nat.zero_ne_one]
    exact retF _ rfl (resF_tmp rfl) rfl rfl ⟨false, rfl, fun h => absurd h (by simp), fun hV => hb2.2 hV.ofs⟩
  | true =>
  repeat (first | refine st_ltT rfl rfl rfl rfl rfl rfl (by omega) ?_ | refine st_ltF rfl rfl rfl rfl rfl rfl (by omega) ?_ | refine st_gtT rfl rfl rfl rfl rfl rfl (by omega) ?_ | refine st_gtF rfl rfl rfl rfl rfl rfl (by omega) ?_ | refine st_neqT rfl rfl rfl rfl rfl rfl (by omega) ?_ | refine st_neqF rfl rfl rfl rfl rfl rfl (by omega) ?_ | refine st_add rfl rfl rfl rfl rfl rfl (by omega) ?_ | refine st_I rfl rfl rfl rfl rfl ?_ | refine st_B rfl rfl rfl rfl rfl ?_ | refine st_P rfl rfl rfl rfl rfl ?_ | refine st_off rfl rfl rfl ?_)
  simp only [NV, reduceIte, Nat.reduceEqDiff, reduceCtorEq, Nat.one_ne_zero, Nat.zero_ne_one]
  rw [EC_cond_false rfl]
  simp only [NV, reduceIte, Nat.reduceEqDiff, reduceCtorEq, Nat.one_ne_zero, Nat.zero_ne_one]
  repeat (first | refine st_load1 rfl rfl rfl rfl rfl rfl hr1 rfl rfl ?_ | refine st_ltT rfl rfl rfl rfl rfl rfl (by omega) ?_ | refine st_ltF rfl rfl rfl rfl rfl rfl (by omega) ?_ | refine st_gtT rfl rfl rfl rfl rfl rfl (by omega) ?_ | refine st_gtF rfl rfl rfl rfl rfl rfl (by omega) ?_ | refine st_neqT rfl rfl rfl rfl rfl rfl (by omega) ?_ | refine st_neqF rfl rfl rfl rfl rfl rfl (by omega) ?_ | refine st_add rfl rfl rfl rfl rfl rfl (by omega) ?_ | refine st_I rfl rfl rfl rfl rfl ?_ | refine st_B rfl rfl rfl rfl rfl ?_ | refine st_P rfl rfl rfl rfl rfl ?_ | refine st_off rfl rfl rfl ?_)
  simp only [NV, reduceIte, Nat.reduceEqDiff, reduceCtorEq, Nat.one_ne_zero, Nat.zero_ne_one]
  refine EC_for (α := Nat) (fun j => [(1, .pointer (some ⟨3 * n + 2, 0, none⟩)), (68, .slice aE p.eqs.length cE), (69, .int .i64 (p.eqs.length : Int)), (70, .int .i64 (j : Int))]) (fun j h' n' w => Ext (n + 1) h1 h' ∧ n + 1 ≤ n' ∧ w = [] ∧ j ≤ p.eqs.length ∧ ∀ i q, i < j → p.eqs[i]? = some q → ListV p.blocks q.es ∧ (q.fr.length : Int) = fr ∧ ∀ s ∈ q.rhs :: q.fr, isNum s) (fun j => p.eqs.length - j) 0 ⟨rfl, rfl, rfl, rfl, trivial⟩ ⟨Ext.refl _ _, Nat.le_refl _, rfl, Nat.zero_le _, fun i d hi => absurd hi (Nat.not_lt_zero i)⟩ (by show p.eqs.length - 0 < LL; unfold LL; omega) ?_
  rintro i t h2 n2 _ ⟨hx2, hn2, rfl, hi, hqs⟩
  simp only [NV, reduceIte, Nat.reduceEqDiff, reduceCtorEq, Nat.one_ne_zero, Nat.zero_ne_one]
  by_cases hiE : i = p.eqs.length
  · repeat (first | refine st_ltT rfl rfl rfl rfl rfl rfl (by omega) ?_ | refine st_ltF rfl rfl rfl rfl rfl rfl (by omega) ?_ | refine st_gtT rfl rfl rfl rfl rfl rfl (by omega) ?_ | refine st_gtF rfl rfl rfl rfl rfl rfl (by omega) ?_ | refine st_neqT rfl rfl rfl rfl rfl rfl (by omega) ?_ | refine st_neqF rfl rfl rfl rfl rfl rfl (by omega) ?_ | refine st_add rfl rfl rfl rfl rfl rfl (by omega) ?_ | refine st_I rfl rfl rfl rfl rfl ?_ | refine st_B rfl rfl rfl rfl rfl ?_ | refine st_P rfl rfl rfl rfl rfl ?_ | refine st_off rfl rfl rfl ?_)
    simp only [NV, reduceIte, Nat.reduceEqDiff, reduceCtorEq, Nat.one_ne_zero, Nat.zero_ne_one]
    rw [EC_cond_false rfl]
    simp only [NV, reduceIte, Nat.reduceEqDiff, reduceCtorEq, Nat.one_ne_zero, Nat.zero_ne_one]
    repeat (first | refine st_ltT rfl rfl rfl rfl rfl rfl (by omega) ?_ | refine st_ltF rfl rfl rfl rfl rfl rfl (by omega) ?_ | refine st_gtT rfl rfl rfl rfl rfl rfl (by omega) ?_ | refine st_gtF rfl rfl rfl rfl rfl rfl (by omega) ?_ | refine st_neqT rfl rfl rfl rfl rfl rfl (by omega) ?_ | refine st_neqF rfl rfl rfl rfl rfl rfl (by omega) ?_ | refine st_add rfl rfl rfl rfl rfl rfl (by omega) ?_ | refine st_I rfl rfl rfl rfl rfl ?_ | refine st_B rfl rfl rfl rfl rfl ?_ | refine st_P rfl rfl rfl rfl rfl ?_ | refine st_off rfl rfl rfl ?_)
    simp only [NV, reduceIte, Nat.reduceEqDiff, reduceCtorEq, Nat.one_ne_zero, Nat.zero_ne_one]
    refine retF _ rfl (resF_tmp rfl) rfl rfl ⟨true, rfl, fun _ => ⟨g1, g2, g3, hbs', hb1.1 rfl, hofl, hb2.1 rfl, fun q hq => ?_⟩, fun _ => rfl⟩
    obtain ⟨i', hi', e⟩ := List.getElem_of_mem hq
    exact hqs i' q (by omega) (by rw [List.getElem?_eq_getElem hi', e])
  obtain ⟨q, hq⟩ : ∃ q, p.eqs[i]? = some q := ⟨p.eqs[i]'(by omega), List.getElem?_eq_getElem (by omega)⟩
  have hqm := List.mem_of_getElem? hq
  obtain ⟨q1, q2, q3, q4⟩ := hok.qs q hqm
  obtain ⟨ve, vf, hce, hve, hvf⟩ := hEq1.get hq
  obtain ⟨ae, le, cce, rfl, _⟩ := hve.len
  obtain ⟨af, lf, ccf, rfl, _⟩ := hvf.len
  have hle := hve.lenEq (m := q.es.length) (by omega) (ents_len _)
  have hlf := hvf.lenEq (m := q.fr.length) (by omega) (by simp [strs])
  subst hle hlf
  obtain ⟨bE, oE, xE, csE, rfl, hbE, hxE, hcE, hcapE, hleE, heE⟩ := hE1.inv (by omega)
  have hcell : (csE.drop (oE + i * 3)).take 3 = [.slice ae q.es.length cce, .slice af q.fr.length ccf, .string ⟨⟨q.rhs⟩⟩] := by rw [take_at heE (by omega), hce]
  have hxE2 : h2 bE = some xE := by rw [hx2 bE hbE]; exact hxE
  repeat (first | refine st_ltT rfl rfl rfl rfl rfl rfl (by omega) ?_ | refine st_ltF rfl rfl rfl rfl rfl rfl (by omega) ?_ | refine st_gtT rfl rfl rfl rfl rfl rfl (by omega) ?_ | refine st_gtF rfl rfl rfl rfl rfl rfl (by omega) ?_ | refine st_neqT rfl rfl rfl rfl rfl rfl (by omega) ?_ | refine st_neqF rfl rfl rfl rfl rfl rfl (by omega) ?_ | refine st_add rfl rfl rfl rfl rfl rfl (by omega) ?_ | refine st_I rfl rfl rfl rfl rfl ?_ | refine st_B rfl rfl rfl rfl rfl ?_ | refine st_P rfl rfl rfl rfl rfl ?_ | refine st_off rfl rfl rfl ?_)
  simp only [NV, reduceIte, Nat.reduceEqDiff, reduceCtorEq, Nat.one_ne_zero, Nat.zero_ne_one]
  rw [EC_cond_true rfl]
  simp only [NV, reduceIte, Nat.reduceEqDiff, reduceCtorEq, Nat.one_ne_zero, Nat.zero_ne_one]
  refine st_idx rfl rfl rfl rfl rfl rfl rfl rfl (by omega) ?_
  refine st_load (v := .agg #[.slice ae q.es.length cce, .slice af q.fr.length ccf, .string ⟨⟨q.rhs⟩⟩]) rfl rfl rfl rfl rfl (loadn_eq rfl rfl hxE2 hcE (by omega) (by rw [← hcell]; congr 2 <;> omega)) ?_
  refine st_alloc rfl rfl rfl rfl rfl ?_
  refine st_storeW [.slice ae q.es.length cce, .slice af q.fr.length ccf, .string ⟨⟨q.rhs⟩⟩] rfl rfl rfl rfl rfl rfl rfl rfl (upd_same _ _ _) rfl (by show 3 * n ≤ 3 * n2 + 2; omega) ?_
  rw [upd_upd]
  generalize hh : upd h2 (3 * n2 + 2) _ = h3
  have hp3 : ∃ ty, h3 (3 * n2 + 2) = some (.row [.slice ae q.es.length cce, .slice af q.fr.length ccf, .string ⟨⟨q.rhs⟩⟩] ty) := ⟨_, by rw [← hh, upd_same]⟩
  obtain ⟨ty3, hp3⟩ := hp3
  have hx3 : Ext n2 h2 h3 := by rw [← hh]; exact Ext.upd (by omega)
  clear hh
  have hx13 : Ext (n + 1) h1 h3 := hx2.trans hx3 hn2
  have hr3 : h3 (3 * n + 2) = some (.row [.slice aB p.blocks.length cB, .int .i64 fr, .slice aO p.obj.length cO, .slice aF p.objFree.length cF, .slice (some ⟨bE, oE, none⟩) p.eqs.length cE] ty1) := by rw [hx13 _ (by omega)]; exact hr1
  have hG3 : GK.G h3 := G_ext hG1 hx13 (by omega)
  simp only [NV, reduceIte, Nat.reduceEqDiff, reduceCtorEq, Nat.one_ne_zero, Nat.zero_ne_one]
  by_cases hqf : (q.fr.length : Int) = fr
  case neg =>
    repeat (first | refine st_load1 rfl rfl rfl rfl rfl rfl hp3 rfl rfl ?_ | refine st_load1 rfl rfl rfl rfl rfl rfl hr3 rfl rfl ?_ | refine st_ltT rfl rfl rfl rfl rfl rfl (by omega) ?_ | refine st_ltF rfl rfl rfl rfl rfl rfl (by omega) ?_ | refine st_gtT rfl rfl rfl rfl rfl rfl (by omega) ?_ | refine st_gtF rfl rfl rfl rfl rfl rfl (by omega) ?_ | refine st_neqT rfl rfl rfl rfl rfl rfl (by omega) ?_ | refine st_neqF rfl rfl rfl rfl rfl rfl (by omega) ?_ | refine st_add rfl rfl rfl rfl rfl rfl (by omega) ?_ | refine st_I rfl rfl rfl rfl rfl ?_ | refine st_B rfl rfl rfl rfl rfl ?_ | refine st_P rfl rfl rfl rfl rfl ?_ | refine st_off rfl rfl rfl ?_)
    simp only [NV, reduceIte, Nat.reduceEqDiff, reduceCtorEq, Nat.one_ne_zero, Nat.zero_ne_one]
    rw [EC_cond_true rfl]
    simp only [NV, reduceIte, Nat.reduceEqDiff, reduceCtorEq, Nat.one_ne_zero, Nat.zero_ne_one]
    repeat (first | refine st_ltT rfl rfl rfl rfl rfl rfl (by omega) ?_ | refine st_ltF rfl rfl rfl rfl rfl rfl (by omega) ?_ | refine st_gtT rfl rfl rfl rfl rfl rfl (by omega) ?_ | refine st_gtF rfl rfl rfl rfl rfl rfl (by omega) ?_ | refine st_neqT rfl rfl rfl rfl rfl rfl (by omega) ?_ | refine st_neqF rfl rfl rfl rfl rfl rfl (by omega) ?_ | refine st_add rfl rfl rfl rfl rfl rfl (by omega) ?_ | refine st_I rfl rfl rfl rfl rfl ?_ | refine st_B rfl rfl rfl rfl rfl ?_ | refine st_P rfl rfl rfl rfl rfl ?_ | refine st_off rfl rfl rfl ?_)
    simp only [NV, reduceIte, Nat.reduceEqDiff, reduceCtorEq, Nat.one_ne_zero, Nat.zero_ne_one]
    exact retF _ rfl (resF_tmp rfl) rfl rfl ⟨false, rfl, fun h => absurd h (by simp), fun hV => absurd (hV.eqs q hqm).2.1 hqf⟩
  repeat (first | refine st_load1 rfl rfl rfl rfl rfl rfl hp3 rfl rfl ?_ | refine st_load1 rfl rfl rfl rfl rfl rfl hr3 rfl rfl ?_ | refine st_ltT rfl rfl rfl rfl rfl rfl (by omega) ?_ | refine st_ltF rfl rfl rfl rfl rfl rfl (by omega) ?_ | refine st_gtT rfl rfl rfl rfl rfl rfl (by omega) ?_ | refine st_gtF rfl rfl rfl rfl rfl rfl (by omega) ?_ | refine st_neqT rfl rfl rfl rfl rfl rfl (by omega) ?_ | refine st_neqF rfl rfl rfl rfl rfl rfl (by omega) ?_ | refine st_add rfl rfl rfl rfl rfl rfl (by omega) ?_ | refine st_I rfl rfl rfl rfl rfl ?_ | refine st_B rfl rfl rfl rfl rfl ?_ | refine st_P rfl rfl rfl rfl rfl ?_ | refine st_off rfl rfl rfl ?_)
  refine st_vf _ rfl rfl rfl rfl rfl (listS_ok k hR hG3 (by omega) (hve.ext hx13 (show n + 1 ≤ n2 + 1 by omega)) (hB1.ext hx13 (show n + 1 ≤ n2 + 1 by omega)) (hsR.eqs q hqm).1 (by omega)) ?_
  rintro _ ⟨b3, rfl, hb3⟩
  cases b3 with
  | false =>
    repeat (first | refine st_ltT rfl rfl rfl rfl rfl rfl (by omega) ?_ | refine st_ltF rfl rfl rfl rfl rfl rfl (by omega) ?_ | refine st_gtT rfl rfl rfl rfl rfl rfl (by omega) ?_ | refine st_gtF rfl rfl rfl rfl rfl rfl (by omega) ?_ | refine st_neqT rfl rfl rfl rfl rfl rfl (by omega) ?_ | refine st_neqF rfl rfl rfl rfl rfl rfl (by omega) ?_ | refine st_add rfl rfl rfl rfl rfl rfl (by omega) ?_ | refine st_I rfl rfl rfl rfl rfl ?_ | refine st_B rfl rfl rfl rfl rfl ?_ | refine st_P rfl rfl rfl rfl rfl ?_ | refine st_off rfl rfl rfl ?_)
    simp only [NV, reduceIte, Nat.reduceEqDiff, reduceCtorEq, Nat.one_ne_zero, Nat.zero_ne_one]
    rw [EC_cond_true rfl]
    simp only [NV, reduceIte, Nat.reduceEqDiff, reduceCtorEq, Nat.one_ne_zero, Nat.zero_ne_one]
    repeat (first | refine st_ltT rfl rfl rfl rfl rfl rfl (by omega) ?_ | refine st_ltF rfl rfl rfl rfl rfl rfl (by omega) ?_ | refine st_gtT rfl rfl rfl rfl rfl rfl (by omega) ?_ | refine st_gtF rfl rfl rfl rfl rfl rfl (by omega) ?_ | refine st_neqT rfl rfl rfl rfl rfl rfl (by omega) ?_ | refine st_neqF rfl rfl rfl rfl rfl rfl (by omega) ?_ | refine st_add rfl rfl rfl rfl rfl rfl (by omega) ?_ | refine st_I rfl rfl rfl rfl rfl ?_ | refine st_B rfl rfl rfl rfl rfl ?_ | refine st_P rfl rfl rfl rfl rfl ?_ | refine st_off rfl rfl rfl ?_)
    simp only [NV, reduceIte, Nat.reduceEqDiff, reduceCtorEq, Nat.one_ne_zero, Nat.zero_ne_one]
    exact retF _ rfl (resF_tmp rfl) rfl rfl ⟨false, rfl, fun h => absurd h (by simp), fun hV => hb3.2 (hV.eqs q hqm).1⟩
  | true =>
  repeat (first | refine st_load1 rfl rfl rfl rfl rfl rfl hp3 rfl rfl ?_ | refine st_load1 rfl rfl rfl rfl rfl rfl hr3 rfl rfl ?_ | refine st_ltT rfl rfl rfl rfl rfl rfl (by omega) ?_ | refine st_ltF rfl rfl rfl rfl rfl rfl (by omega) ?_ | refine st_gtT rfl rfl rfl rfl rfl rfl (by omega) ?_ | refine st_gtF rfl rfl rfl rfl rfl rfl (by omega) ?_ | refine st_neqT rfl rfl rfl rfl rfl rfl (by omega) ?_ | refine st_neqF rfl rfl rfl rfl rfl rfl (by omega) ?_ | refine st_add rfl rfl rfl rfl rfl rfl (by omega) ?_ | refine st_I rfl rfl rfl rfl rfl ?_ | refine st_B rfl rfl rfl rfl rfl ?_ | refine st_P rfl rfl rfl rfl rfl ?_ | refine st_off rfl rfl rfl ?_)
  refine st_vf _ rfl rfl rfl rfl rfl (numbersS_ok k hR hG3 (hvf.ext hx13 (show n + 1 ≤ n2 + 1 by omega)) (fun s hs => (hsR.eqs q hqm).2 s (by simp [hs])) (by omega)) ?_
  rintro _ ⟨b4, rfl, hb4⟩
  cases b4 with
  | false =>
    repeat (first | refine st_ltT rfl rfl rfl rfl rfl rfl (by omega) ?_ | refine st_ltF rfl rfl rfl rfl rfl rfl (by omega) ?_ | refine st_gtT rfl rfl rfl rfl rfl rfl (by omega) ?_ | refine st_gtF rfl rfl rfl rfl rfl rfl (by omega) ?_ | refine st_neqT rfl rfl rfl rfl rfl rfl (by omega) ?_ | refine st_neqF rfl rfl rfl rfl rfl rfl (by omega) ?_ | refine st_add rfl rfl rfl rfl rfl rfl (by omega) ?_ | refine st_I rfl rfl rfl rfl rfl ?_ | refine st_B rfl rfl rfl rfl rfl ?_ | refine st_P rfl rfl rfl rfl rfl ?_ | refine st_off rfl rfl rfl ?_)
    simp only [NV, reduceIte, Nat.reduceEqDiff, reduceCtorEq, Nat.one_ne_zero, Nat.zero_ne_one]
    rw [EC_cond_true rfl]
    simp only [NV, reduceIte, Nat.reduceEqDiff, reduceCtorEq, Nat.one_ne_zero, Nat.zero_ne_one]
    repeat (first | refine st_ltT rfl rfl rfl rfl rfl rfl (by omega) ?_ | refine st_ltF rfl rfl rfl rfl rfl rfl (by omega) ?_ | refine st_gtT rfl rfl rfl rfl rfl rfl (by omega) ?_ | refine st_gtF rfl rfl rfl rfl rfl rfl (by omega) ?_ | refine st_neqT rfl rfl rfl rfl rfl rfl (by omega) ?_ | refine st_neqF rfl rfl rfl rfl rfl rfl (by omega) ?_ | refine st_add rfl rfl rfl rfl rfl rfl (by omega) ?_ | refine st_I rfl rfl rfl rfl rfl ?_ | refine st_B rfl rfl rfl rfl rfl ?_ | refine st_P rfl rfl rfl rfl rfl ?_ | refine st_off rfl rfl rfl ?_)
    simp only [NV, reduceIte, Nat.reduceEqDiff, reduceCtorEq, Nat.one_ne_zero, Nat.zero_ne_one]
    exact retF _ rfl (resF_tmp rfl) rfl rfl ⟨false, rfl, fun h => absurd h (by simp), fun hV => hb4.2 fun s hs => (hV.eqs q hqm).2.2 s (by simp [hs])⟩
  | true =>
  repeat (first | refine st_load1 rfl rfl rfl rfl rfl rfl hp3 rfl rfl ?_ | refine st_load1 rfl rfl rfl rfl rfl rfl hr3 rfl rfl ?_ | refine st_ltT rfl rfl rfl rfl rfl rfl (by omega) ?_ | refine st_ltF rfl rfl rfl rfl rfl rfl (by omega) ?_ | refine st_gtT rfl rfl rfl rfl rfl rfl (by omega) ?_ | refine st_gtF rfl rfl rfl rfl rfl rfl (by omega) ?_ | refine st_neqT rfl rfl rfl rfl rfl rfl (by omega) ?_ | refine st_neqF rfl rfl rfl rfl rfl rfl (by omega) ?_ | refine st_add rfl rfl rfl rfl rfl rfl (by omega) ?_ | refine st_I rfl rfl rfl rfl rfl ?_ | refine st_B rfl rfl rfl rfl rfl ?_ | refine st_P rfl rfl rfl rfl rfl ?_ | refine st_off rfl rfl rfl ?_)
  refine st_vf _ rfl rfl rfl rfl rfl (hR 1 hG3 _ q.rhs ((hsR.eqs q hqm).2 _ (by simp))) ?_
  rintro _ ⟨b5, rfl, hb5⟩
  cases b5 with
  | false =>
    repeat (first | refine st_ltT rfl rfl rfl rfl rfl rfl (by omega) ?_ | refine st_ltF rfl rfl rfl rfl rfl rfl (by omega) ?_ | refine st_gtT rfl rfl rfl rfl rfl rfl (by omega) ?_ | refine st_gtF rfl rfl rfl rfl rfl rfl (by omega) ?_ | refine st_neqT rfl rfl rfl rfl rfl rfl (by omega) ?_ | refine st_neqF rfl rfl rfl rfl rfl rfl (by omega) ?_ | refine st_add rfl rfl rfl rfl rfl rfl (by omega) ?_ | refine st_I rfl rfl rfl rfl rfl ?_ | refine st_B rfl rfl rfl rfl rfl ?_ | refine st_P rfl rfl rfl rfl rfl ?_ | refine st_off rfl rfl rfl ?_)
    simp only [NV, reduceIte, Nat.reduceEqDiff, reduceCtorEq, Nat.one_ne_zero, Nat.zero_ne_one]
    rw [EC_cond_true rfl]
    simp only [NV, reduceIte, Nat.reduceEqDiff, reduceCtorEq, Nat.one_ne_zero, Nat.zero_ne_one]
    repeat (first | refine st_ltT rfl rfl rfl rfl rfl rfl (by omega) ?_ | refine st_ltF rfl rfl rfl rfl rfl rfl (by omega) ?_ | refine st_gtT rfl rfl rfl rfl rfl rfl (by omega) ?_ | refine st_gtF rfl rfl rfl rfl rfl rfl (by omega) ?_ | refine st_neqT rfl rfl rfl rfl rfl rfl (by omega) ?_ | refine st_neqF rfl rfl rfl rfl rfl rfl (by omega) ?_ | refine st_add rfl rfl rfl rfl rfl rfl (by omega) ?_ | refine st_I rfl rfl rfl rfl rfl ?_ | refine st_B rfl rfl rfl rfl rfl ?_ | refine st_P rfl rfl rfl rfl rfl ?_ | refine st_off rfl rfl rfl ?_)
    simp only [NV, reduceIte, Nat.reduceEqDiff, reduceCtorEq, Nat.one_ne_zero, Nat.zero_ne_one]
    exact retF _ rfl (resF_tmp rfl) rfl rfl ⟨false, rfl, fun h => absurd h (by simp), fun hV => hb5.2 ((hV.eqs q hqm).2.2 _ (by simp))⟩
  | true =>
  repeat (first | refine st_ltT rfl rfl rfl rfl rfl rfl (by omega) ?_ | refine st_ltF rfl rfl rfl rfl rfl rfl (by omega) ?_ | refine st_gtT rfl rfl rfl rfl rfl rfl (by omega) ?_ | refine st_gtF rfl rfl rfl rfl rfl rfl (by omega) ?_ | refine st_neqT rfl rfl rfl rfl rfl rfl (by omega) ?_ | refine st_neqF rfl rfl rfl rfl rfl rfl (by omega) ?_ | refine st_add rfl rfl rfl rfl rfl rfl (by omega) ?_ | refine st_I rfl rfl rfl rfl rfl ?_ | refine st_B rfl rfl rfl rfl rfl ?_ | refine st_P rfl rfl rfl rfl rfl ?_ | refine st_off rfl rfl rfl ?_)
  simp only [NV, reduceIte, Nat.reduceEqDiff, reduceCtorEq, Nat.one_ne_zero, Nat.zero_ne_one]
  rw [EC_cond_false rfl]
  simp only [NV, reduceIte, Nat.reduceEqDiff, reduceCtorEq, Nat.one_ne_zero, Nat.zero_ne_one]
  repeat (first | refine st_ltT rfl rfl rfl rfl rfl rfl (by omega) ?_ | refine st_ltF rfl rfl rfl rfl rfl rfl (by omega) ?_ | refine st_gtT rfl rfl rfl rfl rfl rfl (by omega) ?_ | refine st_gtF rfl rfl rfl rfl rfl rfl (by omega) ?_ | refine st_neqT rfl rfl rfl rfl rfl rfl (by omega) ?_ | refine st_neqF rfl rfl rfl rfl rfl rfl (by omega) ?_ | refine st_add rfl rfl rfl rfl rfl rfl (by omega) ?_ | refine st_I rfl rfl rfl rfl rfl ?_ | refine st_B rfl rfl rfl rfl rfl ?_ | refine st_P rfl rfl rfl rfl rfl ?_ | refine st_off rfl rfl rfl ?_)
  simp only [NV, reduceIte, Nat.reduceEqDiff, reduceCtorEq, Nat.one_ne_zero, Nat.zero_ne_one]
  refine goOn (i + 1) (by show p.eqs.length - (i + 1) < p.eqs.length - i; omega) ⟨rfl, rfl, rfl, by show Value.int .i64 _ = Value.int .i64 _; congr 1, trivial⟩ ⟨hx13, by show n + 1 ≤ n2 + 1; omega, rfl, by show i + 1 ≤ p.eqs.length; omega, fun i' q' hi' hq' => ?_⟩
  by_cases hij : i' < i
  · exact hqs i' q' hij hq'
  · have : i' = i := by omega
    subst this
    rw [hq] at hq'
    injection hq' with hq'
    subst hq'
    exact ⟨hb3.1 rfl, hqf, fun s hs => by rcases List.mem_cons.1 hs with rfl | hs; exact hb5.1 rfl; exact hb4.1 rfl s hs⟩
end Go.Proofs.YtokfihhdllmbmaaGreatDoor
namespace Go.Proofs.YtokfihhdllmbmaaGreatDoor
open Go Go.GL
def Dis (u v : Value) : Prop := ∀ a l c a' l' c', u = .slice (some a) l c → v = .slice (some a') l' c' → a.block ≠ a'.block
theorem Gro.keep {h h' : HF} {lo n n' : Nat} {e : TypeId} {sz len : Nat} {v : Value} {c : List Value} (g : Gro h lo n e sz v len c) (hk : ∀ a l cap, v = .slice (some a) l cap → h' a.block = h a.block) (hn : n ≤ n') : Gro h' lo n' e sz v len c := by
  cases g with
  | nil => exact .nil
  | at_ hg hlo hb hr hl ho => exact .at_ hg hlo (by omega) ((hk _ _ _ rfl).trans hr) hl ho
theorem Gro.lo {h : HF} {lo lo' n : Nat} {e : TypeId} {sz len : Nat} {v : Value} {c : List Value} (g : Gro h lo n e sz v len c) (hl : lo' ≤ lo) : Gro h lo' n e sz v len c := by
  cases g with
  | nil => exact .nil
  | at_ hg hlo hb hr hl ho => exact .at_ hg (by omega) hb hr hl ho
theorem Gro.spot {h : HF} {lo n : Nat} {e : TypeId} {sz len : Nat} {v : Value} {c : List Value} (g : Gro h lo n e sz v len c) {b o : Nat} {sp : Option Nat} {l k : Nat} (hv : v = .slice (some ⟨b, o, sp⟩) l k) : True ∧ True ∧ sp = none := by
  cases g with
  | nil => cases hv
  | at_ hg hlo hb hr hl ho => injection hv with h1 h2 h3; injection h1 with h1; injection h1 with _ _ h4; exact ⟨trivial, trivial, h4.symm⟩
inductive EqG (h : HF) (lo n : Nat) : List Value → List Eqn → Prop
  | nil : EqG h lo n [] []
  | cons {ve vf : Value} {q : Eqn} {cs : List Value} {qs : List Eqn} (h1 : Gro h lo n 37 4 ve q.es.length (ents q.es)) (h2 : Sl h n 1 vf (strs q.fr)) (h3 : EqG h lo n cs qs) : EqG h lo n (ve :: vf :: .string ⟨⟨q.rhs⟩⟩ :: cs) (q :: qs)
theorem EqG.toR {h : HF} {lo n : Nat} {cs : List Value} {qs : List Eqn} (e : EqG h lo n cs qs) : EqR h n cs qs := by
  induction e with
  | nil => exact .nil
  | cons h1 h2 h3 ih => exact .cons h1.sl h2 ih
theorem EqG.keep {h h' : HF} {lo n n' : Nat} {cs : List Value} {qs : List Eqn} (e : EqG h lo n cs qs) (hk : ∀ v ∈ cs, ∀ a l c, v = .slice (some a) l c → h' a.block = h a.block) (hn : n ≤ n') : EqG h' lo n' cs qs := by
  induction e with
  | nil => exact .nil
  | cons h1 h2 h3 ih => exact .cons (h1.keep (hk _ (by simp)) hn) (h2.keep (hk _ (by simp)) hn) (ih fun v hv => hk v (by simp [hv]))
theorem EqG.snoc {h : HF} {lo n : Nat} {cs : List Value} {qs : List Eqn} {ve vf : Value} {q : Eqn} (e : EqG h lo n cs qs) (h1 : Gro h lo n 37 4 ve q.es.length (ents q.es)) (h2 : Sl h n 1 vf (strs q.fr)) : EqG h lo n (cs ++ [ve, vf, .string ⟨⟨q.rhs⟩⟩]) (qs ++ [q]) := by
  induction e with
  | nil => exact .cons h1 h2 .nil
  | cons g1 g2 g3 ih => exact .cons g1 g2 ih
def SdpG (h : HF) (lo n : Nat) (vB vO vF vE : Value) (p : Sdp) : Prop := ∃ l1 l2 l3 ce, lo ≤ l1 ∧ l1 ≤ l2 ∧ l2 ≤ l3 ∧ l3 ≤ n ∧ Gro h lo n 3 1 vB p.blocks.length (i64s p.blocks) ∧ Below l1 vB ∧ Gro h l1 n 37 4 vO p.obj.length (ents p.obj) ∧ Below l2 vO ∧ Gro h l2 n 9 1 vF p.free (strs p.objFree) ∧ Below l3 vF ∧ Gro h l3 n 35 3 vE p.eqs.length ce ∧ EqG h l3 n ce p.eqs ∧ ce.Pairwise Dis ∧ (∀ v ∈ ce, Dis v vE) ∧ ∀ v ∈ ce, Pt (fun b => 3 * l3 ≤ b) v
set_option maxHeartbeats 4000000
theorem program2_ok (k : Nat) {h : HF} {n : Nat} {T : TapeI} {F least : Nat} (hF : F ≤ 100 ∧ least ≤ 4) (ht : Tp h T) (hn : T.m ≤ n) : CF (cal (k + 6)) 18 [.pointer (some ⟨T.bt, 0, none⟩), .int .i64 (F : Int), .int .i64 (least : Int)] h n fun v h' n' w => TLeft T h n h' n' w ∧ ∃ p vB vO vF vE, v = .agg #[vB, .int .i64 (p.free : Int), vO, vF, vE] ∧ SdpG h' n n' vB vO vF vE p ∧ SdpOk F least p := by
  have hbt := ht.bt
  refine CF_heap (fn := Tryz.f18) rfl rfl rfl rfl ?_
  simp only [NV, reduceIte, Nat.reduceEqDiff, reduceCtorEq, Nat.one_ne_zero, Nat.zero_ne_one]
  refine st_alloc rfl rfl rfl rfl rfl ?_
  simp only [NV, reduceIte, Nat.reduceEqDiff, reduceCtorEq, Nat.one_ne_zero, Nat.zero_ne_one]
  repeat (first | refine st_gtT rfl rfl rfl rfl rfl rfl (by omega) ?_ | refine st_gtF rfl rfl rfl rfl rfl rfl (by omega) ?_ | refine st_add rfl rfl rfl rfl rfl rfl (by omega) ?_ | refine st_sub rfl rfl rfl rfl rfl rfl (by omega) ?_ | refine st_I rfl rfl rfl rfl rfl ?_ | refine st_P rfl rfl rfl rfl rfl ?_ | refine st_val (v := .pointer none) rfl rfl rfl rfl rfl ?_)
  refine st_call _ rfl rfl rfl rfl rfl (next_ok (k + 4) (by omega) (ht.upd (by omega)) (by omega)) ?_
  rintro _ h1 _ w1 ⟨hw1, rfl, ht1, hx1, fr, rfl, hf0, hf1⟩
  obtain ⟨f, rfl⟩ : ∃ f : Nat, fr = (f : Int) := ⟨fr.toNat, by omega⟩
  refine st_val (v := .agg #[.slice none 0 0, .int .i64 (f : Int), .slice none 0 0, .slice none 0 0, .slice none 0 0]) rfl rfl rfl rfl rfl ?_
  refine st_alloc rfl rfl rfl rfl rfl ?_
  refine st_storeW [.slice none 0 0, .int .i64 (f : Int), .slice none 0 0, .slice none 0 0, .slice none 0 0] rfl rfl rfl rfl rfl rfl rfl rfl (upd_same _ _ _) rfl (by show 3 * n ≤ _; omega) ?_
  rw [upd_upd]
  simp only [NV, reduceIte, Nat.reduceEqDiff, reduceCtorEq, Nat.one_ne_zero, Nat.zero_ne_one]
  repeat (first | refine st_gtT rfl rfl rfl rfl rfl rfl (by omega) ?_ | refine st_gtF rfl rfl rfl rfl rfl rfl (by omega) ?_ | refine st_add rfl rfl rfl rfl rfl rfl (by omega) ?_ | refine st_sub rfl rfl rfl rfl rfl rfl (by omega) ?_ | refine st_I rfl rfl rfl rfl rfl ?_ | refine st_P rfl rfl rfl rfl rfl ?_ | refine st_val (v := .pointer none) rfl rfl rfl rfl rfl ?_)
  generalize hh : upd h1 (3 * (n + 1) + 2) _ = h2
  have hp2 : ∃ e, h2 (3 * (n + 1) + 2) = some (.row [.slice none 0 0, .int .i64 (f : Int), .slice none 0 0, .slice none 0 0, .slice none 0 0] e) := ⟨_, by rw [← hh, upd_same]⟩
  have hr2 : ∃ e, h2 (3 * n + 2) = some (.row [.slice none 0 0, .int .i64 0, .slice none 0 0, .slice none 0 0, .slice none 0 0] e) := ⟨_, by rw [← hh, upd_ne (by omega), hx1 _ (by omega), upd_same]; rfl⟩
  have hx2 : ExtT n T.bt h h2 := fun b hb hne => by rw [← hh, upd_ne (by omega), hx1 b hne, upd_ne (by omega)]
  have ht2 : Tp h2 T := by rw [← hh]; exact ht1.upd (by omega)
  refine st_call _ rfl rfl rfl rfl rfl (next_ok (k + 4) (m := 2) (by omega) ht2 (by omega)) ?_
  rintro _ h3 _ w3 ⟨hw3, rfl, ht3, hx3, i0, rfl, hi0, hi1⟩
  obtain ⟨i0, rfl⟩ : ∃ f : Nat, i0 = (f : Int) := ⟨i0.toNat, by omega⟩
  repeat (first | refine st_gtT rfl rfl rfl rfl rfl rfl (by omega) ?_ | refine st_gtF rfl rfl rfl rfl rfl rfl (by omega) ?_ | refine st_add rfl rfl rfl rfl rfl rfl (by omega) ?_ | refine st_sub rfl rfl rfl rfl rfl rfl (by omega) ?_ | refine st_I rfl rfl rfl rfl rfl ?_ | refine st_P rfl rfl rfl rfl rfl ?_ | refine st_val (v := .pointer none) rfl rfl rfl rfl rfl ?_)
  simp only [NV, reduceIte, Nat.reduceEqDiff, reduceCtorEq, Nat.one_ne_zero, Nat.zero_ne_one]
  have hW3 := addW_bt (n0 := (ctx (k + 5) n (Tryz.f18).ntmps).n0) hw3 (addW_bt (n0 := (ctx (k + 5) n (Tryz.f18).ntmps).n0) (w := []) hw1 (fun b hb => absurd hb List.not_mem_nil))
  have hp3 : ∃ e, h3 (3 * (n + 1) + 2) = some (.row [.slice none 0 0, .int .i64 (f : Int), .slice none 0 0, .slice none 0 0, .slice none 0 0] e) := by rw [hx3 _ (by omega)]; exact hp2
  have hr3 : ∃ e, h3 (3 * n + 2) = some (.row [.slice none 0 0, .int .i64 0, .slice none 0 0, .slice none 0 0, .slice none 0 0] e) := by rw [hx3 _ (by omega)]; exact hr2
  have hx3' : ExtT n T.bt h h3 := fun b hb hne => (hx3 b hne).trans (hx2 b hb hne)
  refine EC_for (α := Nat × Value × List Int) (fun z => [(0, .pointer (some ⟨T.bt, 0, none⟩)), (2, .int .i64 (least : Int)), (6, .pointer (some ⟨3 * n + 2, 0, none⟩)), (7, .pointer (some ⟨3 * (n + 1) + 2, 0, none⟩)), (8, .int .i64 (z.1 : Int))])
    (fun z h' n' w => (∀ b ∈ w, b = T.bt) ∧ n + 2 ≤ n' ∧ Tp h' T ∧ ExtT n T.bt h h' ∧ (∃ e, h' (3 * n + 2) = some (.row [.slice none 0 0, .int .i64 0, .slice none 0 0, .slice none 0 0, .slice none 0 0] e)) ∧ (∃ e, h' (3 * (n + 1) + 2) = some (.row [z.2.1, .int .i64 (f : Int), .slice none 0 0, .slice none 0 0, .slice none 0 0] e)) ∧ z.1 + z.2.2.length = i0 + 1 ∧ (∀ d ∈ z.2.2, 1 ≤ d ∧ d ≤ 3) ∧ Gro h' (n + 2) n' 3 1 z.2.1 z.2.2.length (i64s z.2.2)) (fun z => z.1)
    (i0 + 1, .slice none 0 0, []) ⟨rfl, rfl, rfl, rfl, by show Value.int .i64 _ = Value.int .i64 _; congr 1; omega, trivial⟩ ⟨hW3, Nat.le_refl _, ht3, hx3', hr3, hp3, rfl, fun d hd => absurd hd List.not_mem_nil, .nil⟩ (by show i0 + 1 < LL; unfold LL; omega) ?_
  rintro ⟨i, vB, B⟩ t h4 n4 w4 ⟨hw4, hn4, ht4, hx4, hr4, ⟨e4, hp4⟩, hiB, hB3, hgB⟩
  simp only at hp4 hiB hB3 hgB
  obtain ⟨aB, rfl, _⟩ := hgB.shape
  simp only [NV, reduceIte, Nat.reduceEqDiff, reduceCtorEq, Nat.one_ne_zero, Nat.zero_ne_one]
  cases i with
  | succ i =>
    repeat (first | refine st_gtT rfl rfl rfl rfl rfl rfl (by omega) ?_ | refine st_gtF rfl rfl rfl rfl rfl rfl (by omega) ?_ | refine st_add rfl rfl rfl rfl rfl rfl (by omega) ?_ | refine st_sub rfl rfl rfl rfl rfl rfl (by omega) ?_ | refine st_I rfl rfl rfl rfl rfl ?_ | refine st_P rfl rfl rfl rfl rfl ?_ | refine st_val (v := .pointer none) rfl rfl rfl rfl rfl ?_)
    simp only [NV, reduceIte, Nat.reduceEqDiff, reduceCtorEq, Nat.one_ne_zero, Nat.zero_ne_one]
    rw [EC_cond_true rfl]
    simp only [NV, reduceIte, Nat.reduceEqDiff, reduceCtorEq, Nat.one_ne_zero, Nat.zero_ne_one]
    refine EC_draw [0, 1, 0, 4, 12, 28, 63, 127, 255] rfl ?_
    repeat (first | refine dr_add rfl rfl rfl rfl rfl rfl (by omega) ?_ | refine dr_P rfl rfl rfl rfl rfl ?_)
    refine dr_load rfl rfl rfl rfl rfl rfl (load1_eq rfl hp4 rfl rfl) rfl rfl ?_
    repeat (first | refine dr_add rfl rfl rfl rfl rfl rfl (by omega) ?_ | refine dr_P rfl rfl rfl rfl rfl ?_)
    refine dr_tape (bt := T.bt) _ rfl rfl rfl rfl rfl rfl rfl (next_ok (k + 4) (m := 3) (by omega) ht4 (by omega)) (fun v h' n' W hp => ⟨hp.1, by rw [hp.2.1]; exact Nat.le_refl _⟩) (by simp; omega) ?_
    rintro _ h5 n4 w5 ⟨hw5, rfl, ht5, hx5, rr, rfl, hr0, hr1⟩
    repeat (first | refine dr_add rfl rfl rfl rfl rfl rfl (by omega) ?_ | refine dr_P rfl rfl rfl rfl rfl ?_)
    refine dr_mks (cs := i64s [1 + rr]) rfl rfl rfl rfl rfl ?_
    refine dr_app (mm := 1) rfl rfl rfl rfl rfl rfl rfl rfl (by decide) rfl rfl rfl ((hgB.extT (fun b hb hne => hx5 b hne) (by omega) (Nat.le_refl _)).ext (Ext.upd (by omega)) (Nat.le_succ _)) (argS_of (upd_same _ _ _) rfl rfl) (Nat.le_refl _) (by omega) rfl rfl (by show n ≤ n + 2 ∧ _; omega) ?_
    intro v6 h6 W6 hg6 hx6 hk6 hf6
    obtain ⟨a6, rfl, _⟩ := hg6.shape
    repeat (first | refine dr_add rfl rfl rfl rfl rfl rfl (by omega) ?_ | refine dr_P rfl rfl rfl rfl rfl ?_)
    have hp6 : h6 (3 * (n + 1) + 2) = some (.row [.slice aB B.length B.length, .int .i64 (f : Int), .slice none 0 0, .slice none 0 0, .slice none 0 0] e4) := by rw [hx6 _ (by omega), upd_ne (by omega), hx5 _ (by omega)]; exact hp4
    refine dr_storeN (cs := [.slice a6 (B.length + 1) (B.length + 1)]) rfl rfl rfl rfl rfl rfl rfl rfl hp6 (Nat.le_of_ble_eq_true rfl) (by show 3 * n ≤ _; omega) rfl rfl rfl ?_
    simp only [NV, reduceIte, Nat.reduceEqDiff, reduceCtorEq, Nat.one_ne_zero, Nat.zero_ne_one]
    repeat (first | refine st_gtT rfl rfl rfl rfl rfl rfl (by omega) ?_ | refine st_gtF rfl rfl rfl rfl rfl rfl (by omega) ?_ | refine st_add rfl rfl rfl rfl rfl rfl (by omega) ?_ | refine st_sub rfl rfl rfl rfl rfl rfl (by omega) ?_ | refine st_I rfl rfl rfl rfl rfl ?_ | refine st_P rfl rfl rfl rfl rfl ?_ | refine st_val (v := .pointer none) rfl rfl rfl rfl rfl ?_)
    simp only [NV, reduceIte, Nat.reduceEqDiff, reduceCtorEq, Nat.one_ne_zero, Nat.zero_ne_one]
    refine goOn (i, .slice a6 (B.length + 1) (B.length + 1), B ++ [1 + rr]) (by show i < i + 1; omega) ⟨rfl, rfl, rfl, rfl, by show Value.int .i64 _ = Value.int .i64 _; congr 1; omega, trivial⟩ ⟨addW_bt hw5 hw4, by show n + 2 ≤ n4 + 1 + 1; omega, ?_, ?_, ?_, ⟨e4, upd_same _ _ _⟩, by show i + (B ++ [_]).length = _; simp; omega, ?_, ?_⟩
    · exact ((ht5.upd (by omega)).ext hx6 (by omega)).upd (by omega)
    · exact fun b hb hne => (upd_ne (by omega)).trans ((hx6 b (by omega)).trans ((upd_ne (by omega)).trans ((hx5 b hne).trans (hx4 b hb hne))))
    · obtain ⟨e, he⟩ := hr4
      exact ⟨e, (upd_ne (by omega)).trans ((hx6 _ (by omega)).trans ((upd_ne (by omega)).trans ((hx5 _ (by omega)).trans he)))⟩
    · intro d hd
      rcases List.mem_append.1 hd with hd | hd
      · exact hB3 d hd
      · simp at hd; subst hd; omega
    · show Gro (upd h6 _ _) _ _ _ _ _ (B ++ [_]).length (i64s (B ++ [_]))
      have : i64s (B ++ [1 + rr]) = i64s B ++ i64s [1 + rr] := by simp [i64s]
      rw [this, List.length_append]
      exact hg6.extT (bt := 3 * (n + 1) + 2) (fun b hb hne => upd_ne hne) (by omega) (Nat.le_refl _)
  | zero =>
    have hbl : B.length = i0 + 1 := by omega
    repeat (first | refine st_gtT rfl rfl rfl rfl rfl rfl (by omega) ?_ | refine st_gtF rfl rfl rfl rfl rfl rfl (by omega) ?_ | refine st_add rfl rfl rfl rfl rfl rfl (by omega) ?_ | refine st_sub rfl rfl rfl rfl rfl rfl (by omega) ?_ | refine st_I rfl rfl rfl rfl rfl ?_ | refine st_P rfl rfl rfl rfl rfl ?_ | refine st_val (v := .pointer none) rfl rfl rfl rfl rfl ?_)
    simp only [NV, reduceIte, Nat.reduceEqDiff, reduceCtorEq, Nat.one_ne_zero, Nat.zero_ne_one]
    rw [EC_cond_false rfl]
    simp only [NV, reduceIte, Nat.reduceEqDiff, reduceCtorEq, Nat.one_ne_zero, Nat.zero_ne_one]
    repeat (first | refine st_gtT rfl rfl rfl rfl rfl rfl (by omega) ?_ | refine st_gtF rfl rfl rfl rfl rfl rfl (by omega) ?_ | refine st_add rfl rfl rfl rfl rfl rfl (by omega) ?_ | refine st_sub rfl rfl rfl rfl rfl rfl (by omega) ?_ | refine st_I rfl rfl rfl rfl rfl ?_ | refine st_P rfl rfl rfl rfl rfl ?_ | refine st_val (v := .pointer none) rfl rfl rfl rfl rfl ?_)
    refine st_load1 rfl rfl rfl rfl rfl rfl hp4 rfl (v := .slice aB B.length B.length) rfl ?_
    have hfB : Fresh (n + 2) (.slice aB B.length B.length) := hgB.fresh
    refine st_call _ rfl rfl rfl rfl rfl (entries_ok k ⟨by omega, fun d hd => by have := hB3 d hd; omega⟩ ht4 (by omega) hgB.sl (fun x hx => by subst hx; have : 3 * (n + 2) ≤ x.block := hfB; omega)) ?_
    rintro vO h5 n5 w5 ⟨⟨hw5, hn5, ht5, hx5⟩, E, hE, hEl, hgO⟩
    obtain ⟨aO, rfl, _⟩ := hgO.shape
    have hp5 : h5 (3 * (n + 1) + 2) = some (.row [.slice aB B.length B.length, .int .i64 (f : Int), .slice none 0 0, .slice none 0 0, .slice none 0 0] e4) := by rw [hx5 _ (by omega) (by omega)]; exact hp4
    repeat (first | refine st_gtT rfl rfl rfl rfl rfl rfl (by omega) ?_ | refine st_gtF rfl rfl rfl rfl rfl rfl (by omega) ?_ | refine st_add rfl rfl rfl rfl rfl rfl (by omega) ?_ | refine st_sub rfl rfl rfl rfl rfl rfl (by omega) ?_ | refine st_I rfl rfl rfl rfl rfl ?_ | refine st_P rfl rfl rfl rfl rfl ?_ | refine st_val (v := .pointer none) rfl rfl rfl rfl rfl ?_)
    refine st_storeN (cs := [.slice aO E.length E.length]) rfl rfl rfl rfl rfl rfl rfl rfl hp5 (Nat.le_of_ble_eq_true rfl) (by show 3 * n ≤ 3 * (n + 1) + 2; omega) ?_
    simp only [NV, reduceIte, Nat.reduceEqDiff, reduceCtorEq, Nat.one_ne_zero, Nat.zero_ne_one]
    repeat (first | refine st_gtT rfl rfl rfl rfl rfl rfl (by omega) ?_ | refine st_gtF rfl rfl rfl rfl rfl rfl (by omega) ?_ | refine st_add rfl rfl rfl rfl rfl rfl (by omega) ?_ | refine st_sub rfl rfl rfl rfl rfl rfl (by omega) ?_ | refine st_I rfl rfl rfl rfl rfl ?_ | refine st_P rfl rfl rfl rfl rfl ?_ | refine st_val (v := .pointer none) rfl rfl rfl rfl rfl ?_)
    refine st_load1 rfl rfl rfl rfl rfl rfl (upd_same _ _ _) rfl (v := .int .i64 (f : Int)) rfl ?_
    refine st_call _ rfl rfl rfl rfl rfl (wholes_ok k (N := f) (by omega) (ht5.upd (by omega)) (by omega)) ?_
    rintro vF h6 n6 w6 ⟨⟨hw6, hn6, ht6, hx6⟩, S, hSl, hSs, hgF⟩
    obtain ⟨aF, rfl, _⟩ := hgF.shape
    have hp6 : h6 (3 * (n + 1) + 2) = some (.row [.slice aB B.length B.length, .int .i64 (f : Int), .slice aO E.length E.length, .slice none 0 0, .slice none 0 0] e4) := by rw [hx6 _ (by omega) (by omega), upd_same]; rfl
    repeat (first | refine st_gtT rfl rfl rfl rfl rfl rfl (by omega) ?_ | refine st_gtF rfl rfl rfl rfl rfl rfl (by omega) ?_ | refine st_add rfl rfl rfl rfl rfl rfl (by omega) ?_ | refine st_sub rfl rfl rfl rfl rfl rfl (by omega) ?_ | refine st_I rfl rfl rfl rfl rfl ?_ | refine st_P rfl rfl rfl rfl rfl ?_ | refine st_val (v := .pointer none) rfl rfl rfl rfl rfl ?_)
    refine st_storeN (cs := [.slice aF f f]) rfl rfl rfl rfl rfl rfl rfl rfl hp6 (Nat.le_of_ble_eq_true rfl) (by show 3 * n ≤ 3 * (n + 1) + 2; omega) ?_
    simp only [NV, reduceIte, Nat.reduceEqDiff, reduceCtorEq, Nat.one_ne_zero, Nat.zero_ne_one]
    repeat (first | refine st_gtT rfl rfl rfl rfl rfl rfl (by omega) ?_ | refine st_gtF rfl rfl rfl rfl rfl rfl (by omega) ?_ | refine st_add rfl rfl rfl rfl rfl rfl (by omega) ?_ | refine st_sub rfl rfl rfl rfl rfl rfl (by omega) ?_ | refine st_I rfl rfl rfl rfl rfl ?_ | refine st_P rfl rfl rfl rfl rfl ?_ | refine st_val (v := .pointer none) rfl rfl rfl rfl rfl ?_)
    refine st_call _ rfl rfl rfl rfl rfl (next_ok (k + 4) (by omega) (ht6.upd (by omega)) (by omega)) ?_
    rintro _ h7 n7 w7 ⟨hw7, rfl, ht7, hx7, i1, rfl, hi10, hi11⟩
    obtain ⟨i1, rfl⟩ : ∃ f : Nat, i1 = (f : Int) := ⟨i1.toNat, by omega⟩
    repeat (first | refine st_gtT rfl rfl rfl rfl rfl rfl (by omega) ?_ | refine st_gtF rfl rfl rfl rfl rfl rfl (by omega) ?_ | refine st_add rfl rfl rfl rfl rfl rfl (by omega) ?_ | refine st_sub rfl rfl rfl rfl rfl rfl (by omega) ?_ | refine st_I rfl rfl rfl rfl rfl ?_ | refine st_P rfl rfl rfl rfl rfl ?_ | refine st_val (v := .pointer none) rfl rfl rfl rfl rfl ?_)
    simp only [NV, reduceIte, Nat.reduceEqDiff, reduceCtorEq, Nat.one_ne_zero, Nat.zero_ne_one]
    have hp7 : ∃ e, h7 (3 * (n + 1) + 2) = some (.row [.slice aB B.length B.length, .int .i64 (f : Int), .slice aO E.length E.length, .slice aF f f, .slice none 0 0] e) := ⟨e4, by rw [hx7 _ (by omega), upd_same]; rfl⟩
    have hr7 : ∃ e, h7 (3 * n + 2) = some (.row [.slice none 0 0, .int .i64 0, .slice none 0 0, .slice none 0 0, .slice none 0 0] e) := by
      obtain ⟨e, he⟩ := hr4
      exact ⟨e, by rw [hx7 _ (by omega), upd_ne (by omega), hx6 _ (by omega) (by omega), upd_ne (by omega), hx5 _ (by omega) (by omega)]; exact he⟩
    have hxx7 : ExtT n T.bt h h7 := fun b hb hne => by rw [hx7 b hne, upd_ne (by omega), hx6 b (by omega) hne, upd_ne (by omega), hx5 b (by omega) hne]; exact hx4 b hb hne
    have hgB7 : Gro h7 (n + 2) n7 3 1 (.slice aB B.length B.length) B.length (i64s B) :=
      ((((hgB.extT hx5 (by omega) hn5).extT (bt := 3 * (n + 1) + 2) (fun b hb hne => upd_ne hne) (by omega) (Nat.le_refl _)).extT hx6 (by omega) hn6).extT (bt := 3 * (n + 1) + 2) (fun b hb hne => upd_ne hne) (by omega) (Nat.le_refl _)).extT (bt := T.bt) (fun b hb hne => hx7 b hne) (by omega) (Nat.le_refl _)
    have hgO7 : Gro h7 n4 n7 37 4 (.slice aO E.length E.length) E.length (ents E) :=
      (((hgO.extT (bt := 3 * (n + 1) + 2) (fun b hb hne => upd_ne hne) (by omega) (Nat.le_refl _)).extT hx6 (by omega) hn6).extT (bt := 3 * (n + 1) + 2) (fun b hb hne => upd_ne hne) (by omega) (Nat.le_refl _)).extT (bt := T.bt) (fun b hb hne => hx7 b hne) (by omega) (Nat.le_refl _)
    have hgF7 : Gro h7 n5 n7 9 1 (.slice aF f f) f (strs S) :=
      (hgF.extT (bt := 3 * (n + 1) + 2) (fun b hb hne => upd_ne hne) (by omega) (Nat.le_refl _)).extT (bt := T.bt) (fun b hb hne => hx7 b hne) (by omega) (Nat.le_refl _)
    have hw7' : ∀ b ∈ addW (ctx (k + 5) n (Tryz.f18).ntmps).n0 w7 (addW (ctx (k + 5) n (Tryz.f18).ntmps).n0 w6 (addW (ctx (k + 5) n (Tryz.f18).ntmps).n0 w5 w4)), b = T.bt := addW_bt hw7 (addW_bt hw6 (addW_bt hw5 hw4))
    have hfO : Fresh n4 (.slice aO E.length E.length) := hgO.fresh
    have hfF : Fresh n5 (.slice aF f f) := hgF.fresh
    refine EC_for (α := Nat × Value × List Value × List Eqn) (fun z => [(0, .pointer (some ⟨T.bt, 0, none⟩)), (6, .pointer (some ⟨3 * n + 2, 0, none⟩)), (7, .pointer (some ⟨3 * (n + 1) + 2, 0, none⟩)), (9, .int .i64 (z.1 : Int))])
      (fun z h' n' w => (∀ b ∈ w, b = T.bt) ∧ n7 ≤ n' ∧ Tp h' T ∧ ExtT n T.bt h h' ∧ (∃ e, h' (3 * n + 2) = some (.row [.slice none 0 0, .int .i64 0, .slice none 0 0, .slice none 0 0, .slice none 0 0] e)) ∧ (∃ e, h' (3 * (n + 1) + 2) = some (.row [.slice aB B.length B.length, .int .i64 (f : Int), .slice aO E.length E.length, .slice aF f f, z.2.1] e)) ∧ z.1 + z.2.2.2.length = least + i1 ∧
        Gro h' (n + 2) n' 3 1 (.slice aB B.length B.length) B.length (i64s B) ∧ Gro h' n4 n' 37 4 (.slice aO E.length E.length) E.length (ents E) ∧ Gro h' n5 n' 9 1 (.slice aF f f) f (strs S) ∧ Gro h' n7 n' 35 3 z.2.1 z.2.2.2.length z.2.2.1 ∧ EqG h' n7 n' z.2.2.1 z.2.2.2 ∧ z.2.2.1.Pairwise Dis ∧ (∀ v ∈ z.2.2.1, Pt (fun b => 3 * n7 ≤ b) v) ∧ (∀ v ∈ z.2.2.1, ∀ b o l c, z.2.1 = .slice (some ⟨b, o, none⟩) l c → Pt (fun b' => b' ≠ b) v) ∧
        (∀ q ∈ z.2.2.2, EOk B q.es B.length 0 0 ∧ q.es.length ≤ 256 ∧ q.fr.length = f ∧ (∀ s ∈ q.fr, SmallS 2 s) ∧ SmallS 4 q.rhs)) (fun z => z.1)
      (least + i1, .slice none 0 0, [], []) ⟨rfl, rfl, rfl, by show Value.int .i64 _ = Value.int .i64 _; congr 1, trivial⟩ ⟨hw7', Nat.le_refl _, ht7, hxx7, hr7, hp7, rfl, hgB7, hgO7, hgF7, .nil, .nil, .nil, fun v hv => absurd hv List.not_mem_nil, fun v hv => absurd hv List.not_mem_nil, fun q hq => absurd hq List.not_mem_nil⟩ (by show least + i1 < LL; unfold LL; omega) ?_
    rintro ⟨i, vE, ce, qs⟩ t h8 n8 w8 ⟨hw8, hn8, ht8, hx8, hr8, ⟨e8, hp8⟩, hi8, hB8, hO8, hF8, hgE, hEq, hDis, hPt, hPt2, hq8⟩
    simp only at hp8 hi8 hgE hEq hDis hPt hPt2 hq8
    obtain ⟨aE, rfl, hceL⟩ := hgE.shape
    have hfE : Fresh n7 (.slice aE qs.length qs.length) := hgE.fresh
    simp only [NV, reduceIte, Nat.reduceEqDiff, reduceCtorEq, Nat.one_ne_zero, Nat.zero_ne_one]
    cases i with
    | zero =>
      repeat (first | refine st_gtT rfl rfl rfl rfl rfl rfl (by omega) ?_ | refine st_gtF rfl rfl rfl rfl rfl rfl (by omega) ?_ | refine st_add rfl rfl rfl rfl rfl rfl (by omega) ?_ | refine st_sub rfl rfl rfl rfl rfl rfl (by omega) ?_ | refine st_I rfl rfl rfl rfl rfl ?_ | refine st_P rfl rfl rfl rfl rfl ?_ | refine st_val (v := .pointer none) rfl rfl rfl rfl rfl ?_)
      simp only [NV, reduceIte, Nat.reduceEqDiff, reduceCtorEq, Nat.one_ne_zero, Nat.zero_ne_one]
      rw [EC_cond_false rfl]
      simp only [NV, reduceIte, Nat.reduceEqDiff, reduceCtorEq, Nat.one_ne_zero, Nat.zero_ne_one]
      refine st_load (v := .agg #[.slice aB B.length B.length, .int .i64 (f : Int), .slice aO E.length E.length, .slice aF f f, .slice aE qs.length qs.length]) rfl rfl rfl rfl rfl (loadn_eq rfl rfl hp8 rfl (Nat.le_of_ble_eq_true rfl) rfl) ?_
      obtain ⟨er, hr8⟩ := hr8
      refine st_storeW [.slice aB B.length B.length, .int .i64 (f : Int), .slice aO E.length E.length, .slice aF f f, .slice aE qs.length qs.length] rfl rfl rfl rfl rfl rfl rfl rfl hr8 rfl (by show 3 * n ≤ 3 * n + 2; omega) ?_
      simp only [NV, reduceIte, Nat.reduceEqDiff, reduceCtorEq, Nat.one_ne_zero, Nat.zero_ne_one]
      refine retCell rfl rfl rfl rfl rfl (upd_same _ _ _) rfl ⟨⟨hw8, by show n ≤ n8; omega, ht8.upd (by omega), fun b hb hne => (upd_ne (by omega)).trans (hx8 b hb hne)⟩, ⟨B, f, E, S, qs⟩, _, _, _, _, rfl, ⟨n4, n5, n7, ce, by omega, by omega, by omega, by show n7 ≤ n8; omega, (hB8.keep (fun a l c e => upd_ne (by have := Pt.of_fresh hfB a l c e; omega)) (Nat.le_refl _)).lo (by omega), hgB.below, hO8.keep (fun a l c e => upd_ne (by have := Pt.of_fresh hfO a l c e; omega)) (Nat.le_refl _), hgO.below, hF8.keep (fun a l c e => upd_ne (by have := Pt.of_fresh hfF a l c e; omega)) (Nat.le_refl _), hgF7.below, hgE.keep (fun a l c e => upd_ne (by have := Pt.of_fresh hfE a l c e; omega)) (Nat.le_refl _), hEq.keep (fun v hv a l c' e => upd_ne (by have := hPt v hv a l c' e; omega)) (Nat.le_refl _), hDis, ?_, hPt⟩, ?_⟩
      · intro v hv a l c a' l' c' e e'
        obtain ⟨b', o', sp⟩ := a'
        obtain ⟨_, _, e0⟩ := Gro.spot hgE e'
        subst e0
        exact hPt2 v hv _ _ _ _ e' a l c e
      exact ⟨by show 1 ≤ B.length ∧ B.length ≤ 2; omega, hB3, by show f ≤ F; omega, hE, hEl, hSl, hSs, by show least ≤ qs.length ∧ qs.length ≤ 4; omega, hq8⟩
    | succ i =>
      repeat (first | refine st_gtT rfl rfl rfl rfl rfl rfl (by omega) ?_ | refine st_gtF rfl rfl rfl rfl rfl rfl (by omega) ?_ | refine st_add rfl rfl rfl rfl rfl rfl (by omega) ?_ | refine st_sub rfl rfl rfl rfl rfl rfl (by omega) ?_ | refine st_I rfl rfl rfl rfl rfl ?_ | refine st_P rfl rfl rfl rfl rfl ?_ | refine st_val (v := .pointer none) rfl rfl rfl rfl rfl ?_)
      simp only [NV, reduceIte, Nat.reduceEqDiff, reduceCtorEq, Nat.one_ne_zero, Nat.zero_ne_one]
      rw [EC_cond_true rfl]
      simp only [NV, reduceIte, Nat.reduceEqDiff, reduceCtorEq, Nat.one_ne_zero, Nat.zero_ne_one]
      refine EC_draw [0, 1, 0, 0, 8, 28, 0, 0, 128, 508, 0, 2044, 4092, 8188, 16380, 32767, 65535, 131071] rfl ?_
      repeat (first | refine dr_add rfl rfl rfl rfl rfl rfl (by omega) ?_ | refine dr_P rfl rfl rfl rfl rfl ?_)
      refine dr_load rfl rfl rfl rfl rfl rfl (load1_eq rfl hp8 rfl rfl) rfl rfl ?_
      repeat (first | refine dr_add rfl rfl rfl rfl rfl rfl (by omega) ?_ | refine dr_P rfl rfl rfl rfl rfl ?_)
      refine dr_load rfl rfl rfl rfl rfl rfl (load1_eq rfl hp8 rfl rfl) rfl rfl ?_
      refine dr_tape (bt := T.bt) _ rfl rfl rfl rfl rfl rfl rfl (entries_ok k ⟨by omega, fun d hd => by have := hB3 d hd; omega⟩ ht8 (by omega) hB8.sl (fun x hx => by subst hx; have : 3 * (n + 2) ≤ x.block := hfB; omega)) (fun v h' n' W hp => ⟨hp.1.w, hp.1.le⟩) (by simp; omega) ?_
      rintro v9 h9 n9 w9 ⟨⟨hw9, hn9, ht9, hx9⟩, E9, hE9, hEl9, hg9⟩
      obtain ⟨a9, rfl, _⟩ := hg9.shape
      repeat (first | refine dr_add rfl rfl rfl rfl rfl rfl (by omega) ?_ | refine dr_P rfl rfl rfl rfl rfl ?_)
      refine dr_load rfl rfl rfl rfl rfl rfl (load1_eq rfl hp8 rfl rfl) (okEffsF_bt (b := 3 * (n + 1) + 2) (bt := T.bt) (by omega) (by simp; exact hw9)) rfl ?_
      refine dr_tape (bt := T.bt) _ rfl rfl rfl rfl rfl rfl rfl (wholes_ok k (N := f) (by omega) ht9 (by omega)) (fun v h' n' W hp => ⟨hp.1.w, hp.1.le⟩) (by simp; omega) ?_
      rintro v10 h10 n10 w10 ⟨⟨hw10, hn10, ht10, hx10⟩, S10, hSl10, hSs10, hg10⟩
      obtain ⟨a10, rfl, _⟩ := hg10.shape
      repeat (first | refine dr_add rfl rfl rfl rfl rfl rfl (by omega) ?_ | refine dr_P rfl rfl rfl rfl rfl ?_)
      refine dr_tape (bt := T.bt) _ rfl rfl rfl rfl rfl rfl rfl (whole_ok (k + 1) (K := 4) (by omega) ht10 (by omega)) (fun v h' n' W hp => ⟨hp.1, hp.2.1⟩) (by simp; omega) ?_
      rintro _ h11 n11 w11 ⟨hw11, hn11, ht11, hx11, m1, m2, ln, y, rfl, hq11, hy0, hy1, hf11, hln⟩
      refine dr_tape (bt := T.bt) _ rfl rfl rfl rfl rfl rfl rfl (text_ok (k + 1) hq11 (by simp; omega)) (fun v h' n' W hp => ⟨by rw [hp.2.2.1]; exact fun b hb => absurd hb List.not_mem_nil, by rw [hp.2.1]; exact Nat.le_refl _⟩) (by simp; omega) ?_
      rintro _ h12 n12 w12 ⟨e12, e12', rfl, rfl⟩
      subst e12 e12'
      refine dr_val (v := .agg #[.slice a9 E9.length E9.length, .slice a10 f f, .string ⟨⟨ratT ((y : Int) : Rat)⟩⟩]) rfl rfl rfl rfl rfl ?_
      refine dr_mks (cs := [.slice a9 E9.length E9.length, .slice a10 f f, .string ⟨⟨ratT ((y : Int) : Rat)⟩⟩]) rfl rfl rfl rfl rfl ?_
      have hkk : ∀ b, b < 3 * n8 → b ≠ T.bt → upd h12 (3 * n12 + 2) (some (.row [.slice a9 E9.length E9.length, .slice a10 f f, .string ⟨⟨ratT ((y : Int) : Rat)⟩⟩] 35)) b = h8 b := fun b hb hne => by rw [upd_ne (by omega), hx11 b (by omega) hne, hx10 b (by omega) hne, hx9 b hb hne]
      have hgE2 := (((hgE.extT hx9 (by omega) hn9).extT hx10 (by omega) hn10).extT hx11 (by omega) hn11).ext (Ext.upd (b := 3 * n12 + 2) (x := some (.row [.slice a9 E9.length E9.length, .slice a10 f f, .string ⟨⟨ratT ((y : Int) : Rat)⟩⟩] 35)) (by omega)) (Nat.le_succ n12)
      refine dr_app (mm := 1) rfl rfl rfl rfl rfl rfl rfl rfl (by decide) rfl rfl rfl hgE2 (argS_of (upd_same _ _ _) rfl rfl) (Nat.le_refl _) (by omega) rfl rfl (by show n ≤ n7 ∧ _; omega) ?_
      intro v15 h15 W15 hg15 hx15 hk15 hf15
      obtain ⟨a15, rfl, _⟩ := hg15.shape
      repeat (first | refine dr_add rfl rfl rfl rfl rfl rfl (by omega) ?_ | refine dr_P rfl rfl rfl rfl rfl ?_)
      have hp15 : h15 (3 * (n + 1) + 2) = some (.row [.slice aB B.length B.length, .int .i64 (f : Int), .slice aO E.length E.length, .slice aF f f, .slice aE qs.length qs.length] e8) := by rw [hx15 _ (by omega), hkk _ (by omega) (by omega)]; exact hp8
      refine dr_storeN (cs := [.slice a15 (qs.length + 1) (qs.length + 1)]) rfl rfl rfl rfl rfl rfl rfl rfl hp15 (Nat.le_of_ble_eq_true rfl) (by show 3 * n ≤ 3 * (n + 1) + 2; omega) rfl rfl rfl ?_
      simp only [NV, reduceIte, Nat.reduceEqDiff, reduceCtorEq, Nat.one_ne_zero, Nat.zero_ne_one]
      repeat (first | refine st_gtT rfl rfl rfl rfl rfl rfl (by omega) ?_ | refine st_gtF rfl rfl rfl rfl rfl rfl (by omega) ?_ | refine st_add rfl rfl rfl rfl rfl rfl (by omega) ?_ | refine st_sub rfl rfl rfl rfl rfl rfl (by omega) ?_ | refine st_I rfl rfl rfl rfl rfl ?_ | refine st_P rfl rfl rfl rfl rfl ?_ | refine st_val (v := .pointer none) rfl rfl rfl rfl rfl ?_)
      simp only [NV, reduceIte, Nat.reduceEqDiff, reduceCtorEq, Nat.one_ne_zero, Nat.zero_ne_one]
      have hbE : Below n8 (.slice aE qs.length qs.length) := hgE.below
      have hbB : Below n7 (.slice aB B.length B.length) := hgB7.below
      have hbO : Below n7 (.slice aO E.length E.length) := hgO7.below
      have hbF : Below n7 (.slice aF f f) := hgF7.below
      have hb9 : Below n9 (.slice a9 E9.length E9.length) := hg9.below
      have hb10 : Below n10 (.slice a10 f f) := hg10.below
      have hf9 : Fresh n8 (.slice a9 E9.length E9.length) := hg9.fresh
      have hf10 : Fresh n9 (.slice a10 f f) := hg10.fresh
      have neE : ∀ b, (b < 3 * n7 ∨ 3 * n8 ≤ b) → ∀ o l c, Value.slice aE qs.length qs.length ≠ .slice (some ⟨b, o, none⟩) l c := fun b hb o l c e => by
        injection e with e1
        subst e1
        have h1 : b < 3 * n8 := hbE
        have h2 : 3 * n7 ≤ b := hfE
        omega
      have hlow : ∀ {x : Option BF} b, b < 3 * n7 → b ≠ T.bt → b ≠ 3 * (n + 1) + 2 → upd h15 (3 * (n + 1) + 2) x b = h8 b := fun b hb h1 h2 => (upd_ne h2).trans ((hx15 b hb).trans (hkk b (by omega) h1))
      have holdG : ∀ {x : Option BF} {lo : Nat} {e : TypeId} {sz len : Nat} {v : Value} {c : List Value}, Gro h8 lo n8 e sz v len c → Below n7 v → Fresh (n + 2) v → Gro (upd h15 (3 * (n + 1) + 2) x) lo (n12 + 1 + 1) e sz v len c := fun hs hb hf => hs.keep (fun a l c e => by
        subst e
        have h1 : a.block < 3 * n7 := hb
        have h2 : 3 * (n + 2) ≤ a.block := hf
        exact hlow _ h1 (by omega) (by omega)) (by omega)
      have hnew : ∀ {x : Option BF} {sz : Nat} {v : Value} {c : List Value} {hh : HF} {m m' : Nat}, Sl hh m' sz v c → Fresh m v → n8 ≤ m → m' ≤ n12 → (∀ b, 3 * m ≤ b → b < 3 * m' → h12 b = hh b) → Sl (upd h15 (3 * (n + 1) + 2) x) (n12 + 1 + 1) sz v c := fun hs hf hm hm' hk => hs.keep (fun a l c e => by
        subst e
        have h2 : 3 * _ ≤ a.block := hf
        have h1 : a.block < 3 * _ := hs.below
        refine (upd_ne (by omega)).trans ((hk15 _ (by omega) (neE _ (.inr (by omega)))).trans ((upd_ne (by omega)).trans (hk _ h2 h1)))) (by omega)
      have hs9 : ∀ {x : Option BF}, Gro (upd h15 (3 * (n + 1) + 2) x) n7 (n12 + 1 + 1) 37 4 (.slice a9 E9.length E9.length) E9.length (ents E9) := (hg9.keep (fun a l c e => by
        have h2 := Pt.of_fresh hf9 a l c e
        have h1 := Pt.of_below hb9 a l c e
        refine (upd_ne (by omega)).trans ((hk15 _ (by omega) (neE _ (.inr (by omega)))).trans ((upd_ne (by omega)).trans ?_))
        rw [hx11 _ (by omega) (by omega), hx10 _ (by omega) (by omega)]) (by omega)).lo (by omega)
      have hs10 : ∀ {x : Option BF}, Sl (upd h15 (3 * (n + 1) + 2) x) (n12 + 1 + 1) 1 (.slice a10 f f) (strs S10) := hnew hg10.sl hf10 hn9 (by omega) fun b h1 h2 => by rw [hx11 b (by omega) (by omega)]
      have hceb := hEq.toR.belows
      refine goOn (i, .slice a15 (qs.length + 1) (qs.length + 1), ce ++ [.slice a9 E9.length E9.length, .slice a10 f f, .string ⟨⟨ratT ((y : Int) : Rat)⟩⟩], qs ++ [⟨E9, S10, ratT ((y : Int) : Rat)⟩]) (by show i < i + 1; omega) ⟨rfl, rfl, rfl, by show Value.int .i64 _ = Value.int .i64 _; congr 1; omega, trivial⟩ ⟨?_, by show n7 ≤ n12 + 1 + 1; omega, ?_, ?_, ?_, ⟨e8, upd_same _ _ _⟩, by show i + (qs ++ [_]).length = _; simp; omega, holdG hB8 hbB hfB, holdG hO8 hbO (hfO.mono (by omega)), holdG hF8 hbF (hfF.mono (by omega)), ?_, ?_, ?_, ?_, ?_, ?_⟩
      · have hw0 : ∀ b ∈ ([] : List Nat), b = T.bt := fun b hb => absurd hb List.not_mem_nil
        first | exact addW_bt hw0 (addW_bt hw11 (addW_bt hw10 (addW_bt hw9 hw8))) | exact addW_bt hw0 (addW_bt hw0 (addW_bt hw11 (addW_bt hw10 (addW_bt hw9 hw8))))
      · exact ((ht11.upd (by omega)).ext hx15 (by omega)).upd (by omega)
      · exact fun b hb hne => (hlow b (by omega) hne (by omega)).trans (hx8 b hb hne)
      · obtain ⟨er, hr8⟩ := hr8
        exact ⟨er, (hlow _ (by omega) (by omega) (by omega)).trans hr8⟩
      · show Gro _ _ _ _ _ _ (qs ++ [_]).length _
        rw [List.length_append]
        exact hg15.extT (bt := 3 * (n + 1) + 2) (fun b hb hne => upd_ne hne) (by omega) (Nat.le_refl _)
      · refine EqG.snoc (q := ⟨E9, S10, ratT ((y : Int) : Rat)⟩) (hEq.keep (fun v hv a l c' e => ?_) (by show n8 ≤ n12 + 1 + 1; omega)) hs9 hs10
        have h1 := hceb v hv a l c' e
        have h2 := hPt v hv a l c' e
        refine (upd_ne (by omega)).trans ((hk15 _ (by omega) fun o l2 c2 ee => ?_).trans (hkk _ h1 (by omega)))
        exact hPt2 v hv _ _ _ _ ee a l c' e rfl
      · show (ce ++ [_, _, _]).Pairwise Dis
        rw [List.pairwise_append]
        refine ⟨hDis, ?_, fun u hu v hv => ?_⟩
        · refine .cons ?_ (.cons ?_ (.cons ?_ .nil))
          · intro v hv
            simp only [List.mem_cons, List.not_mem_nil, or_false] at hv
            rcases hv with rfl | rfl
            · intro a l c a' l' c' e e'
              have h1 := Pt.of_below hb9 a l c e
              have h2 := Pt.of_fresh hf10 a' l' c' e'
              omega
            · exact fun a l c a' l' c' e e' => by cases e'
          · intro v hv
            simp only [List.mem_cons, List.not_mem_nil, or_false] at hv
            subst hv
            exact fun a l c a' l' c' e e' => by cases e'
          · exact fun v hv => absurd hv List.not_mem_nil
        · intro a l c a' l' c' e e'
          have h1 := hceb u hu a l c e
          simp only [List.mem_cons, List.not_mem_nil, or_false] at hv
          rcases hv with rfl | rfl | rfl
          · have h2 := Pt.of_fresh hf9 a' l' c' e'; omega
          · have h2 := Pt.of_fresh hf10 a' l' c' e'; omega
          · cases e'
      · intro v hv
        rcases List.mem_append.1 hv with hv | hv
        · exact hPt v hv
        · simp only [List.mem_cons, List.not_mem_nil, or_false] at hv
          rcases hv with rfl | rfl | rfl
          · exact fun a l c e => by have := Pt.of_fresh hf9 a l c e; omega
          · exact fun a l c e => by have := Pt.of_fresh hf10 a l c e; omega
          · exact fun a l c e => by cases e
      · intro v hv b o l c ee a l' c' e
        simp only at ee
        have hbb : 3 * (n12 + 1) ≤ b := by
          have : 3 * (n12 + 1) ≤ _ := Pt.of_fresh hf15 _ _ _ ee
          exact this
        rcases List.mem_append.1 hv with hv | hv
        · have := hceb v hv a l' c' e; omega
        · simp only [List.mem_cons, List.not_mem_nil, or_false] at hv
          rcases hv with rfl | rfl | rfl
          · have := Pt.of_below hb9 a l' c' e; omega
          · have := Pt.of_below hb10 a l' c' e; omega
          · cases e
      · intro q hq
        rcases List.mem_append.1 hq with hq | hq
        · exact hq8 q hq
        · simp at hq; subst hq
          exact ⟨hE9, hEl9, hSl10, hSs10, y, hy0, hy1, rfl⟩
end Go.Proofs.YtokfihhdllmbmaaGreatDoor
namespace Go.Proofs.YtokfihhdllmbmaaGreatDoor
open Go Go.GL
theorem Dis.lt {m : Nat} {u v : Value} (hu : Below m u) (hv : Fresh m v) : Dis u v := fun a l c a' l' c' e e' => by
  have h1 := Pt.of_below hu a l c e
  have h2 := Pt.of_fresh hv a' l' c' e'
  omega
theorem Dis.symm {u v : Value} (h : Dis u v) : Dis v u := fun a l c a' l' c' e e' he => h a' l' c' a l c e' e he.symm
theorem Below.mono {m m' : Nat} {v : Value} (h : Below m v) (hm : m ≤ m') : Below m' v := by
  unfold Below at *
  split <;> simp_all
  omega
theorem Sl.dis {h h' : HF} {n n' sz : Nat} {u v : Value} {c : List Value} (s : Sl h n sz u c) (hk : Keep v n h h') (d : Dis u v) (hn : n ≤ n') : Sl h' n' sz u c := by
  cases s with
  | nil ha => exact .nil (nil_mono ha hn)
  | at_ hb hx hc hcap hl he =>
    refine .at_ (by omega) ?_ hc hcap hl he
    rw [hk _ hb fun o l c e => d _ _ _ _ _ _ rfl e rfl]
    exact hx
theorem EqR.dis {h h' : HF} {n n' : Nat} {ce : List Value} {qs : List Eqn} {v : Value} (e : EqR h n ce qs) (hk : Keep v n h h') (d : ∀ u ∈ ce, Dis u v) (hn : n ≤ n') : EqR h' n' ce qs :=
  e.mapS fun u hu _ _ s => s.dis hk (d u hu) hn
theorem EqR.append {h : HF} {n : Nat} {c1 c2 : List Value} {q1 q2 : List Eqn} (e1 : EqR h n c1 q1) (e2 : EqR h n c2 q2) : EqR h n (c1 ++ c2) (q1 ++ q2) := by
  induction e1 with
  | nil => exact e2
  | cons h1 h2 h3 ih => exact .cons h1 h2 ih
theorem Keep.upd {h : HF} {n b o l c : Nat} {x : Option BF} : Keep (.slice (some ⟨b, o, none⟩) l c) n h (GL.upd h b x) := fun b' _ hne => upd_ne fun e => hne o l c (by rw [e])
theorem Gro.inv {h : HF} {lo n : Nat} {e : TypeId} {sz len : Nat} {v : Value} {c : List Value} (g : Gro h lo n e sz v len c) (h0 : len ≠ 0) : ∃ b, v = .slice (some ⟨b, 0, none⟩) len len ∧ 3 * lo ≤ b ∧ b < 3 * n ∧ h b = some (.row c e) ∧ c.length = len * sz := by
  cases g with
  | nil => exact absurd rfl h0
  | at_ hg hlo hb hr hl ho => exact ⟨_, rfl, hlo, hb, hr, hl⟩
structure SdpD (h : HF) (lo n : Nat) (vB vO vF vE : Value) (p : Sdp) (ce : List Value) : Prop where
  gB : Gro h lo n 3 1 vB p.blocks.length (i64s p.blocks)
  gO : Gro h lo n 37 4 vO p.obj.length (ents p.obj)
  gF : Gro h lo n 9 1 vF p.free (strs p.objFree)
  gE : Gro h lo n 35 3 vE p.eqs.length ce
  qE : EqG h lo n ce p.eqs
  dBO : Dis vB vO
  dBF : Dis vB vF
  dBE : Dis vB vE
  dOF : Dis vO vF
  dOE : Dis vO vE
  dFE : Dis vF vE
  dC : ∀ v ∈ ce, Dis v vB ∧ Dis v vO ∧ Dis v vF ∧ Dis v vE
  dP : ce.Pairwise Dis
theorem EqG.lo {h : HF} {lo lo' n : Nat} {cs : List Value} {qs : List Eqn} (e : EqG h lo n cs qs) (hl : lo' ≤ lo) : EqG h lo' n cs qs := by
  induction e with
  | nil => exact .nil
  | cons h1 h2 h3 ih => exact .cons (h1.lo hl) h2 ih
theorem SdpG.toD {h : HF} {lo n : Nat} {vB vO vF vE : Value} {p : Sdp} (g : SdpG h lo n vB vO vF vE p) : ∃ ce, SdpD h lo n vB vO vF vE p ce := by
  obtain ⟨l1, l2, l3, ce, h1, h2, h3, h4, gB, bB, gO, bO, gF, bF, gE, qE, dP, dE, pt⟩ := g
  have fr : ∀ {m : Nat} {u : Value}, m ≤ l3 → Below m u → ∀ v ∈ ce, Dis v u := fun hm hu v hv a l c a' l' c' e e' => by
    have g1 := pt v hv a l c e
    have g2 := Pt.of_below hu a' l' c' e'
    omega
  exact ⟨ce, gB, gO.lo h1, gF.lo (by omega), gE.lo (by omega), qE.lo (by omega), Dis.lt bB gO.fresh, Dis.lt (bB.mono h2) gF.fresh, Dis.lt (bB.mono (by omega)) gE.fresh, Dis.lt bO gF.fresh, Dis.lt (bO.mono h3) gE.fresh, Dis.lt bF gE.fresh, fun v hv => ⟨fr (by omega) bB v hv, fr (by omega) bO v hv, fr (Nat.le_refl _) bF v hv, dE v hv⟩, dP⟩
theorem SdpD.toR {h : HF} {lo n : Nat} {vB vO vF vE : Value} {p : Sdp} {ce : List Value} (g : SdpD h lo n vB vO vF vE p ce) : SdpR h n vB vO vF vE p := ⟨g.gB.sl, g.gO.sl, g.gF.sl, ce, g.gE.sl, g.qE.toR⟩
theorem SdpD.ext {h h' : HF} {lo n n' : Nat} {vB vO vF vE : Value} {p : Sdp} {ce : List Value} (g : SdpD h lo n vB vO vF vE p ce) (hx : Ext n h h') (hn : n ≤ n') : SdpD h' lo n' vB vO vF vE p ce := by
  obtain ⟨gB, gO, gF, gE, qE, d1, d2, d3, d4, d5, d6, d7, d8⟩ := g
  refine ⟨gB.ext hx hn, gO.ext hx hn, gF.ext hx hn, gE.ext hx hn, qE.keep (fun v hv a l c e => hx _ ?_) hn, d1, d2, d3, d4, d5, d6, d7, d8⟩
  exact qE.toR.belows v hv a l c e
section
variable {h h' : HF} {lo n n' : Nat} {vB vO vF vE v' : Value} {p : Sdp} {ce : List Value}
theorem SdpD.setB {B : List Int} (g : SdpD h lo n vB vO vF vE p ce) (hk : Keep vB n h h') (hn : n ≤ n') (hs : Sl h' n' 1 v' (i64s B)) : SdpR h' n' v' vO vF vE { p with blocks := B } :=
  ⟨hs, g.gO.sl.dis hk g.dBO.symm hn, g.gF.sl.dis hk g.dBF.symm hn, ce, g.gE.sl.dis hk g.dBE.symm hn, g.qE.toR.dis hk (fun v hv => (g.dC v hv).1) hn⟩
theorem SdpD.setO {E : List Ent} (g : SdpD h lo n vB vO vF vE p ce) (hk : Keep vO n h h') (hn : n ≤ n') (hs : Sl h' n' 4 v' (ents E)) : SdpR h' n' vB v' vF vE { p with obj := E } :=
  ⟨g.gB.sl.dis hk g.dBO hn, hs, g.gF.sl.dis hk g.dOF.symm hn, ce, g.gE.sl.dis hk g.dOE.symm hn, g.qE.toR.dis hk (fun v hv => (g.dC v hv).2.1) hn⟩
theorem SdpD.setF {S : List (List UInt8)} (g : SdpD h lo n vB vO vF vE p ce) (hk : Keep vF n h h') (hn : n ≤ n') (hs : Sl h' n' 1 v' (strs S)) : SdpR h' n' vB vO v' vE { p with objFree := S } :=
  ⟨g.gB.sl.dis hk g.dBF hn, g.gO.sl.dis hk g.dOF hn, hs, ce, g.gE.sl.dis hk g.dFE.symm hn, g.qE.toR.dis hk (fun v hv => (g.dC v hv).2.2.1) hn⟩
end
theorem EqG.split {h : HF} {lo n : Nat} {ce : List Value} {qs : List Eqn} (e : EqG h lo n ce qs) : ∀ {j : Nat} {q : Eqn}, qs[j]? = some q → ∃ c1 ve vf c2 q1 q2, ce = c1 ++ (ve :: vf :: .string ⟨⟨q.rhs⟩⟩ :: c2) ∧ c1.length = j * 3 ∧ qs = q1 ++ q :: q2 ∧ EqG h lo n c1 q1 ∧ Gro h lo n 37 4 ve q.es.length (ents q.es) ∧ Sl h n 1 vf (strs q.fr) ∧ EqG h lo n c2 q2 := by
  induction e with
  | nil => intro j q hq; simp at hq
  | cons h1 h2 h3 ih =>
    intro j q hq
    cases j with
    | zero =>
      simp only [List.getElem?_cons_zero, Option.some.injEq] at hq
      subst hq
      exact ⟨[], _, _, _, [], _, rfl, rfl, rfl, .nil, h1, h2, h3⟩
    | succ j =>
      simp only [List.getElem?_cons_succ] at hq
      obtain ⟨c1, ve, vf, c2, q1, q2, e1, e2, e3, g1, g2, g3, g4⟩ := ih hq
      subst e1 e3
      exact ⟨_ :: _ :: _ :: c1, ve, vf, c2, _ :: q1, q2, rfl, by simp [e2]; omega, rfl, .cons h1 h2 g1, g2, g3, g4⟩
section
variable {h h' : HF} {lo n n' : Nat} {vB vO vF : Value} {p : Sdp} {ce : List Value}
theorem SdpD.setR {b j : Nat} {q : Eqn} {s : List UInt8} {ty : TypeId} (g : SdpD h lo n vB vO vF (.slice (some ⟨b, 0, none⟩) p.eqs.length p.eqs.length) p ce) (hq : p.eqs[j]? = some q) (hb : b < 3 * n) :
    ∃ q1 q2, p.eqs = q1 ++ q :: q2 ∧ SdpR (upd h b (some (.row (ce.set (j * 3 + 2) (.string ⟨⟨s⟩⟩)) ty))) n vB vO vF (.slice (some ⟨b, 0, none⟩) p.eqs.length p.eqs.length) { p with eqs := q1 ++ ⟨q.es, q.fr, s⟩ :: q2 } := by
  obtain ⟨c1, ve, vf, c2, q1, q2, e1, e2, e3, g1, g2, g3, g4⟩ := g.qE.split hq
  have hk : Keep (.slice (some ⟨b, 0, none⟩) p.eqs.length p.eqs.length) n h (upd h b (some (.row (ce.set (j * 3 + 2) (.string ⟨⟨s⟩⟩)) ty))) := Keep.upd
  have hl : ce.length = p.eqs.length * 3 := g.qE.toR.len
  have hset : ce.set (j * 3 + 2) (.string ⟨⟨s⟩⟩) = c1 ++ (ve :: vf :: .string ⟨⟨s⟩⟩ :: c2) := by
    rw [e1, List.set_append_right _ _ (by omega), e2, show j * 3 + 2 - j * 3 = 2 from by omega]
    rfl
  have hd : ∀ v, v ∈ ce → Dis v (.slice (some ⟨b, 0, none⟩) p.eqs.length p.eqs.length) := fun v hv => (g.dC v hv).2.2.2
  refine ⟨q1, q2, e3, g.gB.sl.dis hk g.dBE (Nat.le_refl _), g.gO.sl.dis hk g.dOE (Nat.le_refl _), g.gF.sl.dis hk g.dFE (Nat.le_refl _), c1 ++ (ve :: vf :: .string ⟨⟨s⟩⟩ :: c2), ?_, ?_⟩
  · rw [hset]
    have hl2 : (c1 ++ (ve :: vf :: Value.string ⟨⟨s⟩⟩ :: c2)).length = p.eqs.length * 3 := by rw [← hset, List.length_set, hl]
    exact .at_ hb (upd_same _ _ _) rfl (Nat.le_refl _) (by omega) (by rw [List.drop_zero, List.take_of_length_le (by omega)])
  · refine EqR.append (g1.toR.dis hk (fun v hv => hd v (by rw [e1]; simp [hv])) (Nat.le_refl _)) ?_
    exact .cons (q := ⟨q.es, q.fr, s⟩) (g2.sl.dis hk (hd ve (by rw [e1]; simp)) (Nat.le_refl _)) (g3.dis hk (hd vf (by rw [e1]; simp)) (Nat.le_refl _)) (g4.toR.dis hk (fun v hv => hd v (by rw [e1]; simp [hv])) (Nat.le_refl _))
theorem SdpD.setE {b j : Nat} {q : Eqn} {E : List Ent} {ty : TypeId} {ve v' : Value} (g : SdpD h lo n vB vO vF (.slice (some ⟨b, 0, none⟩) p.eqs.length p.eqs.length) p ce) (hq : p.eqs[j]? = some q) (hb : b < 3 * n) (hve : ce[j * 3]? = some ve) (hk : Keep ve n h h') (hn : n ≤ n') (hs : Sl h' n' 4 v' (ents E)) (hf : Fresh n v') :
    ∃ q1 q2, p.eqs = q1 ++ q :: q2 ∧ SdpR (upd h' b (some (.row (ce.set (j * 3) v') ty))) n' vB vO vF (.slice (some ⟨b, 0, none⟩) p.eqs.length p.eqs.length) { p with eqs := q1 ++ ⟨E, q.fr, q.rhs⟩ :: q2 } := by
  obtain ⟨c1, ve2, vf, c2, q1, q2, e1, e2, e3, g1, g2, g3, g4⟩ := g.qE.split hq
  have e4 : ve2 = ve := by
    rw [e1, List.getElem?_append_right (by omega), e2, Nat.sub_self] at hve
    simpa using hve
  subst e4
  have hk2 : Keep (.slice (some ⟨b, 0, none⟩) p.eqs.length p.eqs.length) n' h' (upd h' b (some (.row (ce.set (j * 3) v') ty))) := Keep.upd
  have hl : ce.length = p.eqs.length * 3 := g.qE.toR.len
  have hset : ce.set (j * 3) v' = c1 ++ (v' :: vf :: .string ⟨⟨q.rhs⟩⟩ :: c2) := by
    rw [e1, List.set_append_right _ _ (by omega), e2, Nat.sub_self]
    rfl
  have hd : ∀ v, v ∈ ce → Dis v (.slice (some ⟨b, 0, none⟩) p.eqs.length p.eqs.length) := fun v hv => (g.dC v hv).2.2.2
  have hm : ve2 ∈ ce := by rw [e1]; simp
  have hdP := g.dP
  rw [e1, List.pairwise_append] at hdP
  obtain ⟨_, hp2, hp3⟩ := hdP
  rw [List.pairwise_cons] at hp2
  obtain ⟨hp2, _⟩ := hp2
  have hnew : Dis v' (.slice (some ⟨b, 0, none⟩) p.eqs.length p.eqs.length) := fun a l c a' l' c' e e' => by
    have h1 := Pt.of_fresh hf a l c e
    injection e' with e' _ _
    injection e' with e'
    subst e'
    show a.block ≠ b
    omega
  refine ⟨q1, q2, e3, (g.gB.sl.dis hk (g.dC _ hm).1.symm hn).dis hk2 g.dBE (Nat.le_refl _), (g.gO.sl.dis hk (g.dC _ hm).2.1.symm hn).dis hk2 g.dOE (Nat.le_refl _), (g.gF.sl.dis hk (g.dC _ hm).2.2.1.symm hn).dis hk2 g.dFE (Nat.le_refl _), c1 ++ (v' :: vf :: .string ⟨⟨q.rhs⟩⟩ :: c2), ?_, ?_⟩
  · rw [hset]
    have hl2 : (c1 ++ (v' :: vf :: Value.string ⟨⟨q.rhs⟩⟩ :: c2)).length = p.eqs.length * 3 := by rw [← hset, List.length_set, hl]
    exact .at_ (by omega) (upd_same _ _ _) rfl (Nat.le_refl _) (by omega) (by rw [List.drop_zero, List.take_of_length_le (by omega)])
  · refine EqR.append ((g1.toR.dis hk (fun v hv => hp3 v hv _ (by simp)) hn).dis hk2 (fun v hv => hd v (by rw [e1]; simp [hv])) (Nat.le_refl _)) ?_
    exact .cons (q := ⟨E, q.fr, q.rhs⟩) (hs.dis hk2 hnew (Nat.le_refl _)) ((g3.dis hk (hp2 vf (by simp)).symm hn).dis hk2 (hd vf (by rw [e1]; simp)) (Nat.le_refl _)) ((g4.toR.dis hk (fun v hv => (hp2 v (by simp [hv])).symm) hn).dis hk2 (fun v hv => hd v (by rw [e1]; simp [hv])) (Nat.le_refl _))
end
end Go.Proofs.YtokfihhdllmbmaaGreatDoor
namespace Go.Proofs.YtokfihhdllmbmaaGreatDoor
def dig (b : UInt8) : Bool := decide (48 ≤ b.toNat ∧ b.toNat ≤ 57)
theorem dig_iff {b : UInt8} : dig b = true ↔ 48 ≤ b.toNat ∧ b.toNat ≤ 57 := by unfold dig; simp
theorem AllD.all {s : List UInt8} : AllD s ↔ ∀ b ∈ s, dig b = true := by
  unfold AllD
  constructor
  · exact fun h b hb => dig_iff.2 (h b hb)
  · exact fun h b hb => dig_iff.1 (h b hb)
theorem takeWhile_all {p : UInt8 → Bool} {s : List UInt8} : ∀ b ∈ s.takeWhile p, p b = true := by
  induction s with
  | nil => intro b hb; simp at hb
  | cons x s ih =>
    intro b hb
    rw [List.takeWhile_cons] at hb
    split at hb
    · rename_i h
      rcases List.mem_cons.1 hb with rfl | hb
      · exact h
      · exact ih b hb
    · simp at hb
theorem takeWhile_dig {a r : List UInt8} (ha : AllD a) (hr : r = [] ∨ ∃ x r', r = x :: r' ∧ dig x = false) : (a ++ r).takeWhile dig = a ∧ (a ++ r).dropWhile dig = r := by
  induction a with
  | nil =>
    rcases hr with rfl | ⟨x, r', rfl, hx⟩
    · exact ⟨rfl, rfl⟩
    · simp [List.takeWhile_cons, List.dropWhile_cons, hx]
  | cons b a ih =>
    have hb : dig b = true := dig_iff.2 (ha b (by simp))
    have := ih fun c hc => ha c (by simp [hc])
    simp only [List.cons_append, List.takeWhile_cons, List.dropWhile_cons, hb, if_true]
    exact ⟨by rw [this.1], this.2⟩
theorem uint8_eq {a b : UInt8} (h : a.toNat = b.toNat) : a = b := UInt8.toNat_inj.1 h
theorem dig_back {b : UInt8} (h : 48 ≤ b.toNat ∧ b.toNat ≤ 57) : UInt8.ofNat (48 + (b.toNat - 48)) = b := by
  apply uint8_eq
  rw [ofNat_digit (by omega)]
  omega
theorem dec_of {d : List UInt8} (hd : AllD d) (h0 : d ≠ []) (h1 : d.head? ≠ some 48) : dval d ≠ 0 ∧ (decB (dval d)).map UInt8.ofNat = d := by
  induction hl : d.length generalizing d with
  | zero => exact absurd (List.length_eq_zero_iff.1 hl) h0
  | succ m ih =>
    obtain ⟨i, b, rfl⟩ : ∃ i b, d = i ++ [b] := ⟨d.dropLast, d.getLast h0, (List.dropLast_concat_getLast h0).symm⟩
    have hb := hd b (by simp)
    rw [dval_snoc]
    by_cases hi : i = []
    · subst hi
      have hb0 : b.toNat ≠ 48 := fun e => h1 (by show some b = some 48; rw [uint8_eq (a := b) (b := 48) e])
      have e0 : dval [] = 0 := rfl
      rw [e0]
      refine ⟨by omega, ?_⟩
      rw [decB_step (by omega) (.inr (by omega))]
      have : decB 0 = [] := by unfold decB; rw [decD_zero]; rfl
      rw [this, List.nil_append, List.map_cons, List.map_nil, dig_back hb]
      rfl
    · obtain ⟨h2, h3⟩ := ih (d := i) (fun c hc => hd c (by simp [hc])) hi (by
        cases i with
        | nil => exact absurd rfl hi
        | cons x i => simpa using h1) (by simpa using hl)
      refine ⟨by omega, ?_⟩
      rw [decB_step (by omega) (.inl h2), List.map_append, h3, List.map_cons, List.map_nil, dig_back hb]
theorem decT_of {d : List UInt8} (hd : AllD d) (h0 : d ≠ []) (h1 : d.head? ≠ some 48) : decT (dval d) = d := by
  obtain ⟨h2, h3⟩ := dec_of hd h0 h1
  unfold decT
  rw [if_neg h2, h3]
theorem decT_one : decT 1 = [49] := decT_of (d := [49]) (fun b hb => by rw [List.mem_singleton.1 hb]; decide) (by simp) (by simp)
theorem decB_head {V : Nat} (h : V ≠ 0) : ((decB V).map UInt8.ofNat).head? ≠ some 48 := by
  induction V using Nat.strongRecOn with
  | ind V ih =>
    have e : decB V = decB (V / 10) ++ [48 + V % 10] := by
      unfold decB
      rw [decD_pos h]
      simp
    rw [e]
    by_cases h2 : V / 10 = 0
    · have : decB (V / 10) = [] := by unfold decB; rw [h2, decD_zero]; rfl
      rw [this]
      intro he
      simp only [List.nil_append, List.map_cons, List.map_nil, List.head?_cons, Option.some.injEq] at he
      have := ofNat_digit (c := V % 10) (by omega)
      rw [he] at this
      have e48 : (48 : UInt8).toNat = 48 := rfl
      omega
    · have := ih (V / 10) (by omega) h2
      cases hd : (decB (V / 10)).map UInt8.ofNat with
      | nil =>
        have h5 := (decB_all (V / 10)).2
        rw [hd] at h5
        exact absurd h5.symm h2
      | cons x l =>
        rw [List.map_append, hd]
        rw [hd] at this
        simpa using this
theorem decT_head {V : Nat} (h : V ≠ 0) : (decT V).head? ≠ some 48 := by
  unfold decT
  rw [if_neg h]
  exact decB_head h
def spl (s : List UInt8) : List UInt8 × List UInt8 × Bool :=
  let b := bodyOf s
  let m := b.takeWhile dig
  let r := b.dropWhile dig
  if m = [48] then (m, [], !hasMinus s && r.isEmpty)
  else if m = [] ∨ m.head? = some 48 then (m, [], false)
  else if r = [] then (m, [], true)
  else if r.head? ≠ some 47 then (m, [], false)
  else
    let d := (r.drop 1).takeWhile dig
    let r2 := (r.drop 1).dropWhile dig
    (m, d, r2.isEmpty && !d.isEmpty && d.head? != some 48 && d != [49])
theorem body_split (s : List UInt8) : (bodyOf s).takeWhile dig ++ (bodyOf s).dropWhile dig = bodyOf s := List.takeWhile_append_dropWhile
theorem of_body {s : List UInt8} : s = (if hasMinus s then [45] else []) ++ bodyOf s := by
  unfold bodyOf
  by_cases h : hasMinus s = true
  · rw [if_pos h, if_pos h]
    unfold hasMinus at h
    cases s with
    | nil => simp at h
    | cons x s =>
      have : x = 45 := by simpa using h
      subst this
      rfl
  · rw [if_neg h, if_neg h]
    rfl
structure Frm (s : List UInt8) (m d : List UInt8) : Prop where
  dm : AllD m
  m0 : m ≠ []
  dd : AllD d
  lead : m = [48] ∧ hasMinus s = false ∧ d = [] ∨ m.head? ≠ some 48
  den : d = [] ∨ d.head? ≠ some 48 ∧ d ≠ [49]
  eq : s = (if hasMinus s then [45] else []) ++ (m ++ (if d = [] then [] else 47 :: d))
theorem spl_frm {s : List UInt8} {m d : List UInt8} (h : spl s = (m, d, true)) : Frm s m d := by
  have hb := body_split s
  have hs := of_body (s := s)
  have hm : AllD ((bodyOf s).takeWhile dig) := AllD.all.2 takeWhile_all
  unfold spl at h
  simp only at h
  generalize (bodyOf s).takeWhile dig = m0 at *
  generalize (bodyOf s).dropWhile dig = r at *
  split at h
  · rename_i h48
    simp only [Prod.mk.injEq] at h
    obtain ⟨rfl, rfl, h3⟩ := h
    simp only [Bool.and_eq_true, Bool.not_eq_true', List.isEmpty_iff] at h3
    obtain ⟨h3, rfl⟩ := h3
    refine ⟨hm, by rw [h48]; simp, fun b hb => absurd hb (by simp), .inl ⟨h48, h3, rfl⟩, .inl rfl, ?_⟩
    rw [if_pos rfl, hb]; exact hs
  · split at h
    · simp at h
    · rename_i h48 hne
      have hne1 : ¬ m0 = [] := fun e => hne (.inl e)
      have hne2 : ¬ m0.head? = some 48 := fun e => hne (.inr e)
      split at h
      · rename_i hr
        simp only [Prod.mk.injEq] at h
        obtain ⟨rfl, rfl, _⟩ := h
        refine ⟨hm, hne1, fun b hb => absurd hb (by simp), .inr hne2, .inl rfl, ?_⟩
        subst hr
        rw [if_pos rfl, hb]; exact hs
      · split at h
        · simp at h
        · rename_i hr h47
          have h47 : r.head? = some 47 := Classical.not_not.1 h47
          simp only [Prod.mk.injEq] at h
          obtain ⟨rfl, rfl, h3⟩ := h
          simp only [Bool.and_eq_true, Bool.not_eq_true', List.isEmpty_iff, bne_iff_ne, ne_eq] at h3
          obtain ⟨⟨⟨h3, h4⟩, h5⟩, h6⟩ := h3
          obtain ⟨r', rfl⟩ : ∃ r', r = 47 :: r' := by
            cases r with
            | nil => simp at h47
            | cons x r => exact ⟨r, by simp at h47; rw [h47]⟩
          simp only [List.drop_one, List.tail_cons] at h3 h4 h5 h6 ⊢
          have hd : AllD (r'.takeWhile dig) := AllD.all.2 takeWhile_all
          have hd2 : r'.takeWhile dig ++ r'.dropWhile dig = r' := List.takeWhile_append_dropWhile
          rw [h3, List.append_nil] at hd2
          rw [hd2] at hd h4 h5 h6 ⊢
          have hne : ¬ r' = [] := fun e => by rw [e] at h4; simp at h4
          refine ⟨hm, hne1, hd, .inr hne2, .inr ⟨h5, h6⟩, ?_⟩
          rw [if_neg hne, hb]; exact hs
theorem ratT_spl (q : Rat) : spl (ratT q) = (decT q.num.natAbs, (if q.den = 1 then [] else decT q.den), true) := by
  obtain ⟨h1, h2⟩ := ratT_minus q
  obtain ⟨hd, hv, hne⟩ := decT_all q.num.natAbs
  obtain ⟨dd, dvv, dne⟩ := decT_all q.den
  have htw := takeWhile_dig (a := decT q.num.natAbs) (r := if q.den = 1 then [] else 47 :: decT q.den) hd (by
    by_cases h : q.den = 1
    · left; rw [if_pos h]
    · right; rw [if_neg h]; exact ⟨47, _, rfl, rfl⟩)
  have hdw := takeWhile_dig (a := decT q.den) (r := []) dd (.inl rfl)
  rw [List.append_nil] at hdw
  unfold spl
  simp only
  rw [h2, htw.1, htw.2, h1]
  by_cases h0 : q.num = 0
  · have hq : q.den = 1 := by
      have := q.reduced
      rw [h0] at this
      simpa using this
    rw [h0, if_pos hq, if_pos hq]
    rfl
  · have hn0 : q.num.natAbs ≠ 0 := by omega
    have hhd := decT_head hn0
    have h48 : ¬ decT q.num.natAbs = [48] := fun e => hhd (by rw [e]; rfl)
    rw [if_neg h48, if_neg (by rintro (e | e); exact hne e; exact hhd e)]
    by_cases hq : q.den = 1
    · rw [if_pos hq, if_pos rfl, if_pos hq]
    · rw [if_neg hq, if_neg (by simp), if_neg (by simp), if_neg hq]
      simp only [List.drop_one, List.tail_cons]
      rw [hdw.1, hdw.2]
      have hd0 : q.den ≠ 0 := q.den_nz
      have e1 : (decT q.den).isEmpty = false := by cases h : decT q.den with
        | nil => exact absurd h dne
        | cons x l => rfl
      have e2 : ((decT q.den).head? != some 48) = true := by rw [bne_iff_ne]; exact decT_head hd0
      have e3 : (decT q.den != [49]) = true := by
        rw [bne_iff_ne]
        intro e
        have : dval (decT q.den) = 1 := by rw [e]; rfl
        rw [dvv] at this
        exact hq this
      rw [e1, e2, e3]
      rfl
theorem Frm.rat {s m d : List UInt8} (h : Frm s m d) (hg : d = [] ∨ Nat.gcd (dval m) (dval d) = 1) : ∃ q : Rat, ratT q = s ∧ q.num = (if hasMinus s then -(dval m : Int) else dval m) ∧ q.den = (if d = [] then 1 else dval d) := by
  obtain ⟨dm, m0, dd, lead, den, eq⟩ := h
  have hdv : ∃ D : Nat, D ≠ 0 ∧ D = (if d = [] then 1 else dval d) ∧ Nat.gcd (dval m) D = 1 ∧ (if D = 1 then [] else 47 :: decT D) = (if d = [] then [] else 47 :: d) := by
    by_cases hd : d = []
    · refine ⟨1, by decide, by rw [if_pos hd], Nat.gcd_one_right _, by rw [if_pos rfl, if_pos hd]⟩
    · rcases den with h | ⟨h1, h2⟩
      · exact absurd h hd
      · have e := decT_of dd hd h1
        refine ⟨dval d, (dec_of dd hd h1).1, by rw [if_neg hd], hg.resolve_left hd, ?_⟩
        rw [e, if_neg hd, if_neg]
        intro h
        rw [h] at e
        exact h2 (by rw [← e]; exact decT_one)
  obtain ⟨D, D0, hD, hgD, hDt⟩ := hdv
  refine ⟨⟨if hasMinus s then -(dval m : Int) else dval m, D, D0, ?_⟩, ?_, rfl, hD⟩
  · show Nat.Coprime _ _
    unfold Nat.Coprime
    split
    · rw [Int.natAbs_neg]; exact hgD
    · exact hgD
  · have habs : (if hasMinus s then -(dval m : Int) else dval m).natAbs = dval m := by
      split
      · rw [Int.natAbs_neg]; rfl
      · rfl
    have hm : decT (dval m) = m := by
      rcases lead with ⟨h, _, _⟩ | h
      · rw [h]; rfl
      · exact decT_of dm m0 h
    have hsign : (if (if hasMinus s then -(dval m : Int) else dval m) < 0 then [45] else []) = (if hasMinus s then [45] else ([] : List UInt8)) := by
      by_cases hh : hasMinus s = true
      · rw [if_pos hh, if_pos hh]
        rcases lead with ⟨_, h, _⟩ | h
        · rw [h] at hh; cases hh
        · have := (dec_of dm m0 h).1
          rw [if_pos (by omega)]
      · rw [if_neg hh, if_neg hh, if_neg (by omega)]
    show (if (if hasMinus s then -(dval m : Int) else dval m) < 0 then [45] else []) ++ (decT (if hasMinus s then -(dval m : Int) else dval m).natAbs ++ (if D = 1 then [] else 47 :: decT D)) = s
    rw [hsign, habs, hm, hDt]
    exact eq.symm
theorem isNum_spl (s : List UInt8) : isNum s ↔ (spl s).2.2 = true ∧ ((spl s).2.1 = [] ∨ Nat.gcd (dval (spl s).1) (dval (spl s).2.1) = 1) := by
  constructor
  · rintro ⟨q, rfl⟩
    rw [ratT_spl]
    refine ⟨rfl, ?_⟩
    by_cases hq : q.den = 1
    · left; show (if q.den = 1 then [] else _) = _; rw [if_pos hq]
    · right
      show Nat.gcd (dval (decT _)) (dval (if q.den = 1 then [] else _)) = 1
      rw [if_neg hq, (decT_all _).2.1, (decT_all _).2.1]
      exact q.reduced
  · rintro ⟨h1, h2⟩
    have hf := spl_frm (s := s) (m := (spl s).1) (d := (spl s).2.1) (by rw [← h1])
    obtain ⟨q, hq, _⟩ := hf.rat h2
    exact ⟨q, hq⟩
end Go.Proofs.YtokfihhdllmbmaaGreatDoor
