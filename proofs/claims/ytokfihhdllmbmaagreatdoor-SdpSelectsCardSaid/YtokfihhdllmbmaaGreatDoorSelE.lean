import Derived.Below
import Derived.Test.YtokfihhdllmbmaaGreatDoorRows
import Derived.ChangeSame
import Derived.ChangeVars
import Derived.ChangeSlices
import Derived.JoinedOf
import Derived.RowKit
import Derived.RowKitTokens
import Derived.LaidLaws
import Derived.Carry
import Derived.Handed
import Derived.Test.YtokfihhdllmbmaaGreatDoorTie
import Derived.Test.YtokfihhdllmbmaaGreatDoorCards
import Derived.Test.YtokfihhdllmbmaaGreatDoorSelD
set_option linter.unusedVariables false
set_option linter.unusedSimpArgs false
namespace Go.Proofs.YtokfihhdllmbmaaGreatDoor
open Go Go.GL
/-! The statement SdpSelects. -/
theorem known_ok (k : Nat) {h : HF} (hG : GK.G h) (n : Nat) : VF (cal (k + 1)) 14 [] h n fun v => v = .bool true := ⟨_, _, _, _, cal_known k hG n, rfl, rfl, rfl, rfl⟩
theorem SdpR.ext {h h' : HF} {n n' : Nat} {vB vO vF vE : Value} {p : Sdp} (r : SdpR h n vB vO vF vE p) (hx : Ext n h h') (hn : n ≤ n') : SdpR h' n' vB vO vF vE p := by
  obtain ⟨h1, h2, h3, ce, h4, h5⟩ := r
  exact ⟨h1.ext hx hn, h2.ext hx hn, h3.ext hx hn, ce, h4.ext hx hn, h5.ext hx hn⟩
theorem SdpR.zero (h : HF) (n : Nat) : SdpR h n (.slice none 0 0) (.slice none 0 0) (.slice none 0 0) (.slice none 0 0) ⟨[], 0, [], [], []⟩ :=
  ⟨.nil (.inl rfl), .nil (.inl rfl), .nil (.inl rfl), [], .nil (.inl rfl), .nil⟩
theorem SdpLen.zero : SdpLen ⟨[], 0, [], [], []⟩ := ⟨by decide, by decide, by decide, by decide, fun q hq => absurd hq List.not_mem_nil⟩
theorem same_zero (k : Nat) (h : HF) (n : Nat) : VF (cal (k + 2)) 34 [.agg zeroSdp.toArray, .agg zeroSdp.toArray] h n fun v => v = .bool true := by
  have h1 := same_ok k (p := ⟨[], 0, [], [], []⟩) (SdpR.zero h n) (SdpR.zero h n) SdpLen.zero (by decide)
  have e : Value.agg zeroSdp.toArray = .agg #[.slice none 0 0, .int .i64 (((⟨[], 0, [], [], []⟩ : Sdp).free : Nat) : Int), .slice none 0 0, .slice none 0 0, .slice none 0 0] := rfl
  rw [e]
  exact h1
theorem SdpOk.len {F least : Nat} {p : Sdp} (hF : F ≤ 100) (h : SdpOk F least p) : SdpLen p := by
  have h1 := h.bl
  have h2 := h.objl
  have h3 := h.ofl
  have h4 := h.eql
  have h5 := h.free
  exact ⟨by omega, by omega, by omega, by omega, fun q hq => by have := h.eqo q hq; omega⟩
theorem sel_len {p : Sdp} (h : SdpLen p) {K : List Int} (hK : K.length ≤ 1000) : SdpLen (sel p K) := by
  refine ⟨h.blocks, h.obj, h.objFree, ?_, fun q hq => ?_⟩
  · have := List.length_filterMap_le (fun k : Int => p.eqs[k.toNat]?) K
    show (K.filterMap _).length < _
    omega
  · obtain ⟨k, _, hk⟩ := List.mem_filterMap.1 hq
    exact h.eq q (List.mem_of_getElem? hk)
set_option maxHeartbeats 1000000
theorem selects_ok (k : Nat) {h : HF} (hG : GK.G h) {n : Nat} (hn : 20 ≤ n) {aL : Option Addr} {lL cL : Nat} {L : List Int} (hL : Sl h n 1 (.slice aL lL cL) (i64s L)) {aK : Option Addr} {lK cK : Nat} {K : List Int} (hK : Sl h n 1 (.slice aK lK cK) (i64s K)) :
    VF (cal (k + 7)) 6 [.slice aL lL cL, .slice aK lK cK] h n fun v => v = .bool true := by
  refine CF_flat (fn := Tryz.f6) rfl rfl rfl rfl ?_
  have hlK := hK.lenEq (m := K.length) (by omega) (by simp [i64s])
  subst hlK
  simp only [EC_seq, EC_region, EC_block, EC_scope, EC_skip, EC_exit, EC_ret, EC_label, EO_nil, ED_nil, after_normal, after_exit, after_ret, leave_normal, leave_exit, leave_ret, goesOn_exit, goesOn_ret, cut_exit, cut_ret, cutx_exit, cutx_ret, reduceIte, Nat.reduceEqDiff, reduceCtorEq, Nat.one_ne_zero, Nat.zero_ne_one]
  repeat (first | refine st_ltT rfl rfl rfl rfl rfl rfl (by omega) ?_ | refine st_ltF rfl rfl rfl rfl rfl rfl (by omega) ?_ | refine st_gtT rfl rfl rfl rfl rfl rfl (by omega) ?_ | refine st_gtF rfl rfl rfl rfl rfl rfl (by omega) ?_ | refine st_geT rfl rfl rfl rfl rfl rfl (by omega) ?_ | refine st_geF rfl rfl rfl rfl rfl rfl (by omega) ?_ | refine st_eqT rfl rfl rfl rfl rfl rfl (by omega) ?_ | refine st_add rfl rfl rfl rfl rfl rfl (by omega) ?_ | refine st_sub rfl rfl rfl rfl rfl rfl (by omega) ?_ | refine st_I rfl rfl rfl rfl rfl ?_ | refine st_B rfl rfl rfl rfl rfl ?_ | refine st_S rfl rfl rfl rfl rfl ?_ | refine st_P rfl rfl rfl rfl rfl ?_ | refine st_A rfl rfl rfl rfl rfl ?_ | refine st_U rfl rfl rfl rfl rfl ?_ | refine st_val (v := .pointer none) rfl rfl rfl rfl rfl ?_ | refine st_off rfl rfl rfl ?_)
  simp only [EC_seq, EC_region, EC_block, EC_scope, EC_skip, EC_exit, EC_ret, EC_label, EO_nil, ED_nil, after_normal, after_exit, after_ret, leave_normal, leave_exit, leave_ret, goesOn_exit, goesOn_ret, cut_exit, cut_ret, cutx_exit, cutx_ret, reduceIte, Nat.reduceEqDiff, reduceCtorEq, Nat.one_ne_zero, Nat.zero_ne_one]
  repeat (first | refine st_ltT rfl rfl rfl rfl rfl rfl (by omega) ?_ | refine st_ltF rfl rfl rfl rfl rfl rfl (by omega) ?_ | refine st_gtT rfl rfl rfl rfl rfl rfl (by omega) ?_ | refine st_gtF rfl rfl rfl rfl rfl rfl (by omega) ?_ | refine st_geT rfl rfl rfl rfl rfl rfl (by omega) ?_ | refine st_geF rfl rfl rfl rfl rfl rfl (by omega) ?_ | refine st_eqT rfl rfl rfl rfl rfl rfl (by omega) ?_ | refine st_add rfl rfl rfl rfl rfl rfl (by omega) ?_ | refine st_sub rfl rfl rfl rfl rfl rfl (by omega) ?_ | refine st_I rfl rfl rfl rfl rfl ?_ | refine st_B rfl rfl rfl rfl rfl ?_ | refine st_S rfl rfl rfl rfl rfl ?_ | refine st_P rfl rfl rfl rfl rfl ?_ | refine st_A rfl rfl rfl rfl rfl ?_ | refine st_U rfl rfl rfl rfl rfl ?_ | refine st_val (v := .pointer none) rfl rfl rfl rfl rfl ?_ | refine st_off rfl rfl rfl ?_)
  refine st_call _ rfl rfl rfl rfl rfl (new_ok (k + 5) hL) ?_
  rintro _ h1 _ _ ⟨rfl, rfl, hx1, rfl, hT1⟩
  have hprog := program_ok k (F := 2) (least := 0) (by omega) hT1 (n := n + 1) (Nat.le_refl _)
  refine st_call _ rfl rfl rfl rfl rfl hprog ?_
  rintro _ h2 n2 w2 ⟨⟨hw2, hn2, _, hx2⟩, p, vB, vO, vF, vE, rfl, hp, hok, _, _, _, _⟩
  simp only at hw2 hx2
  have hw : addW (ctx (k + 6) n (Tryz.f6).ntmps).n0 w2 [] = [] := addW_big fun b hb => by
    have := hw2 b hb
    show 3 * n ≤ b
    omega
  rw [show addW (ctx (k + 6) n (Tryz.f6).ntmps).n0 w2 (addW (ctx (k + 6) n (Tryz.f6).ntmps).n0 [] []) = [] from hw]
  obtain ⟨aB, lB, cB, rfl, _⟩ := hp.blocks.len
  obtain ⟨aO, lO, cO, rfl, _⟩ := hp.obj.len
  obtain ⟨aF, lF, cF, rfl, _⟩ := hp.objFree.len
  obtain ⟨ce, hE, hEq⟩ := hp.eqs
  obtain ⟨aE, lE, cE, rfl, _⟩ := hE.len
  have hlE := hE.lenEq (m := p.eqs.length) (by omega) hEq.len
  subst hlE
  have heql := hok.eql
  have hfr := hok.free
  refine st_alloc rfl rfl rfl rfl rfl ?_
  refine st_storeW [.slice aB lB cB, .int .i64 (p.free : Int), .slice aO lO cO, .slice aF lF cF, .slice aE p.eqs.length cE] rfl rfl rfl rfl rfl rfl rfl rfl (upd_same _ _ _) rfl (by show 3 * n ≤ 3 * n2 + 2; omega) ?_
  rw [upd_upd]
  generalize hh3 : upd h2 (3 * n2 + 2) _ = h3
  have hr3 : ∃ ty, h3 (3 * n2 + 2) = some (.row [.slice aB lB cB, .int .i64 (p.free : Int), .slice aO lO cO, .slice aF lF cF, .slice aE p.eqs.length cE] ty) := ⟨_, by rw [← hh3, upd_same]⟩
  obtain ⟨ty3, hr3⟩ := hr3
  have hx23 : Ext n2 h2 h3 := by rw [← hh3]; exact Ext.upd (by omega)
  have hx03 : Ext n h h3 := fun b hb => by rw [hx23 b (by omega), hx2 b (by omega) (by omega), hx1 b hb]
  have hG3 : GK.G h3 := G_ext hG hx03 hn
  have hp3 := hp.ext hx23 (Nat.le_succ n2)
  have hK3 := hK.ext hx03 (show n ≤ n2 + 1 by omega)
  simp only [EC_seq, EC_region, EC_block, EC_scope, EC_skip, EC_exit, EC_ret, EC_label, EO_nil, ED_nil, after_normal, after_exit, after_ret, leave_normal, leave_exit, leave_ret, goesOn_exit, goesOn_ret, cut_exit, cut_ret, cutx_exit, cutx_ret, reduceIte, Nat.reduceEqDiff, reduceCtorEq, Nat.one_ne_zero, Nat.zero_ne_one]
  by_cases hK8 : 8 < K.length
  · repeat (first | refine st_ltT rfl rfl rfl rfl rfl rfl (by omega) ?_ | refine st_ltF rfl rfl rfl rfl rfl rfl (by omega) ?_ | refine st_gtT rfl rfl rfl rfl rfl rfl (by omega) ?_ | refine st_gtF rfl rfl rfl rfl rfl rfl (by omega) ?_ | refine st_geT rfl rfl rfl rfl rfl rfl (by omega) ?_ | refine st_geF rfl rfl rfl rfl rfl rfl (by omega) ?_ | refine st_eqT rfl rfl rfl rfl rfl rfl (by omega) ?_ | refine st_add rfl rfl rfl rfl rfl rfl (by omega) ?_ | refine st_sub rfl rfl rfl rfl rfl rfl (by omega) ?_ | refine st_I rfl rfl rfl rfl rfl ?_ | refine st_B rfl rfl rfl rfl rfl ?_ | refine st_S rfl rfl rfl rfl rfl ?_ | refine st_P rfl rfl rfl rfl rfl ?_ | refine st_A rfl rfl rfl rfl rfl ?_ | refine st_U rfl rfl rfl rfl rfl ?_ | refine st_val (v := .pointer none) rfl rfl rfl rfl rfl ?_ | refine st_off rfl rfl rfl ?_)
    simp only [EC_seq, EC_region, EC_block, EC_scope, EC_skip, EC_exit, EC_ret, EC_label, EO_nil, ED_nil, after_normal, after_exit, after_ret, leave_normal, leave_exit, leave_ret, goesOn_exit, goesOn_ret, cut_exit, cut_ret, cutx_exit, cutx_ret, reduceIte, Nat.reduceEqDiff, reduceCtorEq, Nat.one_ne_zero, Nat.zero_ne_one]
    rw [EC_cond_true rfl]
    simp only [EC_seq, EC_region, EC_block, EC_scope, EC_skip, EC_exit, EC_ret, EC_label, EO_nil, ED_nil, after_normal, after_exit, after_ret, leave_normal, leave_exit, leave_ret, goesOn_exit, goesOn_ret, cut_exit, cut_ret, cutx_exit, cutx_ret, reduceIte, Nat.reduceEqDiff, reduceCtorEq, Nat.one_ne_zero, Nat.zero_ne_one]
    refine st_vf _ rfl rfl rfl rfl rfl (known_ok (k + 5) hG3 _) ?_
    rintro _ rfl
    repeat (first | refine st_ltT rfl rfl rfl rfl rfl rfl (by omega) ?_ | refine st_ltF rfl rfl rfl rfl rfl rfl (by omega) ?_ | refine st_gtT rfl rfl rfl rfl rfl rfl (by omega) ?_ | refine st_gtF rfl rfl rfl rfl rfl rfl (by omega) ?_ | refine st_geT rfl rfl rfl rfl rfl rfl (by omega) ?_ | refine st_geF rfl rfl rfl rfl rfl rfl (by omega) ?_ | refine st_eqT rfl rfl rfl rfl rfl rfl (by omega) ?_ | refine st_add rfl rfl rfl rfl rfl rfl (by omega) ?_ | refine st_sub rfl rfl rfl rfl rfl rfl (by omega) ?_ | refine st_I rfl rfl rfl rfl rfl ?_ | refine st_B rfl rfl rfl rfl rfl ?_ | refine st_S rfl rfl rfl rfl rfl ?_ | refine st_P rfl rfl rfl rfl rfl ?_ | refine st_A rfl rfl rfl rfl rfl ?_ | refine st_U rfl rfl rfl rfl rfl ?_ | refine st_val (v := .pointer none) rfl rfl rfl rfl rfl ?_ | refine st_off rfl rfl rfl ?_)
    simp only [EC_seq, EC_region, EC_block, EC_scope, EC_skip, EC_exit, EC_ret, EC_label, EO_nil, ED_nil, after_normal, after_exit, after_ret, leave_normal, leave_exit, leave_ret, goesOn_exit, goesOn_ret, cut_exit, cut_ret, cutx_exit, cutx_ret, reduceIte, Nat.reduceEqDiff, reduceCtorEq, Nat.one_ne_zero, Nat.zero_ne_one]
    exact retF _ rfl (resF_tmp rfl) rfl rfl rfl
  repeat (first | refine st_ltT rfl rfl rfl rfl rfl rfl (by omega) ?_ | refine st_ltF rfl rfl rfl rfl rfl rfl (by omega) ?_ | refine st_gtT rfl rfl rfl rfl rfl rfl (by omega) ?_ | refine st_gtF rfl rfl rfl rfl rfl rfl (by omega) ?_ | refine st_geT rfl rfl rfl rfl rfl rfl (by omega) ?_ | refine st_geF rfl rfl rfl rfl rfl rfl (by omega) ?_ | refine st_eqT rfl rfl rfl rfl rfl rfl (by omega) ?_ | refine st_add rfl rfl rfl rfl rfl rfl (by omega) ?_ | refine st_sub rfl rfl rfl rfl rfl rfl (by omega) ?_ | refine st_I rfl rfl rfl rfl rfl ?_ | refine st_B rfl rfl rfl rfl rfl ?_ | refine st_S rfl rfl rfl rfl rfl ?_ | refine st_P rfl rfl rfl rfl rfl ?_ | refine st_A rfl rfl rfl rfl rfl ?_ | refine st_U rfl rfl rfl rfl rfl ?_ | refine st_val (v := .pointer none) rfl rfl rfl rfl rfl ?_ | refine st_off rfl rfl rfl ?_)
  simp only [EC_seq, EC_region, EC_block, EC_scope, EC_skip, EC_exit, EC_ret, EC_label, EO_nil, ED_nil, after_normal, after_exit, after_ret, leave_normal, leave_exit, leave_ret, goesOn_exit, goesOn_ret, cut_exit, cut_ret, cutx_exit, cutx_ret, reduceIte, Nat.reduceEqDiff, reduceCtorEq, Nat.one_ne_zero, Nat.zero_ne_one]
  rw [EC_cond_false rfl]
  simp only [EC_seq, EC_region, EC_block, EC_scope, EC_skip, EC_exit, EC_ret, EC_label, EO_nil, ED_nil, after_normal, after_exit, after_ret, leave_normal, leave_exit, leave_ret, goesOn_exit, goesOn_ret, cut_exit, cut_ret, cutx_exit, cutx_ret, reduceIte, Nat.reduceEqDiff, reduceCtorEq, Nat.one_ne_zero, Nat.zero_ne_one]
  refine st_load (v := .agg #[.slice aB lB cB, .int .i64 (p.free : Int), .slice aO lO cO, .slice aF lF cF, .slice aE p.eqs.length cE]) rfl rfl rfl rfl rfl (loadn_eq rfl rfl hr3 rfl (Nat.le_of_ble_eq_true rfl) rfl) ?_
  repeat (first | refine st_ltT rfl rfl rfl rfl rfl rfl (by omega) ?_ | refine st_ltF rfl rfl rfl rfl rfl rfl (by omega) ?_ | refine st_gtT rfl rfl rfl rfl rfl rfl (by omega) ?_ | refine st_gtF rfl rfl rfl rfl rfl rfl (by omega) ?_ | refine st_geT rfl rfl rfl rfl rfl rfl (by omega) ?_ | refine st_geF rfl rfl rfl rfl rfl rfl (by omega) ?_ | refine st_eqT rfl rfl rfl rfl rfl rfl (by omega) ?_ | refine st_add rfl rfl rfl rfl rfl rfl (by omega) ?_ | refine st_sub rfl rfl rfl rfl rfl rfl (by omega) ?_ | refine st_I rfl rfl rfl rfl rfl ?_ | refine st_B rfl rfl rfl rfl rfl ?_ | refine st_S rfl rfl rfl rfl rfl ?_ | refine st_P rfl rfl rfl rfl rfl ?_ | refine st_A rfl rfl rfl rfl rfl ?_ | refine st_U rfl rfl rfl rfl rfl ?_ | refine st_val (v := .pointer none) rfl rfl rfl rfl rfl ?_ | refine st_off rfl rfl rfl ?_)
  refine st_call _ rfl rfl rfl rfl rfl (select_ok (k + 2) hG3 (F := 2) (least := 0) (by omega) (by omega) hp3 hok hK3 (by omega)) ?_
  rintro v h4 n4 _ ⟨rfl, hn4, hx4, hres⟩
  obtain ⟨J, c0, c1, c2, c3, c4, ev, rfl, ho, hJ, hgood, hbad, hfin⟩ : ∃ J c0 c1 c2 c3 c4 ev, v = .tuple #[.agg #[c0, c1, c2, c3, c4], .int .i64 ev] ∧ ones [c0, c1, c2, c3, c4] = true ∧ J ≤ K.length ∧ (∀ i, i < J → GoodAt p.eqs.length K i) ∧ (J < K.length → ¬ GoodAt p.eqs.length K J ∧ ev = 3 ∧ [c0, c1, c2, c3, c4] = zeroSdp) ∧ (J = K.length → ev = 0 ∧ c1 = .int .i64 (p.free : Int) ∧ SdpR h4 n4 c0 c2 c3 c4 (sel p K)) := by
    rcases hres with ⟨hg, vB', vO', vF', vE', rfl, hr⟩ | ⟨j, hj, hg, hb, rfl⟩
    · refine ⟨K.length, _, _, _, _, _, _, rfl, ?_, Nat.le_refl _, hg, fun h => absurd h (Nat.lt_irrefl _), fun _ => ⟨rfl, rfl, hr⟩⟩
      obtain ⟨ce', hE', _⟩ := hr.eqs
      rw [hr.blocks.ones]
      show ones [_, _, _] = true
      rw [hr.obj.ones, hr.objFree.ones, hE'.ones]
      rfl
    · exact ⟨j, _, _, _, _, _, _, rfl, rfl, by omega, hg, fun _ => ⟨hb, rfl, rfl⟩, fun h => absurd h (by omega)⟩
  have hr4 : h4 (3 * n2 + 2) = _ := (hx4 _ (by omega)).trans hr3
  repeat (first | refine st_ltT rfl rfl rfl rfl rfl rfl (by omega) ?_ | refine st_ltF rfl rfl rfl rfl rfl rfl (by omega) ?_ | refine st_gtT rfl rfl rfl rfl rfl rfl (by omega) ?_ | refine st_gtF rfl rfl rfl rfl rfl rfl (by omega) ?_ | refine st_geT rfl rfl rfl rfl rfl rfl (by omega) ?_ | refine st_geF rfl rfl rfl rfl rfl rfl (by omega) ?_ | refine st_eqT rfl rfl rfl rfl rfl rfl (by omega) ?_ | refine st_add rfl rfl rfl rfl rfl rfl (by omega) ?_ | refine st_sub rfl rfl rfl rfl rfl rfl (by omega) ?_ | refine st_I rfl rfl rfl rfl rfl ?_ | refine st_B rfl rfl rfl rfl rfl ?_ | refine st_S rfl rfl rfl rfl rfl ?_ | refine st_P rfl rfl rfl rfl rfl ?_ | refine st_A rfl rfl rfl rfl rfl ?_ | refine st_U rfl rfl rfl rfl rfl ?_ | refine st_val (v := .pointer none) rfl rfl rfl rfl rfl ?_ | refine st_off rfl rfl rfl ?_)
  refine st_alloc rfl rfl rfl rfl rfl ?_
  refine st_storeW [c0, c1, c2, c3, c4] rfl rfl rfl rfl rfl rfl rfl ho (upd_same _ _ _) rfl (by show 3 * n ≤ 3 * n4 + 2; omega) ?_
  rw [upd_upd]
  generalize hh5 : upd h4 (3 * n4 + 2) _ = h5
  have hs5 : ∃ ty, h5 (3 * n4 + 2) = some (.row [c0, c1, c2, c3, c4] ty) := ⟨_, by rw [← hh5, upd_same]⟩
  obtain ⟨ty5, hs5⟩ := hs5
  have hx45 : Ext n4 h4 h5 := by rw [← hh5]; exact Ext.upd (by omega)
  have hx35 : Ext (n2 + 1) h3 h5 := fun b hb => by rw [hx45 b (by omega), hx4 b hb]
  have hr5 : h5 (3 * n2 + 2) = _ := (hx35 _ (by omega)).trans hr3
  have hG5 : GK.G h5 := G_ext hG3 hx35 (by omega)
  have hp5 := hp3.ext hx35 (show n2 + 1 ≤ n4 + 1 by omega)
  have hK5 := hK3.ext hx35 (show n2 + 1 ≤ n4 + 1 by omega)
  repeat (first | refine st_ltT rfl rfl rfl rfl rfl rfl (by omega) ?_ | refine st_ltF rfl rfl rfl rfl rfl rfl (by omega) ?_ | refine st_gtT rfl rfl rfl rfl rfl rfl (by omega) ?_ | refine st_gtF rfl rfl rfl rfl rfl rfl (by omega) ?_ | refine st_geT rfl rfl rfl rfl rfl rfl (by omega) ?_ | refine st_geF rfl rfl rfl rfl rfl rfl (by omega) ?_ | refine st_eqT rfl rfl rfl rfl rfl rfl (by omega) ?_ | refine st_add rfl rfl rfl rfl rfl rfl (by omega) ?_ | refine st_sub rfl rfl rfl rfl rfl rfl (by omega) ?_ | refine st_I rfl rfl rfl rfl rfl ?_ | refine st_B rfl rfl rfl rfl rfl ?_ | refine st_S rfl rfl rfl rfl rfl ?_ | refine st_P rfl rfl rfl rfl rfl ?_ | refine st_A rfl rfl rfl rfl rfl ?_ | refine st_U rfl rfl rfl rfl rfl ?_ | refine st_val (v := .pointer none) rfl rfl rfl rfl rfl ?_ | refine st_off rfl rfl rfl ?_)
  simp only [EC_seq, EC_region, EC_block, EC_scope, EC_skip, EC_exit, EC_ret, EC_label, EO_nil, ED_nil, after_normal, after_exit, after_ret, leave_normal, leave_exit, leave_ret, goesOn_exit, goesOn_ret, cut_exit, cut_ret, cutx_exit, cutx_ret, reduceIte, Nat.reduceEqDiff, reduceCtorEq, Nat.one_ne_zero, Nat.zero_ne_one]
  repeat (first | refine st_ltT rfl rfl rfl rfl rfl rfl (by omega) ?_ | refine st_ltF rfl rfl rfl rfl rfl rfl (by omega) ?_ | refine st_gtT rfl rfl rfl rfl rfl rfl (by omega) ?_ | refine st_gtF rfl rfl rfl rfl rfl rfl (by omega) ?_ | refine st_geT rfl rfl rfl rfl rfl rfl (by omega) ?_ | refine st_geF rfl rfl rfl rfl rfl rfl (by omega) ?_ | refine st_eqT rfl rfl rfl rfl rfl rfl (by omega) ?_ | refine st_add rfl rfl rfl rfl rfl rfl (by omega) ?_ | refine st_sub rfl rfl rfl rfl rfl rfl (by omega) ?_ | refine st_I rfl rfl rfl rfl rfl ?_ | refine st_B rfl rfl rfl rfl rfl ?_ | refine st_S rfl rfl rfl rfl rfl ?_ | refine st_P rfl rfl rfl rfl rfl ?_ | refine st_A rfl rfl rfl rfl rfl ?_ | refine st_U rfl rfl rfl rfl rfl ?_ | refine st_val (v := .pointer none) rfl rfl rfl rfl rfl ?_ | refine st_off rfl rfl rfl ?_)
  simp only [EC_seq, EC_region, EC_block, EC_scope, EC_skip, EC_exit, EC_ret, EC_label, EO_nil, ED_nil, after_normal, after_exit, after_ret, leave_normal, leave_exit, leave_ret, goesOn_exit, goesOn_ret, cut_exit, cut_ret, cutx_exit, cutx_ret, reduceIte, Nat.reduceEqDiff, reduceCtorEq, Nat.one_ne_zero, Nat.zero_ne_one]
  refine EC_for (α := Nat) (fun j => [(1, .slice aK K.length cK), (5, .pointer (some ⟨3 * n2 + 2, 0, none⟩)), (6, .pointer (some ⟨3 * n4 + 2, 0, none⟩)), (7, .int .i64 ev), (23, .slice aK K.length cK), (24, .int .i64 (K.length : Int)), (25, .int .i64 (j : Int))])
    (fun j h' n' w => h5 = h' ∧ n' = n4 + 1 ∧ w = [] ∧ j ≤ J) (fun j => K.length - j) 0 ⟨rfl, rfl, rfl, rfl, rfl, rfl, rfl, trivial⟩ ⟨rfl, rfl, rfl, Nat.zero_le _⟩ (by show K.length - 0 < LL; unfold LL; omega) ?_
  rintro j t _ _ _ ⟨rfl, rfl, rfl, hj⟩
  simp only [EC_seq, EC_region, EC_block, EC_scope, EC_skip, EC_exit, EC_ret, EC_label, EO_nil, ED_nil, after_normal, after_exit, after_ret, leave_normal, leave_exit, leave_ret, goesOn_exit, goesOn_ret, cut_exit, cut_ret, cutx_exit, cutx_ret, reduceIte, Nat.reduceEqDiff, reduceCtorEq, Nat.one_ne_zero, Nat.zero_ne_one]
  by_cases hjK : j = K.length
  · have hJK : J = K.length := by omega
    obtain ⟨rfl, rfl, hsel⟩ := hfin hJK
    have hsel5 := hsel.ext hx45 (Nat.le_succ n4)
    repeat (first | refine st_ltT rfl rfl rfl rfl rfl rfl (by omega) ?_ | refine st_ltF rfl rfl rfl rfl rfl rfl (by omega) ?_ | refine st_gtT rfl rfl rfl rfl rfl rfl (by omega) ?_ | refine st_gtF rfl rfl rfl rfl rfl rfl (by omega) ?_ | refine st_geT rfl rfl rfl rfl rfl rfl (by omega) ?_ | refine st_geF rfl rfl rfl rfl rfl rfl (by omega) ?_ | refine st_eqT rfl rfl rfl rfl rfl rfl (by omega) ?_ | refine st_add rfl rfl rfl rfl rfl rfl (by omega) ?_ | refine st_sub rfl rfl rfl rfl rfl rfl (by omega) ?_ | refine st_I rfl rfl rfl rfl rfl ?_ | refine st_B rfl rfl rfl rfl rfl ?_ | refine st_S rfl rfl rfl rfl rfl ?_ | refine st_P rfl rfl rfl rfl rfl ?_ | refine st_A rfl rfl rfl rfl rfl ?_ | refine st_U rfl rfl rfl rfl rfl ?_ | refine st_val (v := .pointer none) rfl rfl rfl rfl rfl ?_ | refine st_off rfl rfl rfl ?_)
    simp only [EC_seq, EC_region, EC_block, EC_scope, EC_skip, EC_exit, EC_ret, EC_label, EO_nil, ED_nil, after_normal, after_exit, after_ret, leave_normal, leave_exit, leave_ret, goesOn_exit, goesOn_ret, cut_exit, cut_ret, cutx_exit, cutx_ret, reduceIte, Nat.reduceEqDiff, reduceCtorEq, Nat.one_ne_zero, Nat.zero_ne_one]
    rw [EC_cond_false rfl]
    simp only [EC_seq, EC_region, EC_block, EC_scope, EC_skip, EC_exit, EC_ret, EC_label, EO_nil, ED_nil, after_normal, after_exit, after_ret, leave_normal, leave_exit, leave_ret, goesOn_exit, goesOn_ret, cut_exit, cut_ret, cutx_exit, cutx_ret, reduceIte, Nat.reduceEqDiff, reduceCtorEq, Nat.one_ne_zero, Nat.zero_ne_one]
    refine EC_draw [0, 1, 3, 7, 15, 31, 63, 63, 63, 447, 1023, 2047, 4095] rfl ?_
    refine dr_call _ rfl rfl rfl rfl rfl rfl rfl (known_ok (k + 5) hG5 _) ?_
    rintro _ _ _ _ ⟨rfl, rfl, rfl, rfl⟩
    refine ⟨rfl, Nat.le_refl _, ?_⟩
    repeat (first | refine dr_I rfl rfl rfl rfl rfl ?_ | refine dr_B rfl rfl rfl rfl rfl ?_ | refine dr_S rfl rfl rfl rfl rfl ?_)
    refine dr_load (v := .agg #[c0, .int .i64 (p.free : Int), c2, c3, c4]) rfl rfl rfl rfl rfl rfl (loadn_eq rfl rfl hs5 rfl (Nat.le_of_ble_eq_true rfl) rfl) (okEffsF_nil (by simp)) rfl ?_
    refine dr_load (v := .agg #[.slice aB lB cB, .int .i64 (p.free : Int), .slice aO lO cO, .slice aF lF cF, .slice aE p.eqs.length cE]) rfl rfl rfl rfl rfl rfl (loadn_eq rfl rfl hr5 rfl (Nat.le_of_ble_eq_true rfl) rfl) (okEffsF_nil (by simp)) rfl ?_
    repeat (first | refine dr_I rfl rfl rfl rfl rfl ?_ | refine dr_B rfl rfl rfl rfl rfl ?_ | refine dr_S rfl rfl rfl rfl rfl ?_)
    refine dr_call _ rfl rfl rfl rfl rfl rfl rfl (selected_ok (k + 5) hp5 (hok.len (by omega)) hK5 (by omega) (fun j hj => hgood j (by omega))) ?_
    rintro _ h6 n6 _ ⟨rfl, hn6, hx6, vB', vO', vF', vE', rfl, hs6⟩
    refine ⟨okLoads_nil, hn6, ?_⟩
    refine dr_call _ rfl rfl rfl rfl rfl rfl rfl (same_ok (k + 4) (p := sel p K) (hsel5.ext hx6 hn6) hs6 (sel_len (hok.len (by omega)) (by omega)) (by show p.free < _; omega)) ?_
    rintro _ _ _ _ ⟨rfl, rfl, rfl, rfl⟩
    refine ⟨okLoads_nil, Nat.le_refl _, ?_⟩
    repeat (first | refine dr_I rfl rfl rfl rfl rfl ?_ | refine dr_B rfl rfl rfl rfl rfl ?_ | refine dr_S rfl rfl rfl rfl rfl ?_)
    simp only [EC_seq, EC_region, EC_block, EC_scope, EC_skip, EC_exit, EC_ret, EC_label, EO_nil, ED_nil, after_normal, after_exit, after_ret, leave_normal, leave_exit, leave_ret, goesOn_exit, goesOn_ret, cut_exit, cut_ret, cutx_exit, cutx_ret, reduceIte, Nat.reduceEqDiff, reduceCtorEq, Nat.one_ne_zero, Nat.zero_ne_one]
    exact retF _ rfl (resF_tmp rfl) rfl rfl rfl
  obtain ⟨kk, hkk⟩ : ∃ x, K[j]? = some x := ⟨K[j]'(by omega), List.getElem?_eq_getElem (by omega)⟩
  obtain ⟨bK, oK, xK, csK, rfl, hbK, hxK, hcK, _, _, heK⟩ := hK5.inv (by omega)
  have gK : csK[oK + j]? = some (.int .i64 kk) := cell_at heK (by rw [i64s, List.getElem?_map, hkk]; rfl)
  have isbad : ¬ GoodAt p.eqs.length K j → ev = 3 ∧ [c0, c1, c2, c3, c4] = zeroSdp := fun hb => by
    have hjJ : j = J := by
      apply Classical.byContradiction
      intro hne
      exact hb (hgood j (by omega))
    subst hjJ
    exact (hbad (by omega)).2
  have isgood : GoodAt p.eqs.length K j → j + 1 ≤ J := fun hg => by
    apply Classical.byContradiction
    intro hne
    have hjJ : j = J := by omega
    subst hjJ
    exact (hbad (by omega)).1 hg
  repeat (first | refine st_ltT rfl rfl rfl rfl rfl rfl (by omega) ?_ | refine st_ltF rfl rfl rfl rfl rfl rfl (by omega) ?_ | refine st_gtT rfl rfl rfl rfl rfl rfl (by omega) ?_ | refine st_gtF rfl rfl rfl rfl rfl rfl (by omega) ?_ | refine st_geT rfl rfl rfl rfl rfl rfl (by omega) ?_ | refine st_geF rfl rfl rfl rfl rfl rfl (by omega) ?_ | refine st_eqT rfl rfl rfl rfl rfl rfl (by omega) ?_ | refine st_add rfl rfl rfl rfl rfl rfl (by omega) ?_ | refine st_sub rfl rfl rfl rfl rfl rfl (by omega) ?_ | refine st_I rfl rfl rfl rfl rfl ?_ | refine st_B rfl rfl rfl rfl rfl ?_ | refine st_S rfl rfl rfl rfl rfl ?_ | refine st_P rfl rfl rfl rfl rfl ?_ | refine st_A rfl rfl rfl rfl rfl ?_ | refine st_U rfl rfl rfl rfl rfl ?_ | refine st_val (v := .pointer none) rfl rfl rfl rfl rfl ?_ | refine st_off rfl rfl rfl ?_)
  simp only [EC_seq, EC_region, EC_block, EC_scope, EC_skip, EC_exit, EC_ret, EC_label, EO_nil, ED_nil, after_normal, after_exit, after_ret, leave_normal, leave_exit, leave_ret, goesOn_exit, goesOn_ret, cut_exit, cut_ret, cutx_exit, cutx_ret, reduceIte, Nat.reduceEqDiff, reduceCtorEq, Nat.one_ne_zero, Nat.zero_ne_one]
  rw [EC_cond_true rfl]
  simp only [EC_seq, EC_region, EC_block, EC_scope, EC_skip, EC_exit, EC_ret, EC_label, EO_nil, ED_nil, after_normal, after_exit, after_ret, leave_normal, leave_exit, leave_ret, goesOn_exit, goesOn_ret, cut_exit, cut_ret, cutx_exit, cutx_ret, reduceIte, Nat.reduceEqDiff, reduceCtorEq, Nat.one_ne_zero, Nat.zero_ne_one]
  repeat (first | refine st_ltT rfl rfl rfl rfl rfl rfl (by omega) ?_ | refine st_ltF rfl rfl rfl rfl rfl rfl (by omega) ?_ | refine st_gtT rfl rfl rfl rfl rfl rfl (by omega) ?_ | refine st_gtF rfl rfl rfl rfl rfl rfl (by omega) ?_ | refine st_geT rfl rfl rfl rfl rfl rfl (by omega) ?_ | refine st_geF rfl rfl rfl rfl rfl rfl (by omega) ?_ | refine st_eqT rfl rfl rfl rfl rfl rfl (by omega) ?_ | refine st_add rfl rfl rfl rfl rfl rfl (by omega) ?_ | refine st_sub rfl rfl rfl rfl rfl rfl (by omega) ?_ | refine st_I rfl rfl rfl rfl rfl ?_ | refine st_B rfl rfl rfl rfl rfl ?_ | refine st_S rfl rfl rfl rfl rfl ?_ | refine st_P rfl rfl rfl rfl rfl ?_ | refine st_A rfl rfl rfl rfl rfl ?_ | refine st_U rfl rfl rfl rfl rfl ?_ | refine st_val (v := .pointer none) rfl rfl rfl rfl rfl ?_ | refine st_off rfl rfl rfl ?_)
  refine st_idx rfl rfl rfl rfl rfl rfl rfl rfl (by omega) ?_
  refine st_load1 rfl rfl rfl rfl rfl rfl hxK hcK (v := .int .i64 kk) (by rw [← gK]; congr 1; omega) ?_
  repeat (first | refine st_ltT rfl rfl rfl rfl rfl rfl (by omega) ?_ | refine st_ltF rfl rfl rfl rfl rfl rfl (by omega) ?_ | refine st_gtT rfl rfl rfl rfl rfl rfl (by omega) ?_ | refine st_gtF rfl rfl rfl rfl rfl rfl (by omega) ?_ | refine st_geT rfl rfl rfl rfl rfl rfl (by omega) ?_ | refine st_geF rfl rfl rfl rfl rfl rfl (by omega) ?_ | refine st_eqT rfl rfl rfl rfl rfl rfl (by omega) ?_ | refine st_add rfl rfl rfl rfl rfl rfl (by omega) ?_ | refine st_sub rfl rfl rfl rfl rfl rfl (by omega) ?_ | refine st_I rfl rfl rfl rfl rfl ?_ | refine st_B rfl rfl rfl rfl rfl ?_ | refine st_S rfl rfl rfl rfl rfl ?_ | refine st_P rfl rfl rfl rfl rfl ?_ | refine st_A rfl rfl rfl rfl rfl ?_ | refine st_U rfl rfl rfl rfl rfl ?_ | refine st_val (v := .pointer none) rfl rfl rfl rfl rfl ?_ | refine st_off rfl rfl rfl ?_)
  simp only [EC_seq, EC_region, EC_block, EC_scope, EC_skip, EC_exit, EC_ret, EC_label, EO_nil, ED_nil, after_normal, after_exit, after_ret, leave_normal, leave_exit, leave_ret, goesOn_exit, goesOn_ret, cut_exit, cut_ret, cutx_exit, cutx_ret, reduceIte, Nat.reduceEqDiff, reduceCtorEq, Nat.one_ne_zero, Nat.zero_ne_one]
  by_cases hk0 : kk < 0
  · obtain ⟨rfl, hz⟩ := isbad fun hg => by have := (hg kk hkk).1; omega
    injection hz with e0 hz; injection hz with e1 hz; injection hz with e2 hz; injection hz with e3 hz; injection hz with e4 hz
    subst e0 e1 e2 e3 e4
    repeat (first | refine st_ltT rfl rfl rfl rfl rfl rfl (by omega) ?_ | refine st_ltF rfl rfl rfl rfl rfl rfl (by omega) ?_ | refine st_gtT rfl rfl rfl rfl rfl rfl (by omega) ?_ | refine st_gtF rfl rfl rfl rfl rfl rfl (by omega) ?_ | refine st_geT rfl rfl rfl rfl rfl rfl (by omega) ?_ | refine st_geF rfl rfl rfl rfl rfl rfl (by omega) ?_ | refine st_eqT rfl rfl rfl rfl rfl rfl (by omega) ?_ | refine st_add rfl rfl rfl rfl rfl rfl (by omega) ?_ | refine st_sub rfl rfl rfl rfl rfl rfl (by omega) ?_ | refine st_I rfl rfl rfl rfl rfl ?_ | refine st_B rfl rfl rfl rfl rfl ?_ | refine st_S rfl rfl rfl rfl rfl ?_ | refine st_P rfl rfl rfl rfl rfl ?_ | refine st_A rfl rfl rfl rfl rfl ?_ | refine st_U rfl rfl rfl rfl rfl ?_ | refine st_val (v := .pointer none) rfl rfl rfl rfl rfl ?_ | refine st_off rfl rfl rfl ?_)
    simp only [EC_seq, EC_region, EC_block, EC_scope, EC_skip, EC_exit, EC_ret, EC_label, EO_nil, ED_nil, after_normal, after_exit, after_ret, leave_normal, leave_exit, leave_ret, goesOn_exit, goesOn_ret, cut_exit, cut_ret, cutx_exit, cutx_ret, reduceIte, Nat.reduceEqDiff, reduceCtorEq, Nat.one_ne_zero, Nat.zero_ne_one]
    rw [EC_cond_true rfl]
    simp only [EC_seq, EC_region, EC_block, EC_scope, EC_skip, EC_exit, EC_ret, EC_label, EO_nil, ED_nil, after_normal, after_exit, after_ret, leave_normal, leave_exit, leave_ret, goesOn_exit, goesOn_ret, cut_exit, cut_ret, cutx_exit, cutx_ret, reduceIte, Nat.reduceEqDiff, reduceCtorEq, Nat.one_ne_zero, Nat.zero_ne_one]
    refine st_vf _ rfl rfl rfl rfl rfl (known_ok (k + 5) hG5 _) ?_
    rintro _ rfl
    repeat (first | refine st_ltT rfl rfl rfl rfl rfl rfl (by omega) ?_ | refine st_ltF rfl rfl rfl rfl rfl rfl (by omega) ?_ | refine st_gtT rfl rfl rfl rfl rfl rfl (by omega) ?_ | refine st_gtF rfl rfl rfl rfl rfl rfl (by omega) ?_ | refine st_geT rfl rfl rfl rfl rfl rfl (by omega) ?_ | refine st_geF rfl rfl rfl rfl rfl rfl (by omega) ?_ | refine st_eqT rfl rfl rfl rfl rfl rfl (by omega) ?_ | refine st_add rfl rfl rfl rfl rfl rfl (by omega) ?_ | refine st_sub rfl rfl rfl rfl rfl rfl (by omega) ?_ | refine st_I rfl rfl rfl rfl rfl ?_ | refine st_B rfl rfl rfl rfl rfl ?_ | refine st_S rfl rfl rfl rfl rfl ?_ | refine st_P rfl rfl rfl rfl rfl ?_ | refine st_A rfl rfl rfl rfl rfl ?_ | refine st_U rfl rfl rfl rfl rfl ?_ | refine st_val (v := .pointer none) rfl rfl rfl rfl rfl ?_ | refine st_off rfl rfl rfl ?_)
    refine st_load (v := .agg zeroSdp.toArray) rfl rfl rfl rfl rfl (loadn_eq rfl rfl hs5 rfl (Nat.le_of_ble_eq_true rfl) rfl) ?_
    refine st_val (v := .agg zeroSdp.toArray) rfl rfl rfl rfl rfl ?_
    refine st_vf _ rfl rfl rfl rfl rfl (same_zero (k + 4) _ _) ?_
    rintro _ rfl
    repeat (first | refine st_ltT rfl rfl rfl rfl rfl rfl (by omega) ?_ | refine st_ltF rfl rfl rfl rfl rfl rfl (by omega) ?_ | refine st_gtT rfl rfl rfl rfl rfl rfl (by omega) ?_ | refine st_gtF rfl rfl rfl rfl rfl rfl (by omega) ?_ | refine st_geT rfl rfl rfl rfl rfl rfl (by omega) ?_ | refine st_geF rfl rfl rfl rfl rfl rfl (by omega) ?_ | refine st_eqT rfl rfl rfl rfl rfl rfl (by omega) ?_ | refine st_add rfl rfl rfl rfl rfl rfl (by omega) ?_ | refine st_sub rfl rfl rfl rfl rfl rfl (by omega) ?_ | refine st_I rfl rfl rfl rfl rfl ?_ | refine st_B rfl rfl rfl rfl rfl ?_ | refine st_S rfl rfl rfl rfl rfl ?_ | refine st_P rfl rfl rfl rfl rfl ?_ | refine st_A rfl rfl rfl rfl rfl ?_ | refine st_U rfl rfl rfl rfl rfl ?_ | refine st_val (v := .pointer none) rfl rfl rfl rfl rfl ?_ | refine st_off rfl rfl rfl ?_)
    simp only [EC_seq, EC_region, EC_block, EC_scope, EC_skip, EC_exit, EC_ret, EC_label, EO_nil, ED_nil, after_normal, after_exit, after_ret, leave_normal, leave_exit, leave_ret, goesOn_exit, goesOn_ret, cut_exit, cut_ret, cutx_exit, cutx_ret, reduceIte, Nat.reduceEqDiff, reduceCtorEq, Nat.one_ne_zero, Nat.zero_ne_one]
    exact retF _ rfl (resF_tmp rfl) rfl rfl rfl
  by_cases hkm : (p.eqs.length : Int) ≤ kk
  · obtain ⟨rfl, hz⟩ := isbad fun hg => by have := (hg kk hkk).2.1; omega
    injection hz with e0 hz; injection hz with e1 hz; injection hz with e2 hz; injection hz with e3 hz; injection hz with e4 hz
    subst e0 e1 e2 e3 e4
    repeat (first | refine st_ltT rfl rfl rfl rfl rfl rfl (by omega) ?_ | refine st_ltF rfl rfl rfl rfl rfl rfl (by omega) ?_ | refine st_gtT rfl rfl rfl rfl rfl rfl (by omega) ?_ | refine st_gtF rfl rfl rfl rfl rfl rfl (by omega) ?_ | refine st_geT rfl rfl rfl rfl rfl rfl (by omega) ?_ | refine st_geF rfl rfl rfl rfl rfl rfl (by omega) ?_ | refine st_eqT rfl rfl rfl rfl rfl rfl (by omega) ?_ | refine st_add rfl rfl rfl rfl rfl rfl (by omega) ?_ | refine st_sub rfl rfl rfl rfl rfl rfl (by omega) ?_ | refine st_I rfl rfl rfl rfl rfl ?_ | refine st_B rfl rfl rfl rfl rfl ?_ | refine st_S rfl rfl rfl rfl rfl ?_ | refine st_P rfl rfl rfl rfl rfl ?_ | refine st_A rfl rfl rfl rfl rfl ?_ | refine st_U rfl rfl rfl rfl rfl ?_ | refine st_val (v := .pointer none) rfl rfl rfl rfl rfl ?_ | refine st_off rfl rfl rfl ?_)
    refine st_load1 rfl rfl rfl rfl rfl rfl hr5 rfl (v := .slice aE p.eqs.length cE) rfl ?_
    repeat (first | refine st_ltT rfl rfl rfl rfl rfl rfl (by omega) ?_ | refine st_ltF rfl rfl rfl rfl rfl rfl (by omega) ?_ | refine st_gtT rfl rfl rfl rfl rfl rfl (by omega) ?_ | refine st_gtF rfl rfl rfl rfl rfl rfl (by omega) ?_ | refine st_geT rfl rfl rfl rfl rfl rfl (by omega) ?_ | refine st_geF rfl rfl rfl rfl rfl rfl (by omega) ?_ | refine st_eqT rfl rfl rfl rfl rfl rfl (by omega) ?_ | refine st_add rfl rfl rfl rfl rfl rfl (by omega) ?_ | refine st_sub rfl rfl rfl rfl rfl rfl (by omega) ?_ | refine st_I rfl rfl rfl rfl rfl ?_ | refine st_B rfl rfl rfl rfl rfl ?_ | refine st_S rfl rfl rfl rfl rfl ?_ | refine st_P rfl rfl rfl rfl rfl ?_ | refine st_A rfl rfl rfl rfl rfl ?_ | refine st_U rfl rfl rfl rfl rfl ?_ | refine st_val (v := .pointer none) rfl rfl rfl rfl rfl ?_ | refine st_off rfl rfl rfl ?_)
    simp only [EC_seq, EC_region, EC_block, EC_scope, EC_skip, EC_exit, EC_ret, EC_label, EO_nil, ED_nil, after_normal, after_exit, after_ret, leave_normal, leave_exit, leave_ret, goesOn_exit, goesOn_ret, cut_exit, cut_ret, cutx_exit, cutx_ret, reduceIte, Nat.reduceEqDiff, reduceCtorEq, Nat.one_ne_zero, Nat.zero_ne_one]
    rw [EC_cond_true rfl]
    simp only [EC_seq, EC_region, EC_block, EC_scope, EC_skip, EC_exit, EC_ret, EC_label, EO_nil, ED_nil, after_normal, after_exit, after_ret, leave_normal, leave_exit, leave_ret, goesOn_exit, goesOn_ret, cut_exit, cut_ret, cutx_exit, cutx_ret, reduceIte, Nat.reduceEqDiff, reduceCtorEq, Nat.one_ne_zero, Nat.zero_ne_one]
    refine st_vf _ rfl rfl rfl rfl rfl (known_ok (k + 5) hG5 _) ?_
    rintro _ rfl
    repeat (first | refine st_ltT rfl rfl rfl rfl rfl rfl (by omega) ?_ | refine st_ltF rfl rfl rfl rfl rfl rfl (by omega) ?_ | refine st_gtT rfl rfl rfl rfl rfl rfl (by omega) ?_ | refine st_gtF rfl rfl rfl rfl rfl rfl (by omega) ?_ | refine st_geT rfl rfl rfl rfl rfl rfl (by omega) ?_ | refine st_geF rfl rfl rfl rfl rfl rfl (by omega) ?_ | refine st_eqT rfl rfl rfl rfl rfl rfl (by omega) ?_ | refine st_add rfl rfl rfl rfl rfl rfl (by omega) ?_ | refine st_sub rfl rfl rfl rfl rfl rfl (by omega) ?_ | refine st_I rfl rfl rfl rfl rfl ?_ | refine st_B rfl rfl rfl rfl rfl ?_ | refine st_S rfl rfl rfl rfl rfl ?_ | refine st_P rfl rfl rfl rfl rfl ?_ | refine st_A rfl rfl rfl rfl rfl ?_ | refine st_U rfl rfl rfl rfl rfl ?_ | refine st_val (v := .pointer none) rfl rfl rfl rfl rfl ?_ | refine st_off rfl rfl rfl ?_)
    refine st_load (v := .agg zeroSdp.toArray) rfl rfl rfl rfl rfl (loadn_eq rfl rfl hs5 rfl (Nat.le_of_ble_eq_true rfl) rfl) ?_
    refine st_val (v := .agg zeroSdp.toArray) rfl rfl rfl rfl rfl ?_
    refine st_vf _ rfl rfl rfl rfl rfl (same_zero (k + 4) _ _) ?_
    rintro _ rfl
    repeat (first | refine st_ltT rfl rfl rfl rfl rfl rfl (by omega) ?_ | refine st_ltF rfl rfl rfl rfl rfl rfl (by omega) ?_ | refine st_gtT rfl rfl rfl rfl rfl rfl (by omega) ?_ | refine st_gtF rfl rfl rfl rfl rfl rfl (by omega) ?_ | refine st_geT rfl rfl rfl rfl rfl rfl (by omega) ?_ | refine st_geF rfl rfl rfl rfl rfl rfl (by omega) ?_ | refine st_eqT rfl rfl rfl rfl rfl rfl (by omega) ?_ | refine st_add rfl rfl rfl rfl rfl rfl (by omega) ?_ | refine st_sub rfl rfl rfl rfl rfl rfl (by omega) ?_ | refine st_I rfl rfl rfl rfl rfl ?_ | refine st_B rfl rfl rfl rfl rfl ?_ | refine st_S rfl rfl rfl rfl rfl ?_ | refine st_P rfl rfl rfl rfl rfl ?_ | refine st_A rfl rfl rfl rfl rfl ?_ | refine st_U rfl rfl rfl rfl rfl ?_ | refine st_val (v := .pointer none) rfl rfl rfl rfl rfl ?_ | refine st_off rfl rfl rfl ?_)
    simp only [EC_seq, EC_region, EC_block, EC_scope, EC_skip, EC_exit, EC_ret, EC_label, EO_nil, ED_nil, after_normal, after_exit, after_ret, leave_normal, leave_exit, leave_ret, goesOn_exit, goesOn_ret, cut_exit, cut_ret, cutx_exit, cutx_ret, reduceIte, Nat.reduceEqDiff, reduceCtorEq, Nat.one_ne_zero, Nat.zero_ne_one]
    exact retF _ rfl (resF_tmp rfl) rfl rfl rfl
  by_cases hj0 : j = 0
  · repeat (first | refine st_ltT rfl rfl rfl rfl rfl rfl (by omega) ?_ | refine st_ltF rfl rfl rfl rfl rfl rfl (by omega) ?_ | refine st_gtT rfl rfl rfl rfl rfl rfl (by omega) ?_ | refine st_gtF rfl rfl rfl rfl rfl rfl (by omega) ?_ | refine st_geT rfl rfl rfl rfl rfl rfl (by omega) ?_ | refine st_geF rfl rfl rfl rfl rfl rfl (by omega) ?_ | refine st_eqT rfl rfl rfl rfl rfl rfl (by omega) ?_ | refine st_add rfl rfl rfl rfl rfl rfl (by omega) ?_ | refine st_sub rfl rfl rfl rfl rfl rfl (by omega) ?_ | refine st_I rfl rfl rfl rfl rfl ?_ | refine st_B rfl rfl rfl rfl rfl ?_ | refine st_S rfl rfl rfl rfl rfl ?_ | refine st_P rfl rfl rfl rfl rfl ?_ | refine st_A rfl rfl rfl rfl rfl ?_ | refine st_U rfl rfl rfl rfl rfl ?_ | refine st_val (v := .pointer none) rfl rfl rfl rfl rfl ?_ | refine st_off rfl rfl rfl ?_)
    refine st_load1 rfl rfl rfl rfl rfl rfl hr5 rfl (v := .slice aE p.eqs.length cE) rfl ?_
    repeat (first | refine st_ltT rfl rfl rfl rfl rfl rfl (by omega) ?_ | refine st_ltF rfl rfl rfl rfl rfl rfl (by omega) ?_ | refine st_gtT rfl rfl rfl rfl rfl rfl (by omega) ?_ | refine st_gtF rfl rfl rfl rfl rfl rfl (by omega) ?_ | refine st_geT rfl rfl rfl rfl rfl rfl (by omega) ?_ | refine st_geF rfl rfl rfl rfl rfl rfl (by omega) ?_ | refine st_eqT rfl rfl rfl rfl rfl rfl (by omega) ?_ | refine st_add rfl rfl rfl rfl rfl rfl (by omega) ?_ | refine st_sub rfl rfl rfl rfl rfl rfl (by omega) ?_ | refine st_I rfl rfl rfl rfl rfl ?_ | refine st_B rfl rfl rfl rfl rfl ?_ | refine st_S rfl rfl rfl rfl rfl ?_ | refine st_P rfl rfl rfl rfl rfl ?_ | refine st_A rfl rfl rfl rfl rfl ?_ | refine st_U rfl rfl rfl rfl rfl ?_ | refine st_val (v := .pointer none) rfl rfl rfl rfl rfl ?_ | refine st_off rfl rfl rfl ?_)
    simp only [EC_seq, EC_region, EC_block, EC_scope, EC_skip, EC_exit, EC_ret, EC_label, EO_nil, ED_nil, after_normal, after_exit, after_ret, leave_normal, leave_exit, leave_ret, goesOn_exit, goesOn_ret, cut_exit, cut_ret, cutx_exit, cutx_ret, reduceIte, Nat.reduceEqDiff, reduceCtorEq, Nat.one_ne_zero, Nat.zero_ne_one]
    rw [EC_cond_false rfl]
    simp only [EC_seq, EC_region, EC_block, EC_scope, EC_skip, EC_exit, EC_ret, EC_label, EO_nil, ED_nil, after_normal, after_exit, after_ret, leave_normal, leave_exit, leave_ret, goesOn_exit, goesOn_ret, cut_exit, cut_ret, cutx_exit, cutx_ret, reduceIte, Nat.reduceEqDiff, reduceCtorEq, Nat.one_ne_zero, Nat.zero_ne_one]
    repeat (first | refine st_ltT rfl rfl rfl rfl rfl rfl (by omega) ?_ | refine st_ltF rfl rfl rfl rfl rfl rfl (by omega) ?_ | refine st_gtT rfl rfl rfl rfl rfl rfl (by omega) ?_ | refine st_gtF rfl rfl rfl rfl rfl rfl (by omega) ?_ | refine st_geT rfl rfl rfl rfl rfl rfl (by omega) ?_ | refine st_geF rfl rfl rfl rfl rfl rfl (by omega) ?_ | refine st_eqT rfl rfl rfl rfl rfl rfl (by omega) ?_ | refine st_add rfl rfl rfl rfl rfl rfl (by omega) ?_ | refine st_sub rfl rfl rfl rfl rfl rfl (by omega) ?_ | refine st_I rfl rfl rfl rfl rfl ?_ | refine st_B rfl rfl rfl rfl rfl ?_ | refine st_S rfl rfl rfl rfl rfl ?_ | refine st_P rfl rfl rfl rfl rfl ?_ | refine st_A rfl rfl rfl rfl rfl ?_ | refine st_U rfl rfl rfl rfl rfl ?_ | refine st_val (v := .pointer none) rfl rfl rfl rfl rfl ?_ | refine st_off rfl rfl rfl ?_)
    simp only [EC_seq, EC_region, EC_block, EC_scope, EC_skip, EC_exit, EC_ret, EC_label, EO_nil, ED_nil, after_normal, after_exit, after_ret, leave_normal, leave_exit, leave_ret, goesOn_exit, goesOn_ret, cut_exit, cut_ret, cutx_exit, cutx_ret, reduceIte, Nat.reduceEqDiff, reduceCtorEq, Nat.one_ne_zero, Nat.zero_ne_one]
    refine goOn (j + 1) (by show K.length - (j + 1) < K.length - j; omega) ⟨rfl, rfl, rfl, rfl, rfl, rfl, by show Value.int .i64 _ = Value.int .i64 _; congr 1, trivial⟩ ⟨rfl, rfl, rfl, isgood ?_⟩
    intro k' hk'
    rw [hkk] at hk'
    injection hk' with hk'
    subst hk'
    exact ⟨by omega, by omega, fun k2 h0 => by omega⟩
  obtain ⟨k2, hk2⟩ : ∃ x, K[j - 1]? = some x := ⟨K[j - 1]'(by omega), List.getElem?_eq_getElem (by omega)⟩
  have gK2 : csK[oK + (j - 1)]? = some (.int .i64 k2) := cell_at heK (by rw [i64s, List.getElem?_map, hk2]; rfl)
  by_cases hlt : k2 < kk
  · repeat (first | refine st_ltT rfl rfl rfl rfl rfl rfl (by omega) ?_ | refine st_ltF rfl rfl rfl rfl rfl rfl (by omega) ?_ | refine st_gtT rfl rfl rfl rfl rfl rfl (by omega) ?_ | refine st_gtF rfl rfl rfl rfl rfl rfl (by omega) ?_ | refine st_geT rfl rfl rfl rfl rfl rfl (by omega) ?_ | refine st_geF rfl rfl rfl rfl rfl rfl (by omega) ?_ | refine st_eqT rfl rfl rfl rfl rfl rfl (by omega) ?_ | refine st_add rfl rfl rfl rfl rfl rfl (by omega) ?_ | refine st_sub rfl rfl rfl rfl rfl rfl (by omega) ?_ | refine st_I rfl rfl rfl rfl rfl ?_ | refine st_B rfl rfl rfl rfl rfl ?_ | refine st_S rfl rfl rfl rfl rfl ?_ | refine st_P rfl rfl rfl rfl rfl ?_ | refine st_A rfl rfl rfl rfl rfl ?_ | refine st_U rfl rfl rfl rfl rfl ?_ | refine st_val (v := .pointer none) rfl rfl rfl rfl rfl ?_ | refine st_off rfl rfl rfl ?_)
    refine st_load1 rfl rfl rfl rfl rfl rfl hr5 rfl (v := .slice aE p.eqs.length cE) rfl ?_
    repeat (first | refine st_ltT rfl rfl rfl rfl rfl rfl (by omega) ?_ | refine st_ltF rfl rfl rfl rfl rfl rfl (by omega) ?_ | refine st_gtT rfl rfl rfl rfl rfl rfl (by omega) ?_ | refine st_gtF rfl rfl rfl rfl rfl rfl (by omega) ?_ | refine st_geT rfl rfl rfl rfl rfl rfl (by omega) ?_ | refine st_geF rfl rfl rfl rfl rfl rfl (by omega) ?_ | refine st_eqT rfl rfl rfl rfl rfl rfl (by omega) ?_ | refine st_add rfl rfl rfl rfl rfl rfl (by omega) ?_ | refine st_sub rfl rfl rfl rfl rfl rfl (by omega) ?_ | refine st_I rfl rfl rfl rfl rfl ?_ | refine st_B rfl rfl rfl rfl rfl ?_ | refine st_S rfl rfl rfl rfl rfl ?_ | refine st_P rfl rfl rfl rfl rfl ?_ | refine st_A rfl rfl rfl rfl rfl ?_ | refine st_U rfl rfl rfl rfl rfl ?_ | refine st_val (v := .pointer none) rfl rfl rfl rfl rfl ?_ | refine st_off rfl rfl rfl ?_)
    refine st_idx rfl rfl rfl rfl rfl rfl rfl rfl (by omega) ?_
    refine st_load1 rfl rfl rfl rfl rfl rfl hxK hcK (v := .int .i64 k2) (by rw [← gK2]; congr 1; omega) ?_
    repeat (first | refine st_ltT rfl rfl rfl rfl rfl rfl (by omega) ?_ | refine st_ltF rfl rfl rfl rfl rfl rfl (by omega) ?_ | refine st_gtT rfl rfl rfl rfl rfl rfl (by omega) ?_ | refine st_gtF rfl rfl rfl rfl rfl rfl (by omega) ?_ | refine st_geT rfl rfl rfl rfl rfl rfl (by omega) ?_ | refine st_geF rfl rfl rfl rfl rfl rfl (by omega) ?_ | refine st_eqT rfl rfl rfl rfl rfl rfl (by omega) ?_ | refine st_add rfl rfl rfl rfl rfl rfl (by omega) ?_ | refine st_sub rfl rfl rfl rfl rfl rfl (by omega) ?_ | refine st_I rfl rfl rfl rfl rfl ?_ | refine st_B rfl rfl rfl rfl rfl ?_ | refine st_S rfl rfl rfl rfl rfl ?_ | refine st_P rfl rfl rfl rfl rfl ?_ | refine st_A rfl rfl rfl rfl rfl ?_ | refine st_U rfl rfl rfl rfl rfl ?_ | refine st_val (v := .pointer none) rfl rfl rfl rfl rfl ?_ | refine st_off rfl rfl rfl ?_)
    simp only [EC_seq, EC_region, EC_block, EC_scope, EC_skip, EC_exit, EC_ret, EC_label, EO_nil, ED_nil, after_normal, after_exit, after_ret, leave_normal, leave_exit, leave_ret, goesOn_exit, goesOn_ret, cut_exit, cut_ret, cutx_exit, cutx_ret, reduceIte, Nat.reduceEqDiff, reduceCtorEq, Nat.one_ne_zero, Nat.zero_ne_one]
    rw [EC_cond_false rfl]
    simp only [EC_seq, EC_region, EC_block, EC_scope, EC_skip, EC_exit, EC_ret, EC_label, EO_nil, ED_nil, after_normal, after_exit, after_ret, leave_normal, leave_exit, leave_ret, goesOn_exit, goesOn_ret, cut_exit, cut_ret, cutx_exit, cutx_ret, reduceIte, Nat.reduceEqDiff, reduceCtorEq, Nat.one_ne_zero, Nat.zero_ne_one]
    repeat (first | refine st_ltT rfl rfl rfl rfl rfl rfl (by omega) ?_ | refine st_ltF rfl rfl rfl rfl rfl rfl (by omega) ?_ | refine st_gtT rfl rfl rfl rfl rfl rfl (by omega) ?_ | refine st_gtF rfl rfl rfl rfl rfl rfl (by omega) ?_ | refine st_geT rfl rfl rfl rfl rfl rfl (by omega) ?_ | refine st_geF rfl rfl rfl rfl rfl rfl (by omega) ?_ | refine st_eqT rfl rfl rfl rfl rfl rfl (by omega) ?_ | refine st_add rfl rfl rfl rfl rfl rfl (by omega) ?_ | refine st_sub rfl rfl rfl rfl rfl rfl (by omega) ?_ | refine st_I rfl rfl rfl rfl rfl ?_ | refine st_B rfl rfl rfl rfl rfl ?_ | refine st_S rfl rfl rfl rfl rfl ?_ | refine st_P rfl rfl rfl rfl rfl ?_ | refine st_A rfl rfl rfl rfl rfl ?_ | refine st_U rfl rfl rfl rfl rfl ?_ | refine st_val (v := .pointer none) rfl rfl rfl rfl rfl ?_ | refine st_off rfl rfl rfl ?_)
    simp only [EC_seq, EC_region, EC_block, EC_scope, EC_skip, EC_exit, EC_ret, EC_label, EO_nil, ED_nil, after_normal, after_exit, after_ret, leave_normal, leave_exit, leave_ret, goesOn_exit, goesOn_ret, cut_exit, cut_ret, cutx_exit, cutx_ret, reduceIte, Nat.reduceEqDiff, reduceCtorEq, Nat.one_ne_zero, Nat.zero_ne_one]
    refine goOn (j + 1) (by show K.length - (j + 1) < K.length - j; omega) ⟨rfl, rfl, rfl, rfl, rfl, rfl, by show Value.int .i64 _ = Value.int .i64 _; congr 1, trivial⟩ ⟨rfl, rfl, rfl, isgood ?_⟩
    intro k' hk'
    rw [hkk] at hk'
    injection hk' with hk'
    subst hk'
    refine ⟨by omega, by omega, fun k3 h0 h3 => ?_⟩
    rw [hk2] at h3
    injection h3 with h3
    omega
  obtain ⟨rfl, hz⟩ := isbad fun hg => hlt ((hg kk hkk).2.2 k2 (by omega) hk2)
  injection hz with e0 hz; injection hz with e1 hz; injection hz with e2 hz; injection hz with e3 hz; injection hz with e4 hz
  subst e0 e1 e2 e3 e4
  · repeat (first | refine st_ltT rfl rfl rfl rfl rfl rfl (by omega) ?_ | refine st_ltF rfl rfl rfl rfl rfl rfl (by omega) ?_ | refine st_gtT rfl rfl rfl rfl rfl rfl (by omega) ?_ | refine st_gtF rfl rfl rfl rfl rfl rfl (by omega) ?_ | refine st_geT rfl rfl rfl rfl rfl rfl (by omega) ?_ | refine st_geF rfl rfl rfl rfl rfl rfl (by omega) ?_ | refine st_eqT rfl rfl rfl rfl rfl rfl (by omega) ?_ | refine st_add rfl rfl rfl rfl rfl rfl (by omega) ?_ | refine st_sub rfl rfl rfl rfl rfl rfl (by omega) ?_ | refine st_I rfl rfl rfl rfl rfl ?_ | refine st_B rfl rfl rfl rfl rfl ?_ | refine st_S rfl rfl rfl rfl rfl ?_ | refine st_P rfl rfl rfl rfl rfl ?_ | refine st_A rfl rfl rfl rfl rfl ?_ | refine st_U rfl rfl rfl rfl rfl ?_ | refine st_val (v := .pointer none) rfl rfl rfl rfl rfl ?_ | refine st_off rfl rfl rfl ?_)
    refine st_load1 rfl rfl rfl rfl rfl rfl hr5 rfl (v := .slice aE p.eqs.length cE) rfl ?_
    repeat (first | refine st_ltT rfl rfl rfl rfl rfl rfl (by omega) ?_ | refine st_ltF rfl rfl rfl rfl rfl rfl (by omega) ?_ | refine st_gtT rfl rfl rfl rfl rfl rfl (by omega) ?_ | refine st_gtF rfl rfl rfl rfl rfl rfl (by omega) ?_ | refine st_geT rfl rfl rfl rfl rfl rfl (by omega) ?_ | refine st_geF rfl rfl rfl rfl rfl rfl (by omega) ?_ | refine st_eqT rfl rfl rfl rfl rfl rfl (by omega) ?_ | refine st_add rfl rfl rfl rfl rfl rfl (by omega) ?_ | refine st_sub rfl rfl rfl rfl rfl rfl (by omega) ?_ | refine st_I rfl rfl rfl rfl rfl ?_ | refine st_B rfl rfl rfl rfl rfl ?_ | refine st_S rfl rfl rfl rfl rfl ?_ | refine st_P rfl rfl rfl rfl rfl ?_ | refine st_A rfl rfl rfl rfl rfl ?_ | refine st_U rfl rfl rfl rfl rfl ?_ | refine st_val (v := .pointer none) rfl rfl rfl rfl rfl ?_ | refine st_off rfl rfl rfl ?_)
    refine st_idx rfl rfl rfl rfl rfl rfl rfl rfl (by omega) ?_
    refine st_load1 rfl rfl rfl rfl rfl rfl hxK hcK (v := .int .i64 k2) (by rw [← gK2]; congr 1; omega) ?_
    repeat (first | refine st_ltT rfl rfl rfl rfl rfl rfl (by omega) ?_ | refine st_ltF rfl rfl rfl rfl rfl rfl (by omega) ?_ | refine st_gtT rfl rfl rfl rfl rfl rfl (by omega) ?_ | refine st_gtF rfl rfl rfl rfl rfl rfl (by omega) ?_ | refine st_geT rfl rfl rfl rfl rfl rfl (by omega) ?_ | refine st_geF rfl rfl rfl rfl rfl rfl (by omega) ?_ | refine st_eqT rfl rfl rfl rfl rfl rfl (by omega) ?_ | refine st_add rfl rfl rfl rfl rfl rfl (by omega) ?_ | refine st_sub rfl rfl rfl rfl rfl rfl (by omega) ?_ | refine st_I rfl rfl rfl rfl rfl ?_ | refine st_B rfl rfl rfl rfl rfl ?_ | refine st_S rfl rfl rfl rfl rfl ?_ | refine st_P rfl rfl rfl rfl rfl ?_ | refine st_A rfl rfl rfl rfl rfl ?_ | refine st_U rfl rfl rfl rfl rfl ?_ | refine st_val (v := .pointer none) rfl rfl rfl rfl rfl ?_ | refine st_off rfl rfl rfl ?_)
    simp only [EC_seq, EC_region, EC_block, EC_scope, EC_skip, EC_exit, EC_ret, EC_label, EO_nil, ED_nil, after_normal, after_exit, after_ret, leave_normal, leave_exit, leave_ret, goesOn_exit, goesOn_ret, cut_exit, cut_ret, cutx_exit, cutx_ret, reduceIte, Nat.reduceEqDiff, reduceCtorEq, Nat.one_ne_zero, Nat.zero_ne_one]
    rw [EC_cond_true rfl]
    simp only [EC_seq, EC_region, EC_block, EC_scope, EC_skip, EC_exit, EC_ret, EC_label, EO_nil, ED_nil, after_normal, after_exit, after_ret, leave_normal, leave_exit, leave_ret, goesOn_exit, goesOn_ret, cut_exit, cut_ret, cutx_exit, cutx_ret, reduceIte, Nat.reduceEqDiff, reduceCtorEq, Nat.one_ne_zero, Nat.zero_ne_one]
    refine st_vf _ rfl rfl rfl rfl rfl (known_ok (k + 5) hG5 _) ?_
    rintro _ rfl
    repeat (first | refine st_ltT rfl rfl rfl rfl rfl rfl (by omega) ?_ | refine st_ltF rfl rfl rfl rfl rfl rfl (by omega) ?_ | refine st_gtT rfl rfl rfl rfl rfl rfl (by omega) ?_ | refine st_gtF rfl rfl rfl rfl rfl rfl (by omega) ?_ | refine st_geT rfl rfl rfl rfl rfl rfl (by omega) ?_ | refine st_geF rfl rfl rfl rfl rfl rfl (by omega) ?_ | refine st_eqT rfl rfl rfl rfl rfl rfl (by omega) ?_ | refine st_add rfl rfl rfl rfl rfl rfl (by omega) ?_ | refine st_sub rfl rfl rfl rfl rfl rfl (by omega) ?_ | refine st_I rfl rfl rfl rfl rfl ?_ | refine st_B rfl rfl rfl rfl rfl ?_ | refine st_S rfl rfl rfl rfl rfl ?_ | refine st_P rfl rfl rfl rfl rfl ?_ | refine st_A rfl rfl rfl rfl rfl ?_ | refine st_U rfl rfl rfl rfl rfl ?_ | refine st_val (v := .pointer none) rfl rfl rfl rfl rfl ?_ | refine st_off rfl rfl rfl ?_)
    refine st_load (v := .agg zeroSdp.toArray) rfl rfl rfl rfl rfl (loadn_eq rfl rfl hs5 rfl (Nat.le_of_ble_eq_true rfl) rfl) ?_
    refine st_val (v := .agg zeroSdp.toArray) rfl rfl rfl rfl rfl ?_
    refine st_vf _ rfl rfl rfl rfl rfl (same_zero (k + 4) _ _) ?_
    rintro _ rfl
    repeat (first | refine st_ltT rfl rfl rfl rfl rfl rfl (by omega) ?_ | refine st_ltF rfl rfl rfl rfl rfl rfl (by omega) ?_ | refine st_gtT rfl rfl rfl rfl rfl rfl (by omega) ?_ | refine st_gtF rfl rfl rfl rfl rfl rfl (by omega) ?_ | refine st_geT rfl rfl rfl rfl rfl rfl (by omega) ?_ | refine st_geF rfl rfl rfl rfl rfl rfl (by omega) ?_ | refine st_eqT rfl rfl rfl rfl rfl rfl (by omega) ?_ | refine st_add rfl rfl rfl rfl rfl rfl (by omega) ?_ | refine st_sub rfl rfl rfl rfl rfl rfl (by omega) ?_ | refine st_I rfl rfl rfl rfl rfl ?_ | refine st_B rfl rfl rfl rfl rfl ?_ | refine st_S rfl rfl rfl rfl rfl ?_ | refine st_P rfl rfl rfl rfl rfl ?_ | refine st_A rfl rfl rfl rfl rfl ?_ | refine st_U rfl rfl rfl rfl rfl ?_ | refine st_val (v := .pointer none) rfl rfl rfl rfl rfl ?_ | refine st_off rfl rfl rfl ?_)
    simp only [EC_seq, EC_region, EC_block, EC_scope, EC_skip, EC_exit, EC_ret, EC_label, EO_nil, ED_nil, after_normal, after_exit, after_ret, leave_normal, leave_exit, leave_ret, goesOn_exit, goesOn_ret, cut_exit, cut_ret, cutx_exit, cutx_ret, reduceIte, Nat.reduceEqDiff, reduceCtorEq, Nat.one_ne_zero, Nat.zero_ne_one]
    exact retF _ rfl (resF_tmp rfl) rfl rfl rfl
end Go.Proofs.YtokfihhdllmbmaaGreatDoor
namespace Go.Proofs.YtokfihhdllmbmaaGreatDoor
open Go Go.GL
/-! From the world to the evaluator's heap. -/
def upFn (nm : Nat → Nat) : Fn → Fn
  | .yield l => .yield (nm l)
  | f => f
mutual
def up (nm : Nat → Nat) : Value → Value
  | .pointer (some a) => .pointer (some ⟨nm a.block, a.off, a.spot⟩)
  | .slice (some a) l c => .slice (some ⟨nm a.block, a.off, a.spot⟩) l c
  | .func f a b => .func (upFn nm f) (upA nm a) (upA nm b)
  | .agg cs => .agg (upA nm cs)
  | .tuple cs => .tuple (upA nm cs)
  | v => v
def upA (nm : Nat → Nat) : Array Value → Array Value
  | ⟨l⟩ => ⟨upL nm l⟩
def upL (nm : Nat → Nat) : List Value → List Value
  | [] => []
  | v :: r => up nm v :: upL nm r
end
theorem upL_eq (nm : Nat → Nat) (l : List Value) : upL nm l = l.map (up nm) := by
  induction l with
  | nil => rfl
  | cons a l ih => simp [upL, ih]
mutual
theorem conc_up {ρ : Ren} {nm : Nat → Nat} (hb : ∀ b, ρ.b (nm b) = b) (hx : ∀ b, ρ.x (nm b) = 0) : ∀ v : Value, conc ρ (up nm v) = v
  | .pointer none => rfl
  | .pointer (some a) => by simp [up, conc, Ren.addr, hb]
  | .slice none _ _ => rfl
  | .slice (some a) l c => by simp [up, conc, Ren.addr, hb, hx]
  | .func f a b => by
    have h1 : ρ.fn (upFn nm f) = f := by cases f <;> simp [upFn, Ren.fn, hb]
    simp only [up, conc, h1, concA_up hb hx a, concA_up hb hx b]
  | .agg cs => by simp only [up, conc, concA_up hb hx cs]
  | .tuple cs => by simp only [up, conc, concA_up hb hx cs]
  | .bool _ => by simp [up, conc]
  | .int _ _ => by simp [up, conc]
  | .float _ _ => by simp [up, conc]
  | .complex _ _ _ => by simp [up, conc]
  | .string _ => by simp [up, conc]
  | .map _ => by simp [up, conc]
  | .chan _ => by simp [up, conc]
  | .nilFunc => by simp [up, conc]
  | .nilIface => by simp [up, conc]
  | .iface _ _ => by simp [up, conc]
theorem concA_up {ρ : Ren} {nm : Nat → Nat} (hb : ∀ b, ρ.b (nm b) = b) (hx : ∀ b, ρ.x (nm b) = 0) : ∀ a : Array Value, concA ρ (upA nm a) = a
  | ⟨l⟩ => by simp only [upA, concA, concL_up hb hx l]
theorem concL_up {ρ : Ren} {nm : Nat → Nat} (hb : ∀ b, ρ.b (nm b) = b) (hx : ∀ b, ρ.x (nm b) = 0) : ∀ l : List Value, concL ρ (upL nm l) = l
  | [] => rfl
  | v :: r => by simp only [upL, concL, conc_up hb hx v, concL_up hb hx r]
end
/-- A bound on the names in a value. -/
def bdFn : Fn → Nat
  | .yield l => l + 1
  | _ => 0
mutual
def bd : Value → Nat
  | .pointer (some a) => a.block + 1
  | .slice (some a) _ _ => a.block + 1
  | .func f a b => bdFn f + bdA a + bdA b
  | .agg cs => bdA cs
  | .tuple cs => bdA cs
  | _ => 0
def bdA : Array Value → Nat
  | ⟨l⟩ => bdL l
def bdL : List Value → Nat
  | [] => 0
  | v :: r => bd v + bdL r
end
theorem addr_agr {m : Nat} {ρ ρ' : Ren} (ha : Agr m ρ ρ') {a : Addr} (h : a.block < m) : ρ'.addr a = ρ.addr a := by
  unfold Ren.addr
  rw [(ha _ h).1]
mutual
theorem nb_bd : ∀ (v : Value) (m : Nat), bd v ≤ m → Nb m v
  | .pointer none, m, _ => fun ρ ρ' _ => by simp
  | .pointer (some a), m, h => fun ρ ρ' ha => by
    simp only [bd] at h
    simp only [conc, addr_agr ha (show a.block < m by omega)]
  | .slice none _ _, m, _ => fun ρ ρ' _ => by simp
  | .slice (some a) l c, m, h => fun ρ ρ' ha => by
    simp only [bd] at h
    simp only [conc, addr_agr ha (show a.block < m by omega), (ha _ (show a.block < m by omega)).2]
  | .func f a b, m, h => fun ρ ρ' ha => by
    simp only [bd] at h
    have h1 : ρ'.fn f = ρ.fn f := by
      cases f <;> simp [Ren.fn]
      rename_i l
      exact (ha l (by simp only [bdFn] at h; omega)).1
    simp only [conc, h1, nbA_bd a m (by omega) ρ ρ' ha, nbA_bd b m (by omega) ρ ρ' ha]
  | .agg cs, m, h => fun ρ ρ' ha => by
    simp only [bd] at h
    simp only [conc, nbA_bd cs m h ρ ρ' ha]
  | .tuple cs, m, h => fun ρ ρ' ha => by
    simp only [bd] at h
    simp only [conc, nbA_bd cs m h ρ ρ' ha]
  | .bool _, m, _ => fun ρ ρ' _ => by simp [conc]
  | .int _ _, m, _ => fun ρ ρ' _ => by simp [conc]
  | .float _ _, m, _ => fun ρ ρ' _ => by simp [conc]
  | .complex _ _ _, m, _ => fun ρ ρ' _ => by simp [conc]
  | .string _, m, _ => fun ρ ρ' _ => by simp [conc]
  | .map _, m, _ => fun ρ ρ' _ => by simp [conc]
  | .chan _, m, _ => fun ρ ρ' _ => by simp [conc]
  | .nilFunc, m, _ => fun ρ ρ' _ => by simp [conc]
  | .nilIface, m, _ => fun ρ ρ' _ => by simp [conc]
  | .iface _ _, m, _ => fun ρ ρ' _ => by simp [conc]
theorem nbA_bd : ∀ (a : Array Value) (m : Nat), bdA a ≤ m → ∀ ρ ρ' : Ren, Agr m ρ ρ' → concA ρ' a = concA ρ a
  | ⟨l⟩, m, h => fun ρ ρ' ha => by
    simp only [bdA] at h
    simp only [concA, nbL_bd l m h ρ ρ' ha]
theorem nbL_bd : ∀ (l : List Value) (m : Nat), bdL l ≤ m → ∀ ρ ρ' : Ren, Agr m ρ ρ' → concL ρ' l = concL ρ l
  | [], m, _ => fun ρ ρ' _ => rfl
  | v :: r, m, h => fun ρ ρ' ha => by
    simp only [bdL] at h
    simp only [concL, nb_bd v m (by omega) ρ ρ' ha, nbL_bd r m (by omega) ρ ρ' ha]
end
theorem bd_mem : ∀ {l : List Value} {v : Value}, v ∈ l → bd v ≤ bdL l := by
  intro l
  induction l with
  | nil => intro v hv; cases hv
  | cons a l ih =>
    intro v hv
    simp only [bdL]
    rcases List.mem_cons.1 hv with rfl | hv
    · omega
    · have := ih hv; omega
/-- The cells of a block of the world. -/
def cellsAt (W : World) (b : Nat) : Option (List Value) := match W.heap[b]? with | some (.cells c _ _) => some c.toList | _ => none
/-- The world's blocks, to be read. -/
noncomputable def wh (nm : Nat → Nat) (W : World) : Nat → Hp
  | 0 => .lf
  | k + 1 => match cellsAt W k with | some c => Tr.put (wh nm W k) (nm k) (some (.ro (c.map (up nm)))) | none => wh nm W k
theorem wh_at {nm : Nat → Nat} (hi : ∀ a b, nm a = nm b → a = b) (W : World) : ∀ k x y, (wh nm W k).at x = some y ↔ ∃ b, b < k ∧ x = nm b ∧ ∃ c, cellsAt W b = some c ∧ y = .ro (c.map (up nm)) := by
  intro k
  induction k with
  | zero =>
    intro x y
    constructor
    · intro h; cases h
    · rintro ⟨b, hb, _⟩; omega
  | succ k ih =>
    intro x y
    unfold wh
    cases hc : cellsAt W k with
    | none =>
      simp only
      rw [ih]
      constructor
      · rintro ⟨b, hb, h⟩; exact ⟨b, by omega, h⟩
      · rintro ⟨b, hb, rfl, c, h1, h2⟩
        have : b ≠ k := fun e => by rw [e, hc] at h1; cases h1
        exact ⟨b, by omega, rfl, c, h1, h2⟩
    | some c =>
      simp only
      show Tr.get none (Tr.put (wh nm W k) (nm k) _) x = some y ↔ _
      rw [Tr.get_put none rfl]
      by_cases hx : x = nm k
      · rw [if_pos hx]
        constructor
        · intro h; injection h with h; exact ⟨k, by omega, hx, c, hc, h.symm⟩
        · rintro ⟨b, hb, e, c', h1, h2⟩
          have hbk : b = k := hi _ _ (e.symm.trans hx)
          rw [hbk, hc] at h1
          injection h1 with h1
          rw [h2, h1]
      · rw [if_neg hx]
        show (wh nm W k).at x = some y ↔ _
        rw [ih]
        constructor
        · rintro ⟨b, hb, h⟩; exact ⟨b, by omega, h⟩
        · rintro ⟨b, hb, e, h⟩
          have : b ≠ k := fun ee => hx (by rw [e, ee])
          exact ⟨b, by omega, e, h⟩
/-- A block's name: the listed variables' tables have the variable's own. -/
def nm (b : Nat) : Nat := if b = 0 ∨ b = 3 ∨ b = 4 then 3 * b else 3 * b + 2
theorem nm_inj (a b : Nat) (h : nm a = nm b) : a = b := by
  unfold nm at h
  split at h <;> split at h <;> omega
def ren0 : Ren := ⟨fun x => x / 3, fun _ => 0, fun _ _ => rfl, fun g => by simp⟩
theorem ren0_nm (b : Nat) : ren0.b (nm b) = b := by
  unfold nm ren0
  split <;> simp <;> omega
theorem nm_lt {b n : Nat} (h : b < n) : nm b < 3 * n := by
  unfold nm
  split <;> omega
noncomputable def wH (W : World) : Hp := wh nm W W.heap.size
theorem wH_sim (W : World) : Sim rel ren0 (wH W) W := by
  refine ⟨fun x y h => ?_, fun x x' h h' e => ?_⟩
  · obtain ⟨b, hb, rfl, c, hc, rfl⟩ := (wh_at nm_inj W _ _ _).1 h
    unfold cellsAt at hc
    split at hc
    · rename_i c' e fz hW
      injection hc with hc
      subst hc
      refine ⟨_, by rw [ren0_nm]; exact hW, e, fz, ?_⟩
      rw [List.map_map]
      have : (c'.toList.map (conc ren0 ∘ up nm)) = c'.toList := by
        conv => rhs; rw [← List.map_id c'.toList]
        exact List.map_congr_left fun v _ => conc_up ren0_nm (fun _ => rfl) v
      rw [this]
    · cases hc
  · obtain ⟨y, hy⟩ := Option.isSome_iff_exists.1 h
    obtain ⟨y', hy'⟩ := Option.isSome_iff_exists.1 h'
    obtain ⟨b, _, rfl, _⟩ := (wh_at nm_inj W _ _ _).1 hy
    obtain ⟨b', _, rfl, _⟩ := (wh_at nm_inj W _ _ _).1 hy'
    rw [ren0_nm, ren0_nm] at e
    rw [e]
theorem wH_nb (W : World) (args : List Value) : ∃ n, 20 ≤ n ∧ W.heap.size ≤ n ∧ HNb (3 * n) (wH W) ∧ ∀ v ∈ args, Nb (3 * n) v := by
  have key : ∀ k, ∃ m, ∀ b, b < k → ∀ c, cellsAt W b = some c → bdL (c.map (up nm)) ≤ m := by
    intro k
    induction k with
    | zero => exact ⟨0, fun b hb => by omega⟩
    | succ k ih =>
      obtain ⟨m, hm⟩ := ih
      cases hc : cellsAt W k with
      | none => exact ⟨m, fun b hb c h => hm b (by have : b ≠ k := fun e => by rw [e, hc] at h; cases h
                                                   omega) c h⟩
      | some c' =>
        refine ⟨m + bdL (c'.map (up nm)), fun b hb c h => ?_⟩
        by_cases hbk : b = k
        · rw [hbk, hc] at h; injection h with h; subst h; omega
        · have := hm b (by omega) c h; omega
  obtain ⟨m, hm⟩ := key W.heap.size
  refine ⟨20 + W.heap.size + m + bdL args, by omega, by omega, fun x y h => ?_, fun v hv => nb_bd v _ (by have := bd_mem hv; omega)⟩
  obtain ⟨b, hb, rfl, c, hc, rfl⟩ := (wh_at nm_inj W _ _ _).1 h
  exact ⟨nm_lt (by omega), fun v hv => nb_bd v _ (by have := bd_mem hv; have := hm b hb c hc; omega)⟩
theorem wH_block {W : World} {b : Nat} {c : Array Value} {e : TypeId} {fz : Nat × Nat} (h : W.heap[b]? = some (.cells c e fz)) : hv (wH W) (nm b) = some (.ro (c.toList.map (up nm))) := by
  have hb : b < W.heap.size := by
    rcases Nat.lt_or_ge b W.heap.size with h' | h'
    · exact h'
    · rw [Array.getElem?_eq_none h'] at h; cases h
  exact hv_at ((wh_at nm_inj W _ _ _).2 ⟨b, hb, rfl, _, by unfold cellsAt; rw [h], rfl⟩)
/-- A run of the evaluator that ends in true is a call that ends in true and leaves what is there. -/
theorem calls_true {W : World} (f : FuncId) (args : List Value) (k : Nat) (hrun : ∀ n, 20 ≤ n → W.heap.size ≤ n → (∀ v ∈ args.map (up nm), Nb (3 * n) v) → VF (cal k) f (args.map (up nm)) (hv (wH W)) n fun v => v = .bool true) :
    Calls Tryz.prog f args.toArray W fun e w' => e = .returned (.bool true) ∧ RowKit.Below W.heap.size W w' := by
  obtain ⟨n, hn, hs, hnb, ha⟩ := wH_nb W (args.map (up nm))
  obtain ⟨v, h', n', w, hc, e1, e2, e3, e4⟩ := hrun n hn hs ha
  rw [e1, e2, e3, e4] at hc
  obtain ⟨⟨v2, h2, n2, w2⟩, hx, hy⟩ := (cal_sim k).call f (args.map (up nm)) (wH W) n _ hc
  obtain ⟨e1, e2, e3, e4⟩ : v2 = .bool true ∧ hv h2 = hv (wH W) ∧ n2 = n ∧ w2 = [] := by
    simpa [rv] using hy
  subst e1 e3 e4
  obtain ⟨_, hcall⟩ := (cal_ok k).call _ _ _ _ _ _ _ _ hx 0 ren0 W (wH_sim W) hnb ha
  have hargs : ((args.map (up nm)).map (conc ren0)) = args := by
    rw [List.map_map]
    conv => rhs; rw [← List.map_id args]
    exact List.map_congr_left fun v _ => conc_up ren0_nm (fun _ => rfl) v
  rw [hargs] at hcall
  refine (callsIn_wide.1 hcall).mono fun e w' ⟨ρ', he, hp⟩ => ⟨by rw [he]; simp, ?_⟩
  exact ⟨hp.os, hp.tape, hp.out, hp.size, fun j hj => hp.fr j hj fun b hb => absurd hb List.not_mem_nil⟩
end Go.Proofs.YtokfihhdllmbmaaGreatDoor
namespace Go.Proofs.YtokfihhdllmbmaaGreatDoor
open Go Go.GL Go.ChangeShapes Go.WideShapes Go.RowKit
set_option maxRecDepth 100000
/-! What the row's reading says of the world. -/
theorem int_of_trod {H : Type} {enc : TypeId × Value → H} {P : Program} {w : World} {base : Nat} {sp : Nat → Bool} {held : Bool} {fuel : Nat} {t : TypeId} {k : IntKind} {c : Value} {y : DataW H × List MemPlace}
    (ht : P.underlying t = some (.int k)) (h : DataW.trod enc P w base sp held fuel t [c] = some y) : ∃ n, c = .int k n ∧ y = (.lit (.int k n), []) := by
  cases fuel with
  | zero => simp [DataW.trod] at h
  | succ fuel =>
    cases c <;> simp [DataW.trod, ht] at h
    rename_i k' n
    obtain ⟨⟨rfl, _⟩, rfl⟩ := h
    exact ⟨n, rfl, rfl⟩
theorem array_of_trod {H : Type} {enc : TypeId × Value → H} {P : Program} {w : World} {base : Nat} {sp : Nat → Bool} {held : Bool} {fuel n : Nat} {t e : TypeId} {k : IntKind} {cs : List Value} {l : List Int} {p : List MemPlace}
    (ht : P.underlying t = some (.array n e)) (he : P.underlying e = some (.int k)) (hce : P.cellsOf e = 1) (hct : P.cellsOf t = n)
    (h : DataW.trod enc P w base sp held fuel t cs = some (.agg (l.map fun z => .lit (.int k z)), p)) : cs = l.map fun z => Value.int k z := by
  cases fuel with
  | zero => simp [DataW.trod] at h
  | succ fuel =>
    simp only [DataW.trod, ht] at h
    split at h
    · rename_i hl
      rw [hct] at hl
      rw [Option.map_eq_some_iff] at h
      obtain ⟨xs, hx, hy⟩ := h
      simp only [Prod.mk.injEq, DataW.agg.injEq] at hy
      obtain ⟨hy, _⟩ := hy
      have hlen := mapM_some_length hx
      rw [List.length_range] at hlen
      have hll : l.length = n := by
        have := congrArg List.length hy
        simp at this
        omega
      apply List.ext_getElem?
      intro i
      by_cases hi : i < n
      · have hg := mapM_some_get hx i i (by simp [hi])
        obtain ⟨y, hxi⟩ : ∃ y, xs[i]? = some y := ⟨xs[i]'(by omega), List.getElem?_eq_getElem (by omega)⟩
        rw [hxi, hce, Nat.mul_one] at hg
        have hd : (cs.drop i).take 1 = [cs[i]'(by omega)] := by
          rw [List.drop_eq_getElem_cons (by omega)]
          rfl
        rw [hd] at hg
        obtain ⟨z, hz, rfl⟩ := int_of_trod he hg
        have h2 := congrArg (fun q => q[i]?) hy
        simp only [List.getElem?_map, hxi, Option.map_some] at h2
        obtain ⟨z', hz'⟩ : ∃ z', l[i]? = some z' := ⟨l[i]'(by omega), List.getElem?_eq_getElem (by omega)⟩
        rw [hz'] at h2
        simp only [Option.map_some, Option.some.injEq, DataW.lit.injEq, Lit.int.injEq, true_and] at h2
        rw [List.getElem?_eq_getElem (by omega), hz, List.getElem?_map, hz', h2]
        rfl
      · rw [List.getElem?_eq_none (by omega), List.getElem?_eq_none (by simp; omega)]
    · cases h
theorem var_block {P : Program} {W : World} {nme : String} {g : Nat} {cs : Array Value} (hg : P.globalNamed nme = some g) (hv : W.var? P nme = some cs) : ∃ e fz, W.heap[g]? = some (.cells cs e fz) := by
  unfold World.var? at hv
  rw [hg] at hv
  simp only [Option.bind_some] at hv
  split at hv
  · rename_i cs' e fz h
    injection hv with hv
    subst hv
    exact ⟨e, fz, h⟩
  · cases hv
theorem up_u (nm : Nat → Nat) (k : IntKind) (l : List Int) : (GK.u k l).map (up nm) = GK.u k l := by
  unfold GK.u
  rw [List.map_map]
  exact List.map_congr_left fun z _ => rfl
def laid3 : List (String × DataW Unit) := Rows.sdpValidRow.laid
/-- The names of the listed variables. -/
def laidName (i : Nat) : String := match laid3[i]? with | some x => x.1 | none => ""
theorem g32 : Tryz.prog.globalNamed (laidName 0) = some 4 := by kernel_rfl
theorem g64 : Tryz.prog.globalNamed (laidName 1) = some 0 := by kernel_rfl
theorem g10 : Tryz.prog.globalNamed (laidName 2) = some 3 := by kernel_rfl
/-- What is said of a variable's type: an array of integers. -/
def isTab (t : TypeId) (n : Nat) (k : IntKind) : Prop := ∃ e, Tryz.prog.underlying t = some (.array n e) ∧ Tryz.prog.underlying e = some (.int k) ∧ Tryz.prog.cellsOf e = 1 ∧ Tryz.prog.cellsOf t = n
theorem tab_block {W : World} {nme : String} {g t n fuel : Nat} {k : IntKind} {l : List Int} {cs : Array Value} {p : List MemPlace} (hg : Tryz.prog.globalNamed nme = some g) (hvar : W.var? Tryz.prog nme = some cs) (hT : isTab t n k)
    (hd : DataW.trod (fun _ => ()) Tryz.prog W 0 (fun _ => true) false fuel t cs.toList = some (.agg (l.map fun z => .lit (.int k z)), p)) : hv (wH W) (nm g) = some (.ro (GK.u k l)) := by
  obtain ⟨e, h1, h2, h3, h4⟩ := hT
  have hc := array_of_trod h1 h2 h3 h4 hd
  obtain ⟨e', fz, hb⟩ := var_block hg hvar
  have := wH_block hb
  rw [this, hc]
  show some (BF.ro ((GK.u k l).map (up nm))) = _
  rw [up_u]
theorem ty32 : (Tryz.prog.globals[4]?).map (·.type) = some 350 := by kernel_rfl
theorem ty64 : (Tryz.prog.globals[0]?).map (·.type) = some 329 := by kernel_rfl
theorem ty10 : (Tryz.prog.globals[3]?).map (·.type) = some 333 := by kernel_rfl
theorem tab32 : isTab 350 32 .u8 := ⟨5, by kernel_rfl, by kernel_rfl, by kernel_rfl, by kernel_rfl⟩
theorem tab64 : isTab 329 64 .u8 := ⟨5, by kernel_rfl, by kernel_rfl, by kernel_rfl, by kernel_rfl⟩
theorem tab10 : isTab 333 20 .u64 := ⟨222, by kernel_rfl, by kernel_rfl, by kernel_rfl, by kernel_rfl⟩
theorem G_of_laid {W : World} (h : laidMet Tryz.prog laid3 W) : GK.G (hv (wH W)) := by
  obtain ⟨ps, hL, _, _⟩ := h
  obtain ⟨g1, t1, cs1, fu1, p1, q1, e1, u1, v1, d1, hL, _⟩ := hL
  obtain ⟨g2, t2, cs2, fu2, p2, q2, e2, u2, v2, d2, hL, _⟩ := hL
  obtain ⟨g3, t3, cs3, fu3, p3, q3, e3, u3, v3, d3, _, _⟩ := hL
  obtain rfl := Option.some.inj (g32.symm.trans e1)
  obtain rfl := Option.some.inj (g64.symm.trans e2)
  obtain rfl := Option.some.inj (g10.symm.trans e3)
  obtain rfl := Option.some.inj (ty32.symm.trans u1)
  obtain rfl := Option.some.inj (ty64.symm.trans u2)
  obtain rfl := Option.some.inj (ty10.symm.trans u3)
  exact ⟨tab_block e2 v2 tab64 d2, tab_block e3 v3 tab10 d3, tab_block e1 v1 tab32 d1⟩
/-- A slice of integers that came in. -/
theorem ints_arg {H : Type} {enc : TypeId × Value → H} {W : World} {base n : Nat} {t e : TypeId} {v : Value} {d : DataW H} {p : List MemPlace} (ht : Tryz.prog.underlying t = some (.slice e)) (he : Tryz.prog.underlying e = some (.int .i64)) (hc : Tryz.prog.cellsOf e = 1)
    (hok : Value.okWide Tryz.prog W .any base t v) (h : DataW.Trod enc Tryz.prog W 0 (fun _ => true) true t v d p) (hn : W.heap.size ≤ n) : ∃ (a : Option Addr) (l c : Nat) (L : List Int), v = .slice a l c ∧ up nm v = .slice (a.map fun x => ⟨nm x.block, x.off, x.spot⟩) l c ∧ Sl (hv (wH W)) n 1 (up nm v) (L.map (Value.int .i64)) := by
  obtain ⟨fuel, h⟩ := h
  rcases open_ints ht he hc h with ⟨hcs, _⟩ | ⟨a, len, cap, zs, hcs, _, hle, _, hzl, _, hcell, _⟩
  · have hvv : v = .slice none 0 0 := by
      cases v <;> simp [Value.cells] at hcs ⊢
      · exact hcs
      · rename_i cs
        unfold Value.okWide at hok
        rw [ht] at hok
        simp [Cell.okWide, Cell.ok, ht] at hok
    subst hvv
    exact ⟨none, 0, 0, [], rfl, rfl, .nil (.inl rfl)⟩
  · have hvv : v = .slice (some a) len cap := by
      cases v <;> simp [Value.cells] at hcs ⊢
      · exact hcs
      · rename_i cs
        unfold Value.okWide at hok
        rw [ht] at hok
        simp [Cell.okWide, Cell.ok, ht] at hok
    subst hvv
    obtain ⟨b, off, spot⟩ := a
    have hspot : spot = none ∧ ∃ c e fz, W.heap[b]? = some (.cells c e fz) := by
      unfold Value.okWide at hok
      rw [ht] at hok
      simp only [Cell.okWide, Cell.ok, ht, World.has] at hok
      obtain ⟨_, _, _, h1, row, cells, h2, _⟩ := hok
      refine ⟨h1, ?_⟩
      unfold World.shape? at h2
      split at h2
      · exact ⟨_, _, _, by assumption⟩
      · cases h2
    obtain ⟨rfl, c, e', fz, hb⟩ := hspot
    have hbs : b < W.heap.size := by
      rcases Nat.lt_or_ge b W.heap.size with h' | h'
      · exact h'
      · rw [Array.getElem?_eq_none h'] at hb; cases hb
    refine ⟨some ⟨b, off, none⟩, len, cap, zs.take len, rfl, rfl, ?_⟩
    by_cases h0 : len = 0
    · subst h0
      rw [List.take_zero]
      exact .nil (.inr ⟨nm b, off, rfl, nm_lt (by omega)⟩)
    · have hzl' : zs.length = cap := by simpa using hzl
      have hcc : ∀ i, i < cap → c[off + i]? = some (.int .i64 (zs.getD i 0)) := fun i hi => by
        have := hcell i (by omega)
        unfold World.cell? at this
        have e1 : (Addr.add ⟨b, off, none⟩ i).block = b := by unfold Addr.add; split <;> rfl
        have e2 : (Addr.add ⟨b, off, none⟩ i).off = off + i := by unfold Addr.add; split <;> simp_all
        have e3 : (Addr.add ⟨b, off, none⟩ i).spot = none := by unfold Addr.add; split <;> rfl
        rw [e1, hb] at this
        simp only [e2, e3] at this
        simpa using this
      have hsz : off + cap ≤ c.size := by
        have h1 := hcc (cap - 1) (by omega)
        rcases Nat.lt_or_ge (off + (cap - 1)) c.size with h' | h'
        · omega
        · rw [Array.getElem?_eq_none h'] at h1; cases h1
      refine .at_ (nm_lt (show b < n by omega)) (wH_block hb) rfl hle (by simp; omega) ?_
      rw [Nat.mul_one]
      apply List.ext_getElem?
      intro i
      by_cases hi : i < len
      · rw [List.getElem?_take_of_lt hi, List.getElem?_drop, List.getElem?_map, Array.getElem?_toList, hcc i (by omega)]
        rw [List.getElem?_map, List.getElem?_take_of_lt hi]
        have : zs.getD i 0 = zs[i]'(by omega) := by simp [show i < zs.length from by omega]
        rw [this, List.getElem?_eq_getElem (by omega)]
        rfl
      · rw [List.getElem?_eq_none (by simp; omega), List.getElem?_eq_none (by simp; omega)]
end Go.Proofs.YtokfihhdllmbmaaGreatDoor
namespace Go.Proofs.YtokfihhdllmbmaaGreatDoor
open Go Go.GL Go.ChangeShapes Go.WideShapes Go.RowKit
set_option maxRecDepth 100000
/-! What all rows of the seat share. -/
theorem own : ownKnob Tryz.prog.godebug = none := by kernel_rfl
theorem laidOut : laidOutB Tryz.prog = true := by kernel_rfl
def layCells (c : Array Value) : Obj → Obj
  | .cells _ t frozen => .cells c t frozen
  | o => o
/-- A world in which the listed variables hold what the rows list. -/
noncomputable def laidWorld (os : Os) : World :=
  { World.holding Tryz.prog os ⟨#[], #[], []⟩ with heap := (((World.holding Tryz.prog os ⟨#[], #[], []⟩).heap.modify 0 (layCells GK.d64.toArray)).modify 3 (layCells GK.p10.toArray)).modify 4 (layCells GK.d32.toArray) }
theorem laidWorld_met (os : Os) (args : Array Value) : laidMet Tryz.prog laid3 ((laidWorld os).forCall (fun _ _ => 0) ⟨#[], args, []⟩).memory :=
  laidMet_of_run' 8 (by kernel_rfl) (by kernel_rfl)
end Go.Proofs.YtokfihhdllmbmaaGreatDoor
