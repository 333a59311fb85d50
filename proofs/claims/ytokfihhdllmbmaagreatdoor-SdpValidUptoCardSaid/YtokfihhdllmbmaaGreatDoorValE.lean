import Derived.Below
import Derived.Test.YtokfihhdllmbmaaGreatDoorRows
import Derived.ChangeSame
import Derived.ChangeVars
import Derived.ChangeSlices
import Derived.JoinedOf
import Derived.RowKit
import Derived.RowKitTokens
import Derived.LaidLaws
import Derived.Carry
import Derived.Handed
import Derived.Deep.Slices
import Derived.Test.YtokfihhdllmbmaaGreatDoorTie
import Derived.Test.YtokfihhdllmbmaaGreatDoorCards
import Derived.Test.YtokfihhdllmbmaaGreatDoorValD
set_option linter.unusedVariables false
set_option linter.unusedSimpArgs false
namespace Go.Proofs.YtokfihhdllmbmaaGreatDoor
open Go Go.GL
theorem word19 {L : List Nat} {s : List UInt8} (hN : NW L) (hv : wv L = dval s) (hs : AllD s) (hl : s.length ≤ 19) : L.length ≤ 1 := by
  refine hN.len_le ?_
  rw [hv]
  have := dval_lt hs
  have h2 := pow10_le hl
  omega
theorem word40 {L : List Nat} {s : List UInt8} (hN : NW L) (hv : wv L = dval s) (hs : AllD s) (hl : s.length ≤ 100) : L.length < 1000000 := by
  have := hN.len_pow (i := s.length) (by rw [hv]; exact dval_lt hs)
  omega
set_option maxHeartbeats 4000000
theorem validS_ok (k : Nat) {h : HF} (hG : GK.G h) {n : Nat} (hn : 20 ≤ n) (s : List UInt8) (hs : s.length ≤ 40) : VF (cal (k + 7)) 63 [.string ⟨⟨s⟩⟩] h n fun v => ∃ b : Bool, v = .bool b ∧ (b = true ↔ isNum s) := by
  cases hsm : GK.isSmall s with
  | true => exact ⟨_, _, _, _, cal_small (k + 6) hG n hsm, rfl, rfl, rfl, true, rfl, fun _ => isSmall_num hsm, fun _ => rfl⟩
  | false =>
  cases hbd : GK.isBad s with
  | true => exact ⟨_, _, _, _, cal_bad (k + 6) hG n hsm hbd, rfl, rfl, rfl, false, rfl, (fun h => by cases h), fun h => absurd h (isBad_num hbd).1⟩
  | false =>
  refine CF_flat (fn := Tryz.f63) (by show (match GK.isSmall s with | true => some (Value.bool true) | false => (match GK.isBad s with | true => some (Value.bool false) | false => none)) = none; rw [hsm, hbd]) rfl rfl rfl ?_
  simp only [NV, Nat.reduceEqDiff, reduceCtorEq]
  repeat refine zR ?_
  simp only [NV, Nat.reduceEqDiff, reduceCtorEq]
  refine zM ?_
  refine st_call _ rfl rfl rfl rfl rfl (readShort_ok (k + 1) h n s (by omega)) ?_
  rintro _ h0 n0 _ ⟨rfl, hn0, hx0, x, y, ok, rfl, hok⟩
  repeat refine zR ?_
  refine st_alloc rfl rfl rfl rfl rfl ?_
  refine st_storeW [.int .i64 x, .int .i64 y] rfl rfl rfl rfl rfl rfl rfl rfl (upd_same _ _ _) rfl (by show 3 * n ≤ 3 * n0 + 2; omega) ?_
  rw [upd_upd]
  generalize hh : upd h0 (3 * n0 + 2) _ = h1
  have hx1 : Ext n h h1 := fun b hb => by rw [← hh, upd_ne (by omega), hx0 b hb]
  clear hh
  repeat refine zR ?_
  simp only [NV, Nat.reduceEqDiff, reduceCtorEq]
  repeat refine zR ?_
  simp only [NV, Nat.reduceEqDiff, reduceCtorEq]
  cases ok with
  | true =>
    rw [EC_cond_true rfl]
    simp only [NV, Nat.reduceEqDiff, reduceCtorEq]
    repeat refine zR ?_
    simp only [NV, Nat.reduceEqDiff, reduceCtorEq]
    obtain ⟨q, hq, _⟩ := hok rfl
    exact retF _ rfl (resF_tmp rfl) rfl rfl ⟨true, rfl, fun _ => ⟨q, hq⟩, fun _ => rfl⟩
  | false =>
  rw [EC_cond_false rfl]
  simp only [NV, Nat.reduceEqDiff, reduceCtorEq]
  clear hok
  refine zM ?_
  refine st_call _ rfl rfl rfl rfl rfl (split_ok (k + 2) h1 (n0 + 1) s (by omega)) ?_
  rintro _ h1s n2 _ ⟨rfl, hn2, hx1s, rfl⟩
  replace hx1 : Ext n h h1s := fun b hb => (hx1s b (by omega)).trans (hx1 b hb)
  have hnum := isNum_spl s
  have hfrm : (spl s).2.2 = true → Frm s (spl s).1 (spl s).2.1 := fun e => spl_frm (by rw [← e])
  generalize (spl s).1 = M at hfrm hnum ⊢
  generalize (spl s).2.1 = D at hfrm hnum ⊢
  generalize (spl s).2.2 = ok at hfrm hnum ⊢
  generalize hmi : hasMinus s = mi
  repeat refine zR ?_
  refine st_alloc rfl rfl rfl rfl rfl ?_
  refine st_storeW [.bool mi, .string ⟨⟨M⟩⟩, .string ⟨⟨D⟩⟩] rfl rfl rfl rfl rfl rfl rfl rfl (upd_same _ _ _) rfl (by show 3 * n ≤ 3 * n2 + 2; omega) ?_
  rw [upd_upd]
  generalize hh : upd h1s (3 * n2 + 2) _ = h2
  have hr5 : ∃ e, h2 (3 * n2 + 2) = some (.row [.bool mi, .string ⟨⟨M⟩⟩, .string ⟨⟨D⟩⟩] e) := ⟨_, by rw [← hh, upd_same]⟩
  have hx2 : Ext n h h2 := fun b hb => by rw [← hh, upd_ne (by omega), hx1 b hb]
  obtain ⟨e5, hr5⟩ := hr5
  clear hh
  repeat refine zR ?_
  simp only [NV, Nat.reduceEqDiff, reduceCtorEq]
  refine zM ?_
  cases ok with
  | false =>
    repeat refine zR ?_
    simp only [NV, Nat.reduceEqDiff, reduceCtorEq]
    rw [EC_cond_true rfl]
    simp only [NV, Nat.reduceEqDiff, reduceCtorEq]
    repeat refine zR ?_
    simp only [NV, Nat.reduceEqDiff, reduceCtorEq]
    exact retF _ rfl (resF_tmp rfl) rfl rfl ⟨false, rfl, (fun h => by cases h), fun h => absurd (hnum.1 h).1 (by simp)⟩
  | true =>
  have hf := hfrm rfl
  clear hfrm
  repeat refine zR ?_
  refine st_load1 rfl rfl rfl rfl rfl rfl hr5 rfl (v := .string ⟨⟨D⟩⟩) rfl ?_
  cases D with
  | nil =>
    repeat refine zR ?_
    simp only [NV, Nat.reduceEqDiff, reduceCtorEq]
    rw [EC_cond_true rfl]
    simp only [NV, Nat.reduceEqDiff, reduceCtorEq]
    repeat refine zR ?_
    simp only [NV, Nat.reduceEqDiff, reduceCtorEq]
    exact retF _ rfl (resF_tmp rfl) rfl rfl ⟨true, rfl, fun _ => hnum.2 ⟨rfl, .inl rfl⟩, fun _ => rfl⟩
  | cons u D =>
  have hlen : M.length + (u :: D).length + 1 ≤ 40 := by
    have := congrArg List.length hf.eq
    have h2 : (if u :: D = [] then [] else (47 : UInt8) :: u :: D).length = (u :: D).length + 1 := by rw [if_neg (by simp)]; rfl
    rw [List.length_append, List.length_append, h2] at this
    omega
  generalize hD : u :: D = DD at *
  have hD0 : DD ≠ [] := by rw [← hD]; simp
  repeat refine zR ?_
  simp only [NV, Nat.reduceEqDiff, reduceCtorEq]
  rw [EC_cond_false (by show Value.bool _ = _; rw [← hD]; rfl)]
  simp only [NV, Nat.reduceEqDiff, reduceCtorEq]
  have hG2 := G_ext hG hx2 hn
  refine EC_draw [0, 1, 3, 0, 8, 31, 63, 127, 255] rfl ?_
  repeat refine zE ?_
  refine dr_load rfl rfl rfl rfl rfl rfl (load1_eq rfl hr5 rfl (v := .string ⟨⟨M⟩⟩) rfl) rfl rfl ?_
  refine dr_call _ rfl rfl rfl rfl rfl rfl rfl (parse0_ok k h2 (n2 + 1) hf.dm (by omega)) ?_
  rintro _ h3 n3 _ ⟨a3, l3, c3, L3, rfl, ⟨rfl, hn3, hx3, hs3, hN3⟩, hv3⟩
  refine ⟨okLoads_nil, hn3, ?_⟩
  repeat refine zE ?_
  refine dr_load rfl rfl rfl rfl rfl rfl (load1_eq rfl hr5 rfl (v := .string ⟨⟨DD⟩⟩) rfl) (okEffsF_nil (by simp)) rfl ?_
  refine dr_call _ rfl rfl rfl rfl rfl rfl rfl (parse0_ok k h3 n3 hf.dd (by omega)) ?_
  rintro _ h4 n4 _ ⟨a4, l4, c4, L4, rfl, ⟨rfl, hn4, hx4, hs4, hN4⟩, hv4⟩
  refine ⟨okLoads_nil, hn4, ?_⟩
  have hx34 : Ext n h h4 := fun b hb => by rw [hx4 b (by omega), hx3 b (by omega), hx2 b hb]
  have h1w : L3.length ≤ 1 ∨ L4.length ≤ 1 := by
    rcases Nat.lt_or_ge 19 M.length with hl | hl
    · exact .inr (word19 hN4 hv4 hf.dd (by omega))
    · exact .inl (word19 hN3 hv3 hf.dm hl)
  refine dr_call _ rfl rfl rfl rfl rfl rfl rfl (gcdN1_ok k (G_ext hG hx34 hn) (by omega) (hs3.ext hx4 hn4) hs4 hN3 hN4 ⟨word40 hN3 hv3 hf.dm (by omega), word40 hN4 hv4 hf.dd (by omega)⟩ h1w) ?_
  rintro _ h5 n5 _ ⟨a5, l5, c5, L5, rfl, ⟨rfl, hn5, hx5, hs5, hN5⟩, hv5⟩
  refine ⟨okLoads_nil, hn5, ?_⟩
  refine dr_vf _ rfl rfl rfl rfl rfl rfl rfl (isOne_ok (k + 5) (neg := false) hs5 hN5) ?_
  rintro _ rfl
  repeat refine zE ?_
  simp only [NV, Nat.reduceEqDiff, reduceCtorEq]
  refine retF _ rfl (resF_tmp rfl) rfl rfl ⟨_, rfl, ?_⟩
  rw [hv5, hv3, hv4, Bool.not_false, Bool.true_and, decide_eq_true_iff, hnum]
  exact ⟨fun h => ⟨rfl, .inr h⟩, fun h => h.2.resolve_left hD0⟩
end Go.Proofs.YtokfihhdllmbmaaGreatDoor
namespace Go.Proofs.YtokfihhdllmbmaaGreatDoor
open Go Go.GL
theorem knownV_ok (k : Nat) {h : HF} (hG : GK.G h) (n : Nat) : VF (cal (k + 1)) 14 [] h n fun v => v = .bool true := ⟨_, _, _, _, cal_known k hG n, rfl, rfl, rfl, rfl⟩
theorem small_ok (k : Nat) {h : HF} {n : Nat} {a : Option Addr} {len cap : Nat} {S : List (List UInt8)} (m : Int) (hs : Sl h n 1 (.slice a len cap) (strs S)) (hb : S.length < 100000000) : VF (cal (k + 1)) 19 [.int .i64 m, .slice a len cap] h n fun v => ∃ b : Bool, v = .bool b ∧ (b = true ↔ ∀ s ∈ S, (s.length : Int) ≤ m) := by
  refine CF_flat (fn := Tryz.f19) rfl rfl rfl rfl ?_
  have e1 := strs_at hs
  subst e1
  simp only [NV, Nat.reduceEqDiff, reduceCtorEq]
  repeat refine zR ?_
  simp only [NV, Nat.reduceEqDiff, reduceCtorEq]
  repeat refine zR ?_
  simp only [NV, Nat.reduceEqDiff, reduceCtorEq]
  refine EC_for (α := Nat) (fun z => [(0, .int .i64 m), (7, .slice a S.length cap), (8, .int .i64 (S.length : Int)), (9, .int .i64 (z : Int))]) (fun z h' n' w' => h = h' ∧ n' = n ∧ w' = [] ∧ z ≤ S.length ∧ ∀ i s, i < z → S[i]? = some s → (s.length : Int) ≤ m) (fun z => S.length - z) 0 ⟨rfl, rfl, rfl, rfl, trivial⟩ ⟨rfl, rfl, rfl, Nat.zero_le _, fun i d hi => absurd hi (Nat.not_lt_zero i)⟩ (by show S.length - 0 < LL; unfold LL; omega) ?_
  rintro z t _ _ _ ⟨rfl, rfl, rfl, hz, hall⟩
  simp only [NV, Nat.reduceEqDiff, reduceCtorEq]
  by_cases hze : z = S.length
  · repeat refine zR ?_
    simp only [NV, Nat.reduceEqDiff, reduceCtorEq]
    rw [EC_cond_false rfl]
    simp only [NV, Nat.reduceEqDiff, reduceCtorEq]
    repeat refine zR ?_
    simp only [NV, Nat.reduceEqDiff, reduceCtorEq]
    refine retF _ rfl (resF_tmp rfl) rfl rfl ⟨true, rfl, fun _ s hs => ?_, fun _ => rfl⟩
    obtain ⟨i, hi, e⟩ := List.getElem_of_mem hs
    exact hall i s (by omega) (by rw [List.getElem?_eq_getElem hi, e])
  obtain ⟨s, hsz⟩ : ∃ s, S[z]? = some s := ⟨S[z]'(by omega), List.getElem?_eq_getElem (by omega)⟩
  have hmem : s ∈ S := List.mem_of_getElem? hsz
  repeat refine zR ?_
  simp only [NV, Nat.reduceEqDiff, reduceCtorEq]
  rw [EC_cond_true rfl]
  simp only [NV, Nat.reduceEqDiff, reduceCtorEq]
  refine st_at (f := fun s => Value.string ⟨⟨s⟩⟩) (j := z) (dv := s) rfl rfl rfl rfl rfl rfl rfl hs rfl rfl hsz (fun _ => rfl) rfl rfl rfl rfl fun _ => ?_
  repeat refine zR ?_
  simp only [NV, Nat.reduceEqDiff, reduceCtorEq]
  refine zM ?_
  refine st_I (ik := .i64) (a := (s.length : Int)) rfl rfl rfl rfl rfl ?_
  by_cases hbig : m < (s.length : Int)
  · repeat refine zR ?_
    simp only [NV, Nat.reduceEqDiff, reduceCtorEq]
    rw [EC_cond_true rfl]
    simp only [NV, Nat.reduceEqDiff, reduceCtorEq]
    repeat refine zR ?_
    simp only [NV, Nat.reduceEqDiff, reduceCtorEq]
    exact retF _ rfl (resF_tmp rfl) rfl rfl ⟨false, rfl, fun h => absurd h (by simp), fun hV => by have := hV s hmem; omega⟩
  repeat refine zR ?_
  simp only [NV, Nat.reduceEqDiff, reduceCtorEq]
  rw [EC_cond_false rfl]
  simp only [NV, Nat.reduceEqDiff, reduceCtorEq]
  repeat refine zR ?_
  simp only [NV, Nat.reduceEqDiff, reduceCtorEq]
  refine goOn (z + 1) (by show S.length - (z + 1) < S.length - z; omega) ⟨rfl, rfl, rfl, by show Value.int .i64 _ = Value.int .i64 _; congr 1, trivial⟩ ⟨rfl, rfl, rfl, by show z + 1 ≤ S.length; omega, fun i s' hi hs' => ?_⟩
  by_cases hij : i < z
  · exact hall i s' hij hs'
  · have : i = z := by omega
    subst this
    rw [hsz] at hs'
    injection hs' with hs'
    subst hs'
    omega
structure Sdp60 (p : Sdp) : Prop where
  ol : p.obj.length ≤ 60
  fl : p.objFree.length ≤ 60
  el : p.eqs.length ≤ 60
  qs : ∀ q ∈ p.eqs, q.es.length ≤ 60 ∧ q.fr.length ≤ 60
theorem strs_app (a b : List (List UInt8)) : strs (a ++ b) = strs a ++ strs b := by simp [strs]
theorem ents_app (a b : List Ent) : ents (a ++ b) = ents a ++ ents b := by simp [ents]
theorem ones_strs (l : List (List UInt8)) : ones (strs l) = true := by
  induction l with
  | nil => rfl
  | cons e l ih => exact ih
theorem ones_entsV (l : List Ent) : ones (ents l) = true := by
  induction l with
  | nil => rfl
  | cons e l ih => rw [show ents (e :: l) = entC e ++ ents l from rfl]; exact ones_append rfl ih
theorem strs_len1 (l : List (List UInt8)) : (strs l).length = l.length * 1 := by simp [strs]
theorem Keep.at {v : Value} {n b : Nat} {h h' : HF} (hk : Keep v n h h') (hb : b < 3 * n) (hv : Off b v) : h' b = h b := hk b hb fun o l c e => by subst e; exact hv rfl
set_option maxHeartbeats 4000000
theorem short_ok (k : Nat) {h : HF} {n : Nat} {vB vO vF vE : Value} {p : Sdp} {fr : Int} (hp : SdpR h n vB vO vF vE p) (h60 : Sdp60 p) : VF (cal (k + 2)) 60 [.agg #[vB, .int .i64 fr, vO, vF, vE]] h n fun v => ∃ b : Bool, v = .bool b ∧ (b = true → SdpStr (fun s => s.length ≤ 40) p) := by
  refine CF_flat (fn := Tryz.f60) rfl rfl rfl rfl ?_
  obtain ⟨hB, hO, hFr, ce, hE, hEq⟩ := hp
  obtain ⟨aB, lB, cB, rfl, _⟩ := hB.len
  obtain ⟨aO, lO, cO, rfl, _⟩ := hO.len
  obtain ⟨aF, lF, cF, rfl, _⟩ := hFr.len
  obtain ⟨aE, lE, cE, rfl, _⟩ := hE.len
  have hlO := hO.lenEq (m := p.obj.length) (by omega) (ents_len _)
  have hlF := hFr.lenEq (m := p.objFree.length) (by omega) (strs_len1 _)
  have hlE := hE.lenEq (m := p.eqs.length) (by omega) hEq.len
  subst hlO hlF hlE
  obtain ⟨g1, g2, g3, g4⟩ := h60
  simp only [NV, Nat.reduceEqDiff, reduceCtorEq]
  refine st_mkp (cs := [.slice aB lB cB, .int .i64 fr, .slice aO p.obj.length cO, .slice aF p.objFree.length cF, .slice aE p.eqs.length cE]) rfl rfl rfl rfl rfl ?_
  generalize hh : upd h (3 * n + 2) _ = h1
  have hx1 : Ext n h h1 := by rw [← hh]; exact Ext.upd (by omega)
  have hr1 : ∃ ty, h1 (3 * n + 2) = some (.row [.slice aB lB cB, .int .i64 fr, .slice aO p.obj.length cO, .slice aF p.objFree.length cF, .slice aE p.eqs.length cE] ty) := ⟨_, by rw [← hh, upd_same]⟩
  obtain ⟨ty1, hr1⟩ := hr1
  clear hh
  have hO1 := hO.ext hx1 (Nat.le_succ n)
  have hF1 := hFr.ext hx1 (Nat.le_succ n)
  have hE1 := hE.ext hx1 (Nat.le_succ n)
  have hEq1 := hEq.ext hx1 (Nat.le_succ n)
  repeat refine zR ?_
  simp only [NV, Nat.reduceEqDiff, reduceCtorEq]
  refine st_mks (cs := []) rfl rfl rfl rfl rfl ?_
  generalize hh : upd h1 (3 * (n + 1) + 2) _ = h2
  have hx2 : Ext (n + 1) h1 h2 := by rw [← hh]; exact Ext.upd (by omega)
  clear hh
  have hr2 := (hx2 (3 * n + 2) (by omega)).trans hr1
  repeat refine zR ?_
  refine st_load1 rfl rfl rfl rfl rfl rfl hr2 rfl (v := .slice aF p.objFree.length cF) rfl ?_
  refine st_appG (lo := n + 1) rfl rfl rfl rfl rfl rfl rfl rfl (by decide) (.emp (Nat.le_refl _) (Nat.lt_succ_self _)) (argS_sl (hF1.ext hx2 (Nat.le_succ _))) (by omega) (strs_len1 _) (ones_strs _) (by show n ≤ n + 1 ∧ _; omega) ?_
  intro vl h3 n3 hn3 hgl hx3 _ _
  rw [Nat.zero_add, List.nil_append] at hgl
  obtain ⟨al, rfl, _⟩ := hgl.shape
  have hx13 : Ext (n + 1) h1 h3 := hx2.trans (hx3.mono (Nat.le_refl _)) (Nat.le_refl _)
  repeat refine zR ?_
  simp only [NV, Nat.reduceEqDiff, reduceCtorEq]
  refine st_mks (cs := []) rfl rfl rfl rfl rfl ?_
  generalize hh : upd h3 (3 * n3 + 2) _ = h4
  have hx4 : Ext n3 h3 h4 := by rw [← hh]; exact Ext.upd (by omega)
  clear hh
  have hx14 : Ext (n + 1) h1 h4 := hx13.trans (hx4.mono (by omega)) (Nat.le_refl _)
  have hr4 := (hx14 (3 * n + 2) (by omega)).trans hr1
  repeat refine zR ?_
  refine st_load1 rfl rfl rfl rfl rfl rfl hr4 rfl (v := .slice aO p.obj.length cO) rfl ?_
  refine st_appG (lo := n3) rfl rfl rfl rfl rfl rfl rfl rfl (by decide) (.emp (Nat.le_refl _) (Nat.lt_succ_self _)) (argS_sl (hO1.ext hx14 (show n + 1 ≤ n3 + 1 by omega))) (by omega) (ents_len _) (ones_entsV _) (by show n ≤ n3 ∧ _; omega) ?_
  intro vL h5 n5 hn5 hgL hx5 _ _
  rw [Nat.zero_add, List.nil_append] at hgL
  obtain ⟨aL, rfl, _⟩ := hgL.shape
  have hapt : Apt (.slice al p.objFree.length p.objFree.length) (.slice aL p.obj.length p.obj.length) := .of hgl.below hgL.fresh
  have hgl5 := hgl.ext (hx4.trans hx5 (Nat.le_refl _)) (show n3 ≤ n5 by omega)
  have hx15 : Ext (n + 1) h1 h5 := hx14.trans (hx5.mono (by omega)) (Nat.le_refl _)
  have hr5 := (hx15 (3 * n + 2) (by omega)).trans hr1
  have hgL5 : Gr0 h5 (n + 1) n5 37 4 (.slice aL p.obj.length p.obj.length) p.obj.length (ents p.obj) := hgL.lo (by omega)
  repeat refine zR ?_
  simp only [NV, Nat.reduceEqDiff, reduceCtorEq]
  repeat refine zR ?_
  refine st_load1 rfl rfl rfl rfl rfl rfl hr5 rfl (v := .slice aE p.eqs.length cE) rfl ?_
  repeat refine zR ?_
  simp only [NV, Nat.reduceEqDiff, reduceCtorEq]
  refine EC_for (α := Nat × Value × List (List UInt8) × Value × List Ent) (fun z => [(1, .pointer (some ⟨3 * n + 2, 0, none⟩)), (3, z.2.1), (4, z.2.2.2.1), (18, .slice aE p.eqs.length cE), (19, .int .i64 (p.eqs.length : Int)), (20, .int .i64 (z.1 : Int))])
    (fun z h' n' w => w = [] ∧ n + 1 ≤ n' ∧ Ext (n + 1) h1 h' ∧ Gr0 h' (n + 1) n' 9 1 z.2.1 z.2.2.1.length (strs z.2.2.1) ∧ Gr0 h' (n + 1) n' 37 4 z.2.2.2.1 z.2.2.2.2.length (ents z.2.2.2.2) ∧ Apt z.2.1 z.2.2.2.1 ∧ z.1 ≤ p.eqs.length ∧ z.2.2.1.length ≤ 60 + 61 * z.1 ∧ z.2.2.2.2.length ≤ 60 + 60 * z.1 ∧ (∀ s ∈ p.objFree, s ∈ z.2.2.1) ∧ (∀ e ∈ p.obj, e ∈ z.2.2.2.2) ∧ ∀ i q, i < z.1 → p.eqs[i]? = some q → (∀ s ∈ q.rhs :: q.fr, s ∈ z.2.2.1) ∧ ∀ e ∈ q.es, e ∈ z.2.2.2.2)
    (fun z => p.eqs.length - z.1) (0, .slice al p.objFree.length p.objFree.length, p.objFree, .slice aL p.obj.length p.obj.length, p.obj) ⟨rfl, rfl, rfl, rfl, rfl, rfl, trivial⟩ ⟨rfl, by show n + 1 ≤ n5; omega, hx15, hgl5, hgL5, hapt, Nat.zero_le _, g2, g1, fun s h => h, fun e h => h, fun i q h => absurd h (Nat.not_lt_zero i)⟩ (by show p.eqs.length - 0 < LL; unfold LL; omega) ?_
  clear hapt hgl5 hgL5 hgl hgL hr5 hr4 hr2 hx15 hx5 hx14 hx4 hx13 hx3 hx2
  rintro ⟨j, vl, S, vL, E⟩ t h6 n6 _ ⟨rfl, hn6, hx6, hgl, hgL, hapt, hj, hSl, hEl, hS1, hE1', hq1⟩
  simp only at hgl hgL hapt hj hSl hEl hS1 hE1' hq1
  obtain ⟨al6, rfl, _⟩ := hgl.shape
  obtain ⟨aL6, rfl, _⟩ := hgL.shape
  simp only [NV, Nat.reduceEqDiff, reduceCtorEq]
  by_cases hjE : j = p.eqs.length
  case neg =>
    obtain ⟨q, hq⟩ : ∃ q, p.eqs[j]? = some q := ⟨p.eqs[j]'(by omega), List.getElem?_eq_getElem (by omega)⟩
    obtain ⟨q1, q2⟩ := g4 q (List.mem_of_getElem? hq)
    obtain ⟨ve, vf, hce, hve, hvf⟩ := hEq1.get hq
    obtain ⟨ae, le, cce, rfl, _⟩ := hve.len
    obtain ⟨af, lf, ccf, rfl, _⟩ := hvf.len
    have hle := hve.lenEq (m := q.es.length) (by omega) (ents_len _)
    have hlf := hvf.lenEq (m := q.fr.length) (by omega) (strs_len1 _)
    subst hle hlf
    obtain ⟨bE, oE, xE, csE, rfl, hbE, hxE, hcE, hcapE, hleE, heE⟩ := hE1.inv (by omega)
    have hcell : (csE.drop (oE + j * 3)).take 3 = [.slice ae q.es.length cce, .slice af q.fr.length ccf, .string ⟨⟨q.rhs⟩⟩] := by rw [take_at heE (by omega), hce]
    have hxE6 : h6 bE = some xE := by rw [hx6 bE hbE]; exact hxE
    repeat refine zR ?_
    simp only [NV, Nat.reduceEqDiff, reduceCtorEq]
    rw [EC_cond_true rfl]
    simp only [NV, Nat.reduceEqDiff, reduceCtorEq]
    refine st_idx rfl rfl rfl rfl rfl rfl rfl rfl (by omega) ?_
    refine st_load (v := .agg #[.slice ae q.es.length cce, .slice af q.fr.length ccf, .string ⟨⟨q.rhs⟩⟩]) rfl rfl rfl rfl rfl (loadn_eq rfl rfl hxE6 hcE (by omega) (by rw [← hcell]; congr 2 <;> omega)) ?_
    refine st_alloc rfl rfl rfl rfl rfl ?_
    refine st_storeW [.slice ae q.es.length cce, .slice af q.fr.length ccf, .string ⟨⟨q.rhs⟩⟩] rfl rfl rfl rfl rfl rfl rfl rfl (upd_same _ _ _) rfl (by show 3 * n ≤ 3 * n6 + 2; omega) ?_
    rw [upd_upd]
    generalize hh : upd h6 (3 * n6 + 2) _ = h7
    have hp7 : ∃ ty, h7 (3 * n6 + 2) = some (.row [.slice ae q.es.length cce, .slice af q.fr.length ccf, .string ⟨⟨q.rhs⟩⟩] ty) := ⟨_, by rw [← hh, upd_same]⟩
    obtain ⟨ty7, hp7⟩ := hp7
    have hx7 : Ext n6 h6 h7 := by rw [← hh]; exact Ext.upd (by omega)
    clear hh
    have hgl7 := hgl.ext hx7 (Nat.le_succ n6)
    have hgL7 := hgL.ext hx7 (Nat.le_succ n6)
    have hx17 : Ext (n + 1) h1 h7 := hx6.trans (hx7.mono hn6) (Nat.le_refl _)
    have hO6 : Off (3 * n6 + 2) (.slice al6 S.length S.length) := hgl.below.off (by omega)
    have hbl6 := hgl.below
    simp only [NV, Nat.reduceEqDiff, reduceCtorEq]
    refine EC_draw [0, 0, 2, 6, 15, 0, 32, 127, 255] rfl ?_
    repeat refine zE ?_
    refine dr_load rfl rfl rfl rfl rfl rfl (load1_eq rfl hp7 rfl (v := .string ⟨⟨q.rhs⟩⟩) rfl) rfl rfl ?_
    refine dr_mks (cs := [.string ⟨⟨q.rhs⟩⟩]) rfl rfl rfl rfl rfl ?_
    generalize hh : upd h7 (3 * (n6 + 1) + 2) _ = h8
    have hx8 : Ext (n6 + 1) h7 h8 := by rw [← hh]; exact Ext.upd (by omega)
    have hr8 : ∃ ty, h8 (3 * (n6 + 1) + 2) = some (.row [.string ⟨⟨q.rhs⟩⟩] ty) := ⟨_, by rw [← hh, upd_same]⟩
    obtain ⟨ty8, hr8⟩ := hr8
    clear hh
    have hp8 : h8 (3 * n6 + 2) = _ := (hx8 _ (by omega)).trans hp7
    have hx18 : Ext (n + 1) h1 h8 := hx17.trans (hx8.mono (by omega)) (Nat.le_refl _)
    have hgl8 := hgl7.ext hx8 (Nat.le_succ _)
    have hgL8 := hgL7.ext hx8 (Nat.le_succ _)
    refine dr_appG (lo := n + 1) (mm := 1) rfl rfl rfl rfl rfl rfl rfl rfl (by decide) rfl rfl (fun y hy => by rw [List.mem_singleton.1 hy]; exact gro_two2 _) hgl8 (argS_of hr8 rfl rfl) (by omega) rfl rfl (by show n ≤ n + 1 ∧ _; omega) ?_
    intro v9 h9 n9 W9 hn9 hg9 hx9 hk9 hf9 hW9
    have hS9 : strs S ++ [.string ⟨⟨q.rhs⟩⟩] = strs (S ++ [q.rhs]) := by rw [strs_app]; rfl
    rw [hS9] at hg9
    obtain ⟨a9, rfl, _⟩ := hg9.shape
    have hap9 : Apt (.slice aL6 E.length E.length) (.slice a9 (S.length + 1) (S.length + 1)) := by
      rcases hf9 with e | hf9
      · rw [e]; exact hapt.symm
      · exact .of hgL8.below hf9
    have hgL9 := hgL8.keep hk9 hapt.symm hn9
    have hO9 : Off (3 * n6 + 2) (.slice a9 (S.length + 1) (S.length + 1)) := by
      rcases hf9 with e | hf9
      · rw [e]; exact hO6
      · exact hf9.off (by omega)
    have hp9 : h9 (3 * n6 + 2) = _ := (hk9.at (by omega) hO6).trans hp8
    have hx19 : Ext (n + 1) h1 h9 := hx18.trans hx9 (Nat.le_refl _)
    repeat refine zE ?_
    refine dr_load rfl rfl rfl rfl rfl rfl (load1_eq rfl hp8 rfl (v := .slice af q.fr.length ccf) rfl) (okEffsF_gro (fun x hx => by rw [List.mem_singleton.1 hx]; exact hW9) (gro_two2 _)) (okAls_dif (fun x hx => by rw [List.mem_singleton.1 hx]; show 3 * (n6 + 1) + 2 ≠ 3 * n6 + 2; omega)) ?_
    refine dr_appG (lo := n + 1) (mm := q.fr.length) rfl rfl rfl rfl rfl rfl rfl rfl (by decide) rfl rfl (fun y hy => by
      rcases List.mem_cons.1 hy with rfl | hy
      · exact gro_two2 _
      · rw [List.mem_singleton.1 hy]; exact gro_two2 _) hg9 (argS_sl (hvf.ext hx19 (show n + 1 ≤ n9 by omega))) (by omega) (strs_len1 _) (ones_strs _) (by show n ≤ n + 1 ∧ _; omega) ?_
    intro v10 h10 n10 W10 hn10 hg10 hx10 hk10 hf10 hW10
    rw [← strs_app] at hg10
    obtain ⟨a10, rfl, _⟩ := hg10.shape
    have hap10 : Apt (.slice aL6 E.length E.length) (.slice a10 (S.length + 1 + q.fr.length) (S.length + 1 + q.fr.length)) := by
      rcases hf10 with e | hf10
      · rw [e]; exact hap9
      · exact .of hgL9.below hf10
    have hgL10 := hgL9.keep hk10 hap9 hn10
    have hp10 : h10 (3 * n6 + 2) = _ := (hk10.at (by omega) hO9).trans hp9
    have hx110 : Ext (n + 1) h1 h10 := hx19.trans hx10 (Nat.le_refl _)
    repeat refine zE ?_
    simp only [NV, Nat.reduceEqDiff, reduceCtorEq]
    repeat refine zR ?_
    refine st_load1 rfl rfl rfl rfl rfl rfl hp10 rfl (v := .slice ae q.es.length cce) rfl ?_
    refine st_appG (lo := n + 1) (m := q.es.length) rfl rfl rfl rfl rfl rfl rfl rfl (by decide) hgL10 (argS_sl (hve.ext hx110 (show n + 1 ≤ n10 by omega))) (by omega) (ents_len _) (ones_entsV _) (by show n ≤ n + 1 ∧ _; omega) ?_
    intro v11 h11 n11 hn11 hg11 hx11 hk11 hf11
    rw [← ents_app] at hg11
    obtain ⟨a11, rfl, _⟩ := hg11.shape
    have hap11 : Apt (.slice a10 (S.length + 1 + q.fr.length) (S.length + 1 + q.fr.length)) (.slice a11 (E.length + q.es.length) (E.length + q.es.length)) := by
      rcases hf11 with e | hf11
      · rw [e]; exact hap10.symm
      · exact .of hg10.below hf11
    have hgl11 := hg10.keep hk11 hap10.symm hn11
    repeat refine zR ?_
    simp only [NV, Nat.reduceEqDiff, reduceCtorEq]
    repeat refine zR ?_
    simp only [NV, Nat.reduceEqDiff, reduceCtorEq]
    have hSL : (S ++ [q.rhs] ++ q.fr).length = S.length + 1 + q.fr.length := by simp; omega
    have hEL : (E ++ q.es).length = E.length + q.es.length := by simp
    refine goOn (j + 1, .slice a10 (S.length + 1 + q.fr.length) (S.length + 1 + q.fr.length), S ++ [q.rhs] ++ q.fr, .slice a11 (E.length + q.es.length) (E.length + q.es.length), E ++ q.es) (by show p.eqs.length - (j + 1) < p.eqs.length - j; omega) ⟨rfl, rfl, rfl, rfl, rfl, rfl, trivial⟩ ⟨rfl, by show n + 1 ≤ n11; omega, hx110.trans hx11 (Nat.le_refl _), by show Gr0 _ _ _ _ _ _ (S ++ [q.rhs] ++ q.fr).length _; rw [hSL]; exact hgl11, by show Gr0 _ _ _ _ _ _ (E ++ q.es).length _; rw [hEL]; exact hg11, hap11, by show j + 1 ≤ _; omega, by show (S ++ [q.rhs] ++ q.fr).length ≤ _; omega, by show (E ++ q.es).length ≤ _; omega, fun s hs => by have := hS1 s hs; simp [this], fun e he => by have := hE1' e he; simp [this], fun i q' hi hq' => ?_⟩
    by_cases hij : i < j
    · obtain ⟨r1, r2⟩ := hq1 i q' hij hq'
      exact ⟨fun s hs => by have := r1 s hs; simp [this], fun e he => by have := r2 e he; simp [this]⟩
    · have hij' : i = j := by have : i < j + 1 := hi; omega
      rw [hij', hq] at hq'
      injection hq' with hq'
      subst hq'
      refine ⟨fun s hs => ?_, fun e he => by simp [he]⟩
      rcases List.mem_cons.1 hs with rfl | hs
      · simp
      · simp [hs]
  subst hjE
  repeat refine zR ?_
  simp only [NV, Nat.reduceEqDiff, reduceCtorEq]
  rw [EC_cond_false rfl]
  simp only [NV, Nat.reduceEqDiff, reduceCtorEq]
  repeat refine zR ?_
  simp only [NV, Nat.reduceEqDiff, reduceCtorEq]
  refine EC_for (α := Nat × Value × List (List UInt8)) (fun z => [(3, z.2.1), (37, .slice aL6 E.length E.length), (38, .int .i64 (E.length : Int)), (39, .int .i64 (z.1 : Int))])
    (fun z h' n' w => w = [] ∧ n + 1 ≤ n' ∧ Gr0 h' (n + 1) n' 9 1 z.2.1 z.2.2.length (strs z.2.2) ∧ Gr0 h' (n + 1) n' 37 4 (.slice aL6 E.length E.length) E.length (ents E) ∧ Apt (.slice aL6 E.length E.length) z.2.1 ∧ z.1 ≤ E.length ∧ z.2.2.length ≤ 60 + 61 * p.eqs.length + z.1 ∧ (∀ s ∈ S, s ∈ z.2.2) ∧ ∀ i e, i < z.1 → E[i]? = some e → e.v ∈ z.2.2)
    (fun z => E.length - z.1) (0, .slice al6 S.length S.length, S) ⟨rfl, rfl, rfl, rfl, trivial⟩ ⟨rfl, hn6, hgl, hgL, hapt.symm, Nat.zero_le _, hSl, fun s h => h, fun i e h => absurd h (Nat.not_lt_zero i)⟩ (by show E.length - 0 < LL; unfold LL; omega) ?_
  rintro ⟨j, vl, T⟩ t h7 n7 _ ⟨rfl, hn7, hgl7, hgL7, hapt7, hj7, hTl, hT1, hT2⟩
  simp only at hgl7 hgL7 hapt7 hj7 hTl hT1 hT2
  obtain ⟨al7, rfl, _⟩ := hgl7.shape
  simp only [NV, Nat.reduceEqDiff, reduceCtorEq]
  by_cases hjE : j = E.length
  · subst hjE
    repeat refine zR ?_
    simp only [NV, Nat.reduceEqDiff, reduceCtorEq]
    rw [EC_cond_false rfl]
    simp only [NV, Nat.reduceEqDiff, reduceCtorEq]
    refine zM ?_
    refine st_vf _ rfl rfl rfl rfl rfl (small_ok k 40 hgl7.sl (by omega)) ?_
    rintro _ ⟨b, rfl, hb⟩
    repeat refine zR ?_
    simp only [NV, Nat.reduceEqDiff, reduceCtorEq]
    refine retF _ rfl (resF_tmp rfl) rfl rfl ⟨b, rfl, fun e => ?_⟩
    have hall : ∀ s ∈ T, s.length ≤ 40 := fun s hs => by have := hb.1 e s hs; omega
    have hent : ∀ e ∈ E, e.v.length ≤ 40 := fun e he => by
      obtain ⟨i, hi, ee⟩ := List.getElem_of_mem he
      exact hall _ (hT2 i e hi (by rw [List.getElem?_eq_getElem hi, ee]))
    refine ⟨fun e he => hent e (hE1' e he), fun s hs => hall s (hT1 s (hS1 s hs)), fun q hq => ?_⟩
    obtain ⟨i, hi, ee⟩ := List.getElem_of_mem hq
    obtain ⟨r1, r2⟩ := hq1 i q hi (by rw [List.getElem?_eq_getElem hi, ee])
    exact ⟨fun e he => hent e (r2 e he), fun s hs => hall s (hT1 s (r1 s hs))⟩
  obtain ⟨e, he⟩ : ∃ e, E[j]? = some e := ⟨E[j]'(by omega), List.getElem?_eq_getElem (by omega)⟩
  obtain ⟨bL, oL, xL, csL, hbLe, hbL, hxL, hcL, hcapL, hleL, heL⟩ := hgL7.sl.inv (by omega)
  have hcellL : (csL.drop (oL + j * 4)).take 4 = entC e := by rw [take_at heL (by omega), ents_at he]
  subst hbLe
  repeat refine zR ?_
  simp only [NV, Nat.reduceEqDiff, reduceCtorEq]
  rw [EC_cond_true rfl]
  simp only [NV, Nat.reduceEqDiff, reduceCtorEq]
  refine st_idx rfl rfl rfl rfl rfl rfl rfl rfl (by omega) ?_
  refine st_load (v := .agg (entC e).toArray) rfl rfl rfl rfl rfl (loadn_eq rfl rfl hxL hcL (by omega) (by rw [← hcellL]; congr 2 <;> omega)) ?_
  refine st_alloc rfl rfl rfl rfl rfl ?_
  refine st_storeW (entC e) rfl rfl rfl rfl rfl rfl rfl rfl (upd_same _ _ _) rfl (by show 3 * n ≤ 3 * n7 + 2; omega) ?_
  rw [upd_upd]
  generalize hh : upd h7 (3 * n7 + 2) _ = h8
  have hp8 : ∃ ty, h8 (3 * n7 + 2) = some (.row (entC e) ty) := ⟨_, by rw [← hh, upd_same]⟩
  obtain ⟨ty8, hp8⟩ := hp8
  have hx8 : Ext n7 h7 h8 := by rw [← hh]; exact Ext.upd (by omega)
  clear hh
  have hgl8 := hgl7.ext hx8 (Nat.le_succ n7)
  have hgL8 := hgL7.ext hx8 (Nat.le_succ n7)
  simp only [NV, Nat.reduceEqDiff, reduceCtorEq]
  repeat refine zR ?_
  refine st_load1 rfl rfl rfl rfl rfl rfl hp8 rfl (v := .string ⟨⟨e.v⟩⟩) rfl ?_
  refine st_mks (cs := [.string ⟨⟨e.v⟩⟩]) rfl rfl rfl rfl rfl ?_
  generalize hh : upd h8 (3 * (n7 + 1) + 2) _ = h9
  have hp9 : ∃ ty, h9 (3 * (n7 + 1) + 2) = some (.row [.string ⟨⟨e.v⟩⟩] ty) := ⟨_, by rw [← hh, upd_same]⟩
  obtain ⟨ty9, hp9⟩ := hp9
  have hx9 : Ext (n7 + 1) h8 h9 := by rw [← hh]; exact Ext.upd (by omega)
  clear hh
  have hgl9 := hgl8.ext hx9 (Nat.le_succ _)
  have hgL9 := hgL8.ext hx9 (Nat.le_succ _)
  refine st_appG (lo := n + 1) (m := 1) rfl rfl rfl rfl rfl rfl rfl rfl (by decide) hgl9 (argS_of hp9 rfl rfl) (by omega) rfl rfl (by show n ≤ n + 1 ∧ _; omega) ?_
  intro v10 h10 n10 hn10 hg10 hx10 hk10 hf10
  rw [show strs T ++ [.string ⟨⟨e.v⟩⟩] = strs (T ++ [e.v]) from by rw [strs_app]; rfl] at hg10
  obtain ⟨a10, rfl, _⟩ := hg10.shape
  have hap10 : Apt (.slice (some ⟨bL, oL, none⟩) E.length E.length) (.slice a10 (T.length + 1) (T.length + 1)) := by
    rcases hf10 with e | hf10
    · rw [e]; exact hapt7
    · exact .of hgL9.below hf10
  have hgL10 := hgL9.keep hk10 hapt7 hn10
  repeat refine zR ?_
  simp only [NV, Nat.reduceEqDiff, reduceCtorEq]
  repeat refine zR ?_
  simp only [NV, Nat.reduceEqDiff, reduceCtorEq]
  have hTL : (T ++ [e.v]).length = T.length + 1 := by simp
  refine goOn (j + 1, .slice a10 (T.length + 1) (T.length + 1), T ++ [e.v]) (by show E.length - (j + 1) < E.length - j; omega) ⟨rfl, rfl, rfl, rfl, trivial⟩ ⟨rfl, by show n + 1 ≤ n10; omega, by show Gr0 _ _ _ _ _ _ (T ++ [e.v]).length _; rw [hTL]; exact hg10, hgL10, hap10, by show j + 1 ≤ _; omega, by show (T ++ [e.v]).length ≤ _; omega, fun s hs => by have := hT1 s hs; simp [this], fun i e' hi he' => ?_⟩
  by_cases hij : i < j
  · have := hT2 i e' hij he'
    simp [this]
  · have hij' : i = j := by have : i < j + 1 := hi; omega
    rw [hij', he] at he'
    injection he' with he'
    subst he'
    simp
end Go.Proofs.YtokfihhdllmbmaaGreatDoor
namespace Go.Proofs.YtokfihhdllmbmaaGreatDoor
open Go Go.GL
structure SdpM (p : Sdp) : Prop where
  bl : p.blocks.length < 2000000
  ol : p.obj.length < 2000000
  fl : p.objFree.length < 2000000
  el : p.eqs.length < 2000000
  qs : ∀ q ∈ p.eqs, q.es.length < 2000000 ∧ q.fr.length < 2000000
theorem clamp40 (d : Int) : ∃ z : Nat, (if (if (40 : Int) < d then 40 else d) < 0 then 0 else (if (40 : Int) < d then 40 else d)) = (z : Int) ∧ z ≤ 40 := by
  by_cases h1 : (40 : Int) < d
  · rw [if_pos h1]; exact ⟨40, rfl, Nat.le_refl _⟩
  · rw [if_neg h1]
    by_cases h2 : d < 0
    · rw [if_pos h2]; exact ⟨0, rfl, by omega⟩
    · rw [if_neg h2]; exact ⟨d.toNat, by omega, by omega⟩
theorem SdpStr.lens {p : Sdp} (h60 : Sdp60 p) (hb : p.blocks.length ≤ 70) (h : SdpStr (fun s => s.length ≤ 40) p) : SdpB p := by
  obtain ⟨g1, g2, g3, g4⟩ := h60
  obtain ⟨h1, h2, h3⟩ := h
  refine ⟨by omega, by omega, by omega, by omega, fun e he => by have := h1 e he; omega, fun s hs => by have := h2 s hs; omega, fun q hq => ?_⟩
  obtain ⟨r1, r2⟩ := g4 q hq
  obtain ⟨r3, r4⟩ := h3 q hq
  exact ⟨by omega, by omega, fun e he => by have := r3 e he; omega, fun s hs => by have := r4 s hs; omega⟩
set_option maxHeartbeats 4000000
theorem few_ok (k : Nat) {h : HF} {n : Nat} {vB vO vF vE : Value} {p : Sdp} {fr : Int} (hp : SdpR h n vB vO vF vE p) (hM : SdpM p) : VF (cal (k + 3)) 13 [.agg #[vB, .int .i64 fr, vO, vF, vE]] h n fun v => ∃ b : Bool, v = .bool b ∧ (b = true → SdpB p ∧ SdpStr (fun s => s.length ≤ 40) p) := by
  refine CF_flat (fn := Tryz.f13) rfl rfl rfl rfl ?_
  have hp0 := hp
  obtain ⟨hB, hO, hFr, ce, hE, hEq⟩ := hp
  obtain ⟨aB, lB, cB, rfl, _⟩ := hB.len
  obtain ⟨aO, lO, cO, rfl, _⟩ := hO.len
  obtain ⟨aF, lF, cF, rfl, _⟩ := hFr.len
  obtain ⟨aE, lE, cE, rfl, _⟩ := hE.len
  have hlB := hB.lenEq (m := p.blocks.length) (by omega) (by simp [i64s])
  have hlO := hO.lenEq (m := p.obj.length) (by omega) (ents_len _)
  have hlF := hFr.lenEq (m := p.objFree.length) (by omega) (strs_len1 _)
  have hlE := hE.lenEq (m := p.eqs.length) (by omega) hEq.len
  subst hlB hlO hlF hlE
  obtain ⟨m1, m2, m3, m4, m5⟩ := hM
  simp only [NV, Nat.reduceEqDiff, reduceCtorEq]
  refine st_mkp (cs := [.slice aB p.blocks.length cB, .int .i64 fr, .slice aO p.obj.length cO, .slice aF p.objFree.length cF, .slice aE p.eqs.length cE]) rfl rfl rfl rfl rfl ?_
  generalize hh : upd h (3 * n + 2) _ = h1
  have hx1 : Ext n h h1 := by rw [← hh]; exact Ext.upd (by omega)
  have hr1 : ∃ ty, h1 (3 * n + 2) = some (.row [.slice aB p.blocks.length cB, .int .i64 fr, .slice aO p.obj.length cO, .slice aF p.objFree.length cF, .slice aE p.eqs.length cE] ty) := ⟨_, by rw [← hh, upd_same]⟩
  obtain ⟨ty1, hr1⟩ := hr1
  clear hh
  have hB1 := hB.ext hx1 (Nat.le_succ n)
  have hE1 := hE.ext hx1 (Nat.le_succ n)
  have hEq1 := hEq.ext hx1 (Nat.le_succ n)
  repeat refine zR ?_
  simp only [NV, Nat.reduceEqDiff, reduceCtorEq]
  repeat (first | refine st_load1 rfl rfl rfl rfl rfl rfl hr1 rfl rfl ?_ | refine zR ?_)
  simp only [NV, Nat.reduceEqDiff, reduceCtorEq]
  repeat (first | refine st_load1 rfl rfl rfl rfl rfl rfl hr1 rfl rfl ?_ | refine zR ?_)
  simp only [NV, Nat.reduceEqDiff, reduceCtorEq]
  obtain ⟨base, hbase⟩ : ∃ b, b = p.obj.length + p.objFree.length := ⟨_, rfl⟩
  refine EC_for (α := Nat × Nat) (fun z => [(1, .pointer (some ⟨3 * n + 2, 0, none⟩)), (3, .int .i64 (z.2 : Int)), (16, .slice aB p.blocks.length cB), (17, .int .i64 (p.blocks.length : Int)), (18, .int .i64 (z.1 : Int))])
    (fun z h' n' w => h1 = h' ∧ n' = n + 1 ∧ w = [] ∧ z.1 ≤ p.blocks.length ∧ base ≤ z.2 ∧ z.2 ≤ base + 40 * z.1) (fun z => p.blocks.length - z.1) (0, base) ⟨rfl, by show Value.int .i64 _ = Value.int .i64 _; rw [hbase]; congr 1, rfl, rfl, rfl, trivial⟩ ⟨rfl, rfl, rfl, Nat.zero_le _, Nat.le_refl _, Nat.le_refl _⟩ (by show p.blocks.length - 0 < LL; unfold LL; omega) ?_
  rintro ⟨j, x⟩ t _ _ _ ⟨rfl, rfl, rfl, hj, hx1', hx2'⟩
  simp only at hj hx1' hx2'
  simp only [NV, Nat.reduceEqDiff, reduceCtorEq]
  by_cases hjB : j = p.blocks.length
  case neg =>
    obtain ⟨dd, hdd⟩ : ∃ d, p.blocks[j]? = some d := ⟨p.blocks[j]'(by omega), List.getElem?_eq_getElem (by omega)⟩
    obtain ⟨z, hz, hz40⟩ := clamp40 dd
    repeat refine zR ?_
    simp only [NV, Nat.reduceEqDiff, reduceCtorEq]
    rw [EC_cond_true rfl]
    simp only [NV, Nat.reduceEqDiff, reduceCtorEq]
    refine st_at (f := Value.int .i64) (j := j) (dv := dd) rfl rfl rfl rfl rfl rfl rfl hB1 rfl rfl hdd (fun _ => rfl) rfl rfl rfl rfl fun _ => ?_
    repeat refine zR ?_
    simp only [NV, Nat.reduceEqDiff, reduceCtorEq]
    refine zM ?_
    refine zM ?_
    refine st_I (ik := .i64) (a := if (40 : Int) < dd then 40 else dd) rfl rfl rfl rfl rfl ?_
    refine st_I (ik := .i64) (a := (z : Int)) rfl rfl rfl rfl (by show some (Value.int .i64 (if (if (40 : Int) < dd then 40 else dd) < 0 then 0 else (if (40 : Int) < dd then 40 else dd))) = _; rw [hz]) ?_
    refine st_add (a := (x : Int)) (b := (z : Int)) rfl rfl rfl rfl rfl rfl (by omega) ?_
    repeat refine zR ?_
    simp only [NV, Nat.reduceEqDiff, reduceCtorEq]
    repeat refine zR ?_
    simp only [NV, Nat.reduceEqDiff, reduceCtorEq]
    exact goOn (j + 1, x + z) (by show p.blocks.length - (j + 1) < p.blocks.length - j; omega) ⟨rfl, rfl, rfl, rfl, rfl, trivial⟩ ⟨rfl, rfl, rfl, by show j + 1 ≤ _; omega, by show base ≤ x + z; omega, by show x + z ≤ base + 40 * (j + 1); omega⟩
  subst hjB
  repeat refine zR ?_
  simp only [NV, Nat.reduceEqDiff, reduceCtorEq]
  rw [EC_cond_false rfl]
  simp only [NV, Nat.reduceEqDiff, reduceCtorEq]
  repeat (first | refine st_load1 rfl rfl rfl rfl rfl rfl hr1 rfl rfl ?_ | refine zR ?_)
  simp only [NV, Nat.reduceEqDiff, reduceCtorEq]
  obtain ⟨top, htop⟩ : ∃ b, b = base + 40 * p.blocks.length := ⟨_, rfl⟩
  rw [← htop] at hx2'
  have htop' : top < 100000000 := by omega
  refine EC_for (α := Nat × Nat) (fun z => [(1, .pointer (some ⟨3 * n + 2, 0, none⟩)), (3, .int .i64 (z.2 : Int)), (29, .slice aE p.eqs.length cE), (30, .int .i64 (p.eqs.length : Int)), (31, .int .i64 (z.1 : Int))])
    (fun z h' n' w => Ext (n + 1) h1 h' ∧ n + 1 ≤ n' ∧ w = [] ∧ z.1 ≤ p.eqs.length ∧ base + z.1 ≤ z.2 ∧ z.2 ≤ top + 5000000 * z.1 ∧ ∀ i q, i < z.1 → p.eqs[i]? = some q → q.es.length + q.fr.length ≤ z.2) (fun z => p.eqs.length - z.1) (0, x) ⟨rfl, rfl, rfl, rfl, rfl, trivial⟩ ⟨Ext.refl _ _, Nat.le_refl _, rfl, Nat.zero_le _, hx1', hx2', fun i q h => absurd h (Nat.not_lt_zero i)⟩ (by show p.eqs.length - 0 < LL; unfold LL; omega) ?_
  rintro ⟨j, y⟩ t h2 n2 _ ⟨hx2, hn2, rfl, hj, hy1, hy2, hq1⟩
  simp only at hj hy1 hy2 hq1
  simp only [NV, Nat.reduceEqDiff, reduceCtorEq]
  by_cases hjE : j = p.eqs.length
  case neg =>
    obtain ⟨q, hq⟩ : ∃ q, p.eqs[j]? = some q := ⟨p.eqs[j]'(by omega), List.getElem?_eq_getElem (by omega)⟩
    obtain ⟨q1, q2⟩ := m5 q (List.mem_of_getElem? hq)
    obtain ⟨ve, vf, hce, hve, hvf⟩ := hEq1.get hq
    obtain ⟨ae, le, cce, rfl, _⟩ := hve.len
    obtain ⟨af, lf, ccf, rfl, _⟩ := hvf.len
    have hle := hve.lenEq (m := q.es.length) (by omega) (ents_len _)
    have hlf := hvf.lenEq (m := q.fr.length) (by omega) (strs_len1 _)
    subst hle hlf
    obtain ⟨bE, oE, xE, csE, rfl, hbE, hxE, hcE, hcapE, hleE, heE⟩ := hE1.inv (by omega)
    have hcell : (csE.drop (oE + j * 3)).take 3 = [.slice ae q.es.length cce, .slice af q.fr.length ccf, .string ⟨⟨q.rhs⟩⟩] := by rw [take_at heE (by omega), hce]
    have hxE2 : h2 bE = some xE := by rw [hx2 bE hbE]; exact hxE
    repeat refine zR ?_
    simp only [NV, Nat.reduceEqDiff, reduceCtorEq]
    rw [EC_cond_true rfl]
    simp only [NV, Nat.reduceEqDiff, reduceCtorEq]
    refine st_idx rfl rfl rfl rfl rfl rfl rfl rfl (by omega) ?_
    refine st_load (v := .agg #[.slice ae q.es.length cce, .slice af q.fr.length ccf, .string ⟨⟨q.rhs⟩⟩]) rfl rfl rfl rfl rfl (loadn_eq rfl rfl hxE2 hcE (by omega) (by rw [← hcell]; congr 2 <;> omega)) ?_
    refine st_alloc rfl rfl rfl rfl rfl ?_
    refine st_storeW [.slice ae q.es.length cce, .slice af q.fr.length ccf, .string ⟨⟨q.rhs⟩⟩] rfl rfl rfl rfl rfl rfl rfl rfl (upd_same _ _ _) rfl (by show 3 * n ≤ 3 * n2 + 2; omega) ?_
    rw [upd_upd]
    generalize hh : upd h2 (3 * n2 + 2) _ = h3
    have hp3 : ∃ ty, h3 (3 * n2 + 2) = some (.row [.slice ae q.es.length cce, .slice af q.fr.length ccf, .string ⟨⟨q.rhs⟩⟩] ty) := ⟨_, by rw [← hh, upd_same]⟩
    obtain ⟨ty3, hp3⟩ := hp3
    have hx3 : Ext n2 h2 h3 := by rw [← hh]; exact Ext.upd (by omega)
    clear hh
    simp only [NV, Nat.reduceEqDiff, reduceCtorEq]
    repeat (first | refine st_load1 rfl rfl rfl rfl rfl rfl hp3 rfl rfl ?_ | refine zR ?_)
    simp only [NV, Nat.reduceEqDiff, reduceCtorEq]
    repeat refine zR ?_
    simp only [NV, Nat.reduceEqDiff, reduceCtorEq]
    refine goOn (j + 1, y + (1 + q.es.length + q.fr.length)) (by show p.eqs.length - (j + 1) < p.eqs.length - j; omega) ⟨rfl, by show Value.int .i64 _ = Value.int .i64 _; congr 1, rfl, rfl, rfl, trivial⟩ ⟨hx2.trans (hx3.mono hn2) (Nat.le_refl _), by show n + 1 ≤ n2 + 1; omega, rfl, by show j + 1 ≤ _; omega, by show base + (j + 1) ≤ y + _; omega, by show y + _ ≤ top + 5000000 * (j + 1); omega, fun i q' hi hq' => ?_⟩
    show q'.es.length + q'.fr.length ≤ y + (1 + q.es.length + q.fr.length)
    by_cases hij : i < j
    · have := hq1 i q' hij hq'; omega
    · have hij' : i = j := by have : i < j + 1 := hi; omega
      rw [hij', hq] at hq'
      injection hq' with hq'
      subst hq'
      omega
  subst hjE
  have hr2 := (hx2 (3 * n + 2) (by omega)).trans hr1
  repeat refine zR ?_
  simp only [NV, Nat.reduceEqDiff, reduceCtorEq]
  rw [EC_cond_false rfl]
  simp only [NV, Nat.reduceEqDiff, reduceCtorEq]
  by_cases hy60 : y ≤ 60
  case neg =>
    repeat refine zR ?_
    simp only [NV, Nat.reduceEqDiff, reduceCtorEq]
    exact retF _ rfl (resF_tmp rfl) rfl rfl ⟨false, rfl, fun h => by cases h⟩
  by_cases hb70 : p.blocks.length ≤ 70
  case neg =>
    repeat (first | refine st_load1 rfl rfl rfl rfl rfl rfl hr2 rfl rfl ?_ | refine zR ?_)
    simp only [NV, Nat.reduceEqDiff, reduceCtorEq]
    exact retF _ rfl (resF_tmp rfl) rfl rfl ⟨false, rfl, fun h => by cases h⟩
  have h60 : Sdp60 p := ⟨by omega, by omega, by omega, fun q hq => by
    obtain ⟨i, hi, ee⟩ := List.getElem_of_mem hq
    have := hq1 i q hi (by rw [List.getElem?_eq_getElem hi, ee])
    omega⟩
  have hx02 : Ext n h h2 := hx1.trans hx2 (Nat.le_succ n)
  have hp2 : SdpR h2 n2 (.slice aB p.blocks.length cB) (.slice aO p.obj.length cO) (.slice aF p.objFree.length cF) (.slice aE p.eqs.length cE) p := ⟨hB.ext hx02 (by omega), hO.ext hx02 (by omega), hFr.ext hx02 (by omega), ce, hE.ext hx02 (by omega), hEq.ext hx02 (by omega)⟩
  repeat (first | refine st_load1 rfl rfl rfl rfl rfl rfl hr2 rfl rfl ?_ | refine zR ?_)
  refine st_load (v := .agg #[.slice aB p.blocks.length cB, .int .i64 fr, .slice aO p.obj.length cO, .slice aF p.objFree.length cF, .slice aE p.eqs.length cE]) rfl rfl rfl rfl rfl (loadn_eq rfl rfl hr2 rfl (Nat.le_of_ble_eq_true rfl) rfl) ?_
  refine st_vf _ rfl rfl rfl rfl rfl (short_ok k (fr := fr) hp2 h60) ?_
  rintro _ ⟨b, rfl, hb⟩
  repeat refine zR ?_
  simp only [NV, Nat.reduceEqDiff, reduceCtorEq]
  exact retF _ rfl (resF_tmp rfl) rfl rfl ⟨b, rfl, fun e => ⟨(hb e).lens h60 hb70, hb e⟩⟩
theorem sV_ok (k : Nat) : RV (k + 7) fun s => s.length ≤ 40 := fun j h hG n hn s hs => by
  rw [show k + 7 + j = (k + j) + 7 from by omega]
  exact validS_ok (k + j) hG hn s hs
theorem sdpValidLaw_ok (k : Nat) {h : HF} (hG : GK.G h) {n : Nat} (hn : 20 ≤ n) {vB vO vF vE : Value} {p : Sdp} {fr : Int} (hp : SdpR h n vB vO vF vE p) (hM : SdpM p) : VF (cal (k + 10)) 3 [.agg #[vB, .int .i64 fr, vO, vF, vE]] h n fun v => v = .bool true := by
  refine CF_flat (fn := Tryz.f3) rfl rfl rfl rfl ?_
  obtain ⟨hB, hO, hFr, ce, hE, hEq⟩ := hp
  obtain ⟨aB, lB, cB, rfl, _⟩ := hB.len
  obtain ⟨aO, lO, cO, rfl, _⟩ := hO.len
  obtain ⟨aF, lF, cF, rfl, _⟩ := hFr.len
  obtain ⟨aE, lE, cE, rfl, _⟩ := hE.len
  simp only [NV, Nat.reduceEqDiff, reduceCtorEq]
  refine st_mkp (cs := [.slice aB lB cB, .int .i64 fr, .slice aO lO cO, .slice aF lF cF, .slice aE lE cE]) rfl rfl rfl rfl rfl ?_
  generalize hh : upd h (3 * n + 2) _ = h1
  have hx1 : Ext n h h1 := by rw [← hh]; exact Ext.upd (by omega)
  have hr1 : ∃ ty, h1 (3 * n + 2) = some (.row [.slice aB lB cB, .int .i64 fr, .slice aO lO cO, .slice aF lF cF, .slice aE lE cE] ty) := ⟨_, by rw [← hh, upd_same]⟩
  obtain ⟨ty1, hr1⟩ := hr1
  clear hh
  have hG1 := G_ext hG hx1 hn
  have hn1 : 20 ≤ n + 1 := by omega
  have hp1 : SdpR h1 (n + 1) (.slice aB lB cB) (.slice aO lO cO) (.slice aF lF cF) (.slice aE lE cE) p := ⟨hB.ext hx1 (Nat.le_succ n), hO.ext hx1 (Nat.le_succ n), hFr.ext hx1 (Nat.le_succ n), ce, hE.ext hx1 (Nat.le_succ n), hEq.ext hx1 (Nat.le_succ n)⟩
  have ld : loadVF env 27 h1 ⟨3 * n + 2, 0, none⟩ = some (.agg #[.slice aB lB cB, .int .i64 fr, .slice aO lO cO, .slice aF lF cF, .slice aE lE cE]) := loadn_eq rfl rfl hr1 rfl (Nat.le_of_ble_eq_true rfl) rfl
  repeat refine zR ?_
  simp only [NV, Nat.reduceEqDiff, reduceCtorEq]
  refine EC_draw [0, 1, 3, 7, 15, 31, 63, 127, 63, 511, 1023, 2047, 4095, 8191] rfl ?_
  refine dr_load rfl rfl rfl rfl rfl rfl ld rfl rfl ?_
  have hfew := few_ok (k + 6) (fr := fr) hp1 hM
  refine dr_vf _ rfl rfl rfl rfl rfl rfl rfl hfew ?_
  rintro _ ⟨b, rfl, hb⟩
  cases b with
  | false =>
    repeat refine zE ?_
    simp only [NV, Nat.reduceEqDiff, reduceCtorEq]
    exact retF _ rfl (resF_tmp rfl) rfl rfl rfl
  | true =>
  obtain ⟨hSB, hSS⟩ := hb rfl
  repeat refine zE ?_
  refine dr_vf _ rfl rfl rfl rfl rfl rfl rfl (knownV_ok (k + 8) hG1 (n + 1)) ?_
  rintro _ rfl
  repeat refine zE ?_
  refine dr_load rfl rfl rfl rfl rfl rfl ld (okEffsF_nil (by simp)) rfl ?_
  have hval := sdpValid_ok (k + 6) (sV_ok k) hG1 hn1 (fr := fr) hp1 hSB hSS
  refine dr_vf _ rfl rfl rfl rfl rfl rfl rfl hval ?_
  rintro _ ⟨b1, rfl, hb1⟩
  refine dr_load rfl rfl rfl rfl rfl rfl ld (okEffsF_nil (by simp)) rfl ?_
  have href := refValid_ok k (fr := fr) hp1 hSB
  refine dr_vf _ rfl rfl rfl rfl rfl rfl rfl href ?_
  rintro _ ⟨b2, rfl, hb2⟩
  have hbb : b1 = b2 := by
    have : b1 = true ↔ b2 = true := hb1.trans hb2.symm
    cases b1 <;> cases b2 <;> simp at this ⊢
  subst hbb
  refine dr_B (a := true) rfl rfl rfl rfl (by show some (Value.bool (b1 == b1)) = _; rw [beq_self_eq_true]) ?_
  repeat refine zE ?_
  simp only [NV, Nat.reduceEqDiff, reduceCtorEq]
  exact retF _ rfl (resF_tmp rfl) rfl rfl rfl
end Go.Proofs.YtokfihhdllmbmaaGreatDoor
namespace Go.Proofs.YtokfihhdllmbmaaGreatDoor
open Go Go.GL
def upFn (nm : Nat → Nat) : Fn → Fn
  | .yield l => .yield (nm l)
  | f => f
mutual
def up (nm : Nat → Nat) : Value → Value
  | .pointer (some a) => .pointer (some ⟨nm a.block, a.off, a.spot⟩)
  | .slice (some a) l c => .slice (some ⟨nm a.block, a.off, a.spot⟩) l c
  | .func f a b => .func (upFn nm f) (upA nm a) (upA nm b)
  | .agg cs => .agg (upA nm cs)
  | .tuple cs => .tuple (upA nm cs)
  | v => v
def upA (nm : Nat → Nat) : Array Value → Array Value
  | ⟨l⟩ => ⟨upL nm l⟩
def upL (nm : Nat → Nat) : List Value → List Value
  | [] => []
  | v :: r => up nm v :: upL nm r
end
mutual
theorem conc_up {ρ : Ren} {nm : Nat → Nat} (hb : ∀ b, ρ.b (nm b) = b) (hx : ∀ b, ρ.x (nm b) = 0) : ∀ v : Value, conc ρ (up nm v) = v
  | .pointer none => rfl
  | .pointer (some a) => by simp [up, conc, Ren.addr, hb]
  | .slice none _ _ => rfl
  | .slice (some a) l c => by simp [up, conc, Ren.addr, hb, hx]
  | .func f a b => by
    have h1 : ρ.fn (upFn nm f) = f := by cases f <;> simp [upFn, Ren.fn, hb]
    simp only [up, conc, h1, concA_up hb hx a, concA_up hb hx b]
  | .agg cs => by simp only [up, conc, concA_up hb hx cs]
  | .tuple cs => by simp only [up, conc, concA_up hb hx cs]
  | .bool _ => by simp [up, conc]
  | .int _ _ => by simp [up, conc]
  | .float _ _ => by simp [up, conc]
  | .complex _ _ _ => by simp [up, conc]
  | .string _ => by simp [up, conc]
  | .map _ => by simp [up, conc]
  | .chan _ => by simp [up, conc]
  | .nilFunc => by simp [up, conc]
  | .nilIface => by simp [up, conc]
  | .iface _ _ => by simp [up, conc]
theorem concA_up {ρ : Ren} {nm : Nat → Nat} (hb : ∀ b, ρ.b (nm b) = b) (hx : ∀ b, ρ.x (nm b) = 0) : ∀ a : Array Value, concA ρ (upA nm a) = a
  | ⟨l⟩ => by simp only [upA, concA, concL_up hb hx l]
theorem concL_up {ρ : Ren} {nm : Nat → Nat} (hb : ∀ b, ρ.b (nm b) = b) (hx : ∀ b, ρ.x (nm b) = 0) : ∀ l : List Value, concL ρ (upL nm l) = l
  | [] => rfl
  | v :: r => by simp only [upL, concL, conc_up hb hx v, concL_up hb hx r]
end
def bdFn : Fn → Nat
  | .yield l => l + 1
  | _ => 0
mutual
def bd : Value → Nat
  | .pointer (some a) => a.block + 1
  | .slice (some a) _ _ => a.block + 1
  | .func f a b => bdFn f + bdA a + bdA b
  | .agg cs => bdA cs
  | .tuple cs => bdA cs
  | _ => 0
def bdA : Array Value → Nat
  | ⟨l⟩ => bdL l
def bdL : List Value → Nat
  | [] => 0
  | v :: r => bd v + bdL r
end
theorem addr_agr {m : Nat} {ρ ρ' : Ren} (ha : Agr m ρ ρ') {a : Addr} (h : a.block < m) : ρ'.addr a = ρ.addr a := by
  unfold Ren.addr
  rw [(ha _ h).1]
mutual
theorem nb_bd : ∀ (v : Value) (m : Nat), bd v ≤ m → Nb m v
  | .pointer none, m, _ => fun ρ ρ' _ => by simp
  | .pointer (some a), m, h => fun ρ ρ' ha => by
    simp only [bd] at h
    simp only [conc, addr_agr ha (show a.block < m by omega)]
  | .slice none _ _, m, _ => fun ρ ρ' _ => by simp
  | .slice (some a) l c, m, h => fun ρ ρ' ha => by
    simp only [bd] at h
    simp only [conc, addr_agr ha (show a.block < m by omega), (ha _ (show a.block < m by omega)).2]
  | .func f a b, m, h => fun ρ ρ' ha => by
    simp only [bd] at h
    have h1 : ρ'.fn f = ρ.fn f := by
      cases f <;> simp [Ren.fn]
      rename_i l
      exact (ha l (by simp only [bdFn] at h; omega)).1
    simp only [conc, h1, nbA_bd a m (by omega) ρ ρ' ha, nbA_bd b m (by omega) ρ ρ' ha]
  | .agg cs, m, h => fun ρ ρ' ha => by
    simp only [bd] at h
    simp only [conc, nbA_bd cs m h ρ ρ' ha]
  | .tuple cs, m, h => fun ρ ρ' ha => by
    simp only [bd] at h
    simp only [conc, nbA_bd cs m h ρ ρ' ha]
  | .bool _, m, _ => fun ρ ρ' _ => by simp [conc]
  | .int _ _, m, _ => fun ρ ρ' _ => by simp [conc]
  | .float _ _, m, _ => fun ρ ρ' _ => by simp [conc]
  | .complex _ _ _, m, _ => fun ρ ρ' _ => by simp [conc]
  | .string _, m, _ => fun ρ ρ' _ => by simp [conc]
  | .map _, m, _ => fun ρ ρ' _ => by simp [conc]
  | .chan _, m, _ => fun ρ ρ' _ => by simp [conc]
  | .nilFunc, m, _ => fun ρ ρ' _ => by simp [conc]
  | .nilIface, m, _ => fun ρ ρ' _ => by simp [conc]
  | .iface _ _, m, _ => fun ρ ρ' _ => by simp [conc]
theorem nbA_bd : ∀ (a : Array Value) (m : Nat), bdA a ≤ m → ∀ ρ ρ' : Ren, Agr m ρ ρ' → concA ρ' a = concA ρ a
  | ⟨l⟩, m, h => fun ρ ρ' ha => by
    simp only [bdA] at h
    simp only [concA, nbL_bd l m h ρ ρ' ha]
theorem nbL_bd : ∀ (l : List Value) (m : Nat), bdL l ≤ m → ∀ ρ ρ' : Ren, Agr m ρ ρ' → concL ρ' l = concL ρ l
  | [], m, _ => fun ρ ρ' _ => rfl
  | v :: r, m, h => fun ρ ρ' ha => by
    simp only [bdL] at h
    simp only [concL, nb_bd v m (by omega) ρ ρ' ha, nbL_bd r m (by omega) ρ ρ' ha]
end
theorem bd_mem : ∀ {l : List Value} {v : Value}, v ∈ l → bd v ≤ bdL l := by
  intro l
  induction l with
  | nil => intro v hv; cases hv
  | cons a l ih =>
    intro v hv
    simp only [bdL]
    rcases List.mem_cons.1 hv with rfl | hv
    · omega
    · have := ih hv; omega
def cellsAt (W : World) (b : Nat) : Option (List Value) := match W.heap[b]? with | some (.cells c _ _) => some c.toList | _ => none
noncomputable def wh (nm : Nat → Nat) (W : World) : Nat → Hp
  | 0 => .lf
  | k + 1 => match cellsAt W k with | some c => Tr.put (wh nm W k) (nm k) (some (.ro (c.map (up nm)))) | none => wh nm W k
theorem wh_at {nm : Nat → Nat} (hi : ∀ a b, nm a = nm b → a = b) (W : World) : ∀ k x y, (wh nm W k).at x = some y ↔ ∃ b, b < k ∧ x = nm b ∧ ∃ c, cellsAt W b = some c ∧ y = .ro (c.map (up nm)) := by
  intro k
  induction k with
  | zero =>
    intro x y
    constructor
    · intro h; cases h
    · rintro ⟨b, hb, _⟩; omega
  | succ k ih =>
    intro x y
    unfold wh
    cases hc : cellsAt W k with
    | none =>
      simp only
      rw [ih]
      constructor
      · rintro ⟨b, hb, h⟩; exact ⟨b, by omega, h⟩
      · rintro ⟨b, hb, rfl, c, h1, h2⟩
        have : b ≠ k := fun e => by rw [e, hc] at h1; cases h1
        exact ⟨b, by omega, rfl, c, h1, h2⟩
    | some c =>
      simp only
      show Tr.get none (Tr.put (wh nm W k) (nm k) _) x = some y ↔ _
      rw [Tr.get_put none rfl]
      by_cases hx : x = nm k
      · rw [if_pos hx]
        constructor
        · intro h; injection h with h; exact ⟨k, by omega, hx, c, hc, h.symm⟩
        · rintro ⟨b, hb, e, c', h1, h2⟩
          have hbk : b = k := hi _ _ (e.symm.trans hx)
          rw [hbk, hc] at h1
          injection h1 with h1
          rw [h2, h1]
      · rw [if_neg hx]
        show (wh nm W k).at x = some y ↔ _
        rw [ih]
        constructor
        · rintro ⟨b, hb, h⟩; exact ⟨b, by omega, h⟩
        · rintro ⟨b, hb, e, h⟩
          have : b ≠ k := fun ee => hx (by rw [e, ee])
          exact ⟨b, by omega, e, h⟩
def nm (b : Nat) : Nat := if b = 0 ∨ b = 3 ∨ b = 4 then 3 * b else 3 * b + 2
theorem nm_inj (a b : Nat) (h : nm a = nm b) : a = b := by
  unfold nm at h
  split at h <;> split at h <;> omega
def ren0 : Ren := ⟨fun x => x / 3, fun _ => 0, fun _ _ => rfl, fun g => by simp⟩
theorem ren0_nm (b : Nat) : ren0.b (nm b) = b := by
  unfold nm ren0
  split <;> simp <;> omega
theorem nm_lt {b n : Nat} (h : b < n) : nm b < 3 * n := by
  unfold nm
  split <;> omega
noncomputable def wH (W : World) : Hp := wh nm W W.heap.size
theorem wH_sim (W : World) : Sim rel ren0 (wH W) W := by
  refine ⟨fun x y h => ?_, fun x x' h h' e => ?_⟩
  · obtain ⟨b, hb, rfl, c, hc, rfl⟩ := (wh_at nm_inj W _ _ _).1 h
    unfold cellsAt at hc
    split at hc
    · rename_i c' e fz hW
      injection hc with hc
      subst hc
      refine ⟨_, by rw [ren0_nm]; exact hW, e, fz, ?_⟩
      rw [List.map_map]
      have : (c'.toList.map (conc ren0 ∘ up nm)) = c'.toList := by
        conv => rhs; rw [← List.map_id c'.toList]
        exact List.map_congr_left fun v _ => conc_up ren0_nm (fun _ => rfl) v
      rw [this]
    · cases hc
  · obtain ⟨y, hy⟩ := Option.isSome_iff_exists.1 h
    obtain ⟨y', hy'⟩ := Option.isSome_iff_exists.1 h'
    obtain ⟨b, _, rfl, _⟩ := (wh_at nm_inj W _ _ _).1 hy
    obtain ⟨b', _, rfl, _⟩ := (wh_at nm_inj W _ _ _).1 hy'
    rw [ren0_nm, ren0_nm] at e
    rw [e]
structure Wn (W : World) (n : Nat) : Prop where
  sz : W.heap.size ≤ n
  le : ∀ (b : Nat) (c : Array Value) (e : TypeId) (fz : Nat × Nat), W.heap[b]? = some (Obj.cells c e fz) → ∀ v ∈ c.toList, bd (up nm v) ≤ 3 * n
theorem wH_nb (W : World) (args : List Value) : ∃ n, 20 ≤ n ∧ Wn W n ∧ HNb (3 * n) (wH W) ∧ ∀ v ∈ args, bd v ≤ 3 * n := by
  have key : ∀ k, ∃ m, ∀ b, b < k → ∀ c, cellsAt W b = some c → bdL (c.map (up nm)) ≤ m := by
    intro k
    induction k with
    | zero => exact ⟨0, fun b hb => by omega⟩
    | succ k ih =>
      obtain ⟨m, hm⟩ := ih
      cases hc : cellsAt W k with
      | none => exact ⟨m, fun b hb c h => hm b (by have : b ≠ k := fun e => by rw [e, hc] at h; cases h
                                                   omega) c h⟩
      | some c' =>
        refine ⟨m + bdL (c'.map (up nm)), fun b hb c h => ?_⟩
        by_cases hbk : b = k
        · rw [hbk, hc] at h; injection h with h; subst h; omega
        · have := hm b (by omega) c h; omega
  obtain ⟨m, hm⟩ := key W.heap.size
  refine ⟨20 + W.heap.size + m + bdL args, by omega, ⟨by omega, fun b c e fz hW v hvm => ?_⟩, fun x y h => ?_, fun v hv => by have := bd_mem hv; omega⟩
  · have hb : b < W.heap.size := by
      rcases Nat.lt_or_ge b W.heap.size with h' | h'
      · exact h'
      · rw [Array.getElem?_eq_none h'] at hW; cases hW
    have h1 := hm b hb c.toList (by unfold cellsAt; rw [hW])
    have h2 := bd_mem (List.mem_map_of_mem (f := up nm) hvm)
    omega
  obtain ⟨b, hb, rfl, c, hc, rfl⟩ := (wh_at nm_inj W _ _ _).1 h
  exact ⟨nm_lt (by omega), fun v hv => nb_bd v _ (by have := bd_mem hv; have := hm b hb c hc; omega)⟩
theorem wH_block {W : World} {b : Nat} {c : Array Value} {e : TypeId} {fz : Nat × Nat} (h : W.heap[b]? = some (.cells c e fz)) : hv (wH W) (nm b) = some (.ro (c.toList.map (up nm))) := by
  have hb : b < W.heap.size := by
    rcases Nat.lt_or_ge b W.heap.size with h' | h'
    · exact h'
    · rw [Array.getElem?_eq_none h'] at h; cases h
  exact hv_at ((wh_at nm_inj W _ _ _).2 ⟨b, hb, rfl, _, by unfold cellsAt; rw [h], rfl⟩)
theorem calls_true {W : World} (f : FuncId) (args : List Value) (k : Nat) (hrun : ∀ n, 20 ≤ n → Wn W n → (∀ v ∈ args.map (up nm), bd v ≤ 3 * n) → VF (cal k) f (args.map (up nm)) (hv (wH W)) n fun v => v = .bool true) :
    Calls Tryz.prog f args.toArray W fun e w' => e = .returned (.bool true) ∧ RowKit.Below W.heap.size W w' := by
  obtain ⟨n, hn, hs, hnb, hbd⟩ := wH_nb W (args.map (up nm))
  have ha : ∀ v ∈ args.map (up nm), Nb (3 * n) v := fun v hv => nb_bd v _ (hbd v hv)
  obtain ⟨v, h', n', w, hc, e1, e2, e3, e4⟩ := hrun n hn hs hbd
  rw [e1, e2, e3, e4] at hc
  obtain ⟨⟨v2, h2, n2, w2⟩, hx, hy⟩ := (cal_sim k).call f (args.map (up nm)) (wH W) n _ hc
  obtain ⟨e1, e2, e3, e4⟩ : v2 = .bool true ∧ hv h2 = hv (wH W) ∧ n2 = n ∧ w2 = [] := by
    simpa [rv] using hy
  subst e1 e3 e4
  obtain ⟨_, hcall⟩ := (cal_ok k).call _ _ _ _ _ _ _ _ hx 0 ren0 W (wH_sim W) hnb ha
  have hargs : ((args.map (up nm)).map (conc ren0)) = args := by
    rw [List.map_map]
    conv => rhs; rw [← List.map_id args]
    exact List.map_congr_left fun v _ => conc_up ren0_nm (fun _ => rfl) v
  rw [hargs] at hcall
  refine (callsIn_wide.1 hcall).mono fun e w' ⟨ρ', he, hp⟩ => ⟨by rw [he]; simp, ?_⟩
  exact ⟨hp.os, hp.tape, hp.out, hp.size, fun j hj => hp.fr j hj fun b hb => absurd hb List.not_mem_nil⟩
end Go.Proofs.YtokfihhdllmbmaaGreatDoor
namespace Go.Proofs.YtokfihhdllmbmaaGreatDoor
open Go Go.GL Go.ChangeShapes Go.WideShapes Go.RowKit
set_option maxRecDepth 100000
theorem int_of_trod {H : Type} {enc : TypeId × Value → H} {P : Program} {w : World} {base : Nat} {sp : Nat → Bool} {held : Bool} {fuel : Nat} {t : TypeId} {k : IntKind} {c : Value} {y : DataW H × List MemPlace}
    (ht : P.underlying t = some (.int k)) (h : DataW.trod enc P w base sp held fuel t [c] = some y) : ∃ n, c = .int k n ∧ y = (.lit (.int k n), []) := by
  cases fuel with
  | zero => simp [DataW.trod] at h
  | succ fuel =>
    cases c <;> simp [DataW.trod, ht] at h
    rename_i k' n
    obtain ⟨⟨rfl, _⟩, rfl⟩ := h
    exact ⟨n, rfl, rfl⟩
theorem array_of_trod {H : Type} {enc : TypeId × Value → H} {P : Program} {w : World} {base : Nat} {sp : Nat → Bool} {held : Bool} {fuel n : Nat} {t e : TypeId} {k : IntKind} {cs : List Value} {l : List Int} {p : List MemPlace}
    (ht : P.underlying t = some (.array n e)) (he : P.underlying e = some (.int k)) (hce : P.cellsOf e = 1) (hct : P.cellsOf t = n)
    (h : DataW.trod enc P w base sp held fuel t cs = some (.agg (l.map fun z => .lit (.int k z)), p)) : cs = l.map fun z => Value.int k z := by
  cases fuel with
  | zero => simp [DataW.trod] at h
  | succ fuel =>
    simp only [DataW.trod, ht] at h
    split at h
    · rename_i hl
      rw [hct] at hl
      rw [Option.map_eq_some_iff] at h
      obtain ⟨xs, hx, hy⟩ := h
      simp only [Prod.mk.injEq, DataW.agg.injEq] at hy
      obtain ⟨hy, _⟩ := hy
      have hlen := mapM_some_length hx
      rw [List.length_range] at hlen
      have hll : l.length = n := by
        have := congrArg List.length hy
        simp at this
        omega
      apply List.ext_getElem?
      intro i
      by_cases hi : i < n
      · have hg := mapM_some_get hx i i (by simp [hi])
        obtain ⟨y, hxi⟩ : ∃ y, xs[i]? = some y := ⟨xs[i]'(by omega), List.getElem?_eq_getElem (by omega)⟩
        rw [hxi, hce, Nat.mul_one] at hg
        have hd : (cs.drop i).take 1 = [cs[i]'(by omega)] := by
          rw [List.drop_eq_getElem_cons (by omega)]
          rfl
        rw [hd] at hg
        obtain ⟨z, hz, rfl⟩ := int_of_trod he hg
        have h2 := congrArg (fun q => q[i]?) hy
        simp only [List.getElem?_map, hxi, Option.map_some] at h2
        obtain ⟨z', hz'⟩ : ∃ z', l[i]? = some z' := ⟨l[i]'(by omega), List.getElem?_eq_getElem (by omega)⟩
        rw [hz'] at h2
        simp only [Option.map_some, Option.some.injEq, DataW.lit.injEq, Lit.int.injEq, true_and] at h2
        rw [List.getElem?_eq_getElem (by omega), hz, List.getElem?_map, hz', h2]
        rfl
      · rw [List.getElem?_eq_none (by omega), List.getElem?_eq_none (by simp; omega)]
    · cases h
theorem var_block {P : Program} {W : World} {nme : String} {g : Nat} {cs : Array Value} (hg : P.globalNamed nme = some g) (hv : W.var? P nme = some cs) : ∃ e fz, W.heap[g]? = some (.cells cs e fz) := by
  unfold World.var? at hv
  rw [hg] at hv
  simp only [Option.bind_some] at hv
  split at hv
  · rename_i cs' e fz h
    injection hv with hv
    subst hv
    exact ⟨e, fz, h⟩
  · cases hv
theorem up_u (nm : Nat → Nat) (k : IntKind) (l : List Int) : (GK.u k l).map (up nm) = GK.u k l := by
  unfold GK.u
  rw [List.map_map]
  exact List.map_congr_left fun z _ => rfl
def laid3 : List (String × DataW Unit) := Rows.sdpValidRow.laid
def laidName (i : Nat) : String := match laid3[i]? with | some x => x.1 | none => ""
theorem g32 : Tryz.prog.globalNamed (laidName 0) = some 4 := by kernel_rfl
theorem g64 : Tryz.prog.globalNamed (laidName 1) = some 0 := by kernel_rfl
theorem g10 : Tryz.prog.globalNamed (laidName 2) = some 3 := by kernel_rfl
def isTab (t : TypeId) (n : Nat) (k : IntKind) : Prop := ∃ e, Tryz.prog.underlying t = some (.array n e) ∧ Tryz.prog.underlying e = some (.int k) ∧ Tryz.prog.cellsOf e = 1 ∧ Tryz.prog.cellsOf t = n
theorem tab_block {W : World} {nme : String} {g t n fuel : Nat} {k : IntKind} {l : List Int} {cs : Array Value} {p : List MemPlace} (hg : Tryz.prog.globalNamed nme = some g) (hvar : W.var? Tryz.prog nme = some cs) (hT : isTab t n k)
    (hd : DataW.trod (fun _ => ()) Tryz.prog W 0 (fun _ => true) false fuel t cs.toList = some (.agg (l.map fun z => .lit (.int k z)), p)) : hv (wH W) (nm g) = some (.ro (GK.u k l)) := by
  obtain ⟨e, h1, h2, h3, h4⟩ := hT
  have hc := array_of_trod h1 h2 h3 h4 hd
  obtain ⟨e', fz, hb⟩ := var_block hg hvar
  have := wH_block hb
  rw [this, hc]
  show some (BF.ro ((GK.u k l).map (up nm))) = _
  rw [up_u]
theorem ty32 : (Tryz.prog.globals[4]?).map (·.type) = some 350 := by kernel_rfl
theorem ty64 : (Tryz.prog.globals[0]?).map (·.type) = some 329 := by kernel_rfl
theorem ty10 : (Tryz.prog.globals[3]?).map (·.type) = some 333 := by kernel_rfl
theorem tab32 : isTab 350 32 .u8 := ⟨5, by kernel_rfl, by kernel_rfl, by kernel_rfl, by kernel_rfl⟩
theorem tab64 : isTab 329 64 .u8 := ⟨5, by kernel_rfl, by kernel_rfl, by kernel_rfl, by kernel_rfl⟩
theorem tab10 : isTab 333 20 .u64 := ⟨222, by kernel_rfl, by kernel_rfl, by kernel_rfl, by kernel_rfl⟩
theorem G_of_laid {W : World} (h : laidMet Tryz.prog laid3 W) : GK.G (hv (wH W)) := by
  obtain ⟨ps, hL, _, _⟩ := h
  obtain ⟨g1, t1, cs1, fu1, p1, q1, e1, u1, v1, d1, hL, _⟩ := hL
  obtain ⟨g2, t2, cs2, fu2, p2, q2, e2, u2, v2, d2, hL, _⟩ := hL
  obtain ⟨g3, t3, cs3, fu3, p3, q3, e3, u3, v3, d3, _, _⟩ := hL
  obtain rfl := Option.some.inj (g32.symm.trans e1)
  obtain rfl := Option.some.inj (g64.symm.trans e2)
  obtain rfl := Option.some.inj (g10.symm.trans e3)
  obtain rfl := Option.some.inj (ty32.symm.trans u1)
  obtain rfl := Option.some.inj (ty64.symm.trans u2)
  obtain rfl := Option.some.inj (ty10.symm.trans u3)
  exact ⟨tab_block e2 v2 tab64 d2, tab_block e3 v3 tab10 d3, tab_block e1 v1 tab32 d1⟩
end Go.Proofs.YtokfihhdllmbmaaGreatDoor
namespace Go.Proofs.YtokfihhdllmbmaaGreatDoor
open Go Go.GL Go.ChangeShapes Go.WideShapes Go.RowKit
set_option maxRecDepth 100000
mutual
theorem bulk_pos {H : Type} : ∀ d : DataW H, 1 ≤ Rows.uptoBulk d
  | .lit (.string b) => by simp [Rows.uptoBulk]
  | .lit (.bool b) => by simp [Rows.uptoBulk]
  | .lit (.int k b) => by simp [Rows.uptoBulk]
  | .lit (.float k b) => by simp [Rows.uptoBulk]
  | .lit .nil => by simp [Rows.uptoBulk]
  | .nil => by simp [Rows.uptoBulk]
  | .ptr d => by simp [Rows.uptoBulk]
  | .slice _ _ => by simp [Rows.uptoBulk]
  | .agg _ => by simp [Rows.uptoBulk]
  | .iface _ d => by simp [Rows.uptoBulk]
  | .map _ => by simp [Rows.uptoBulk]
  | .held _ => by simp [Rows.uptoBulk]
end
theorem bulkAll_len {H : Type} : ∀ l : List (DataW H), l.length ≤ Rows.uptoBulkAll l := by
  intro l
  induction l with
  | nil => simp
  | cons d l ih => have := bulk_pos d; simp only [List.length_cons, Rows.uptoBulkAll]; omega
theorem bulkAll_mem {H : Type} {d : DataW H} : ∀ {l : List (DataW H)}, d ∈ l → Rows.uptoBulk d ≤ Rows.uptoBulkAll l := by
  intro l
  induction l with
  | nil => intro h; cases h
  | cons e l ih =>
    intro h
    simp only [Rows.uptoBulkAll]
    rcases List.mem_cons.1 h with rfl | h
    · omega
    · have := ih h; omega
theorem bd_slice {n : Nat} {a : Addr} {l c : Nat} (h : bd (up nm (.slice (some a) l c)) ≤ 3 * n) : nm a.block < 3 * n := by
  simp only [up, bd] at h
  omega
theorem add_block (a : Addr) (i : Nat) : (a.add i).block = a.block := by unfold Addr.add; split <;> rfl
theorem add_off (a : Addr) (i : Nat) : (a.add i).off = a.off + i := by unfold Addr.add; split <;> simp_all
theorem add_spot0 (a : Addr) : a.add 0 = a := by unfold Addr.add; simp
section
variable {H : Type} {enc : TypeId × Value → H} {W : World} {held : Bool}
theorem slice_read {n sz fuel : Nat} {t e : TypeId} {v : Value} {d : DataW H} {p : List MemPlace} (hW : Wn W n) (ht : Tryz.prog.underlying t = some (.slice e)) (hsz : Tryz.prog.cellsOf e = sz) (h0 : 0 < sz) (h : DataW.trod enc Tryz.prog W 0 (fun _ => true) held fuel t [v] = some (d, p)) (hb : bd (up nm v) ≤ 3 * n) :
    ∃ (a : Option Addr) (l c : Nat) (cells : List Value), v = .slice a l c ∧ Sl (hv (wH W)) n sz (up nm v) (cells.map (up nm)) ∧ cells.length = l * sz ∧ l ≤ Rows.uptoBulk d ∧ (∀ x ∈ cells, bd (up nm x) ≤ 3 * n) ∧
      ∀ i, i < l → ∃ fu D q, DataW.trod enc Tryz.prog W 0 (fun _ => true) held fu e ((cells.drop (i * sz)).take sz) = some (D, q) ∧ Rows.uptoBulk D ≤ Rows.uptoBulk d := by
  rcases Go.Deep.open_slice ht h with ⟨hv, hd⟩ | ⟨a, len, cap, m, fu, D, Pl, hv, _, hle, _, hm, hx, hel⟩
  · injection hv with hv
    injection hd with hd
    subst hv hd
    exact ⟨none, 0, 0, [], rfl, .nil (.inl rfl), by simp, Nat.zero_le _, (fun x hx => by cases hx), fun i hi => absurd hi (Nat.not_lt_zero i)⟩
  injection hv with hv
  injection hx with hx _
  subst hv hx
  have hm' : m = cap := by rw [hm]; rfl
  subst hm'
  rw [hsz] at hel
  have hbl : nm a.block < 3 * n := bd_slice hb
  have hlb : len ≤ Rows.uptoBulk (DataW.slice ((List.range len).map D) ((List.range (m - len)).map fun j => D (len + j))) := by
    have := bulkAll_len ((List.range len).map D)
    rw [List.length_map, List.length_range] at this
    simp only [Rows.uptoBulk]
    omega
  have hmem : ∀ i, i < len → Rows.uptoBulk (D i) ≤ Rows.uptoBulk (DataW.slice ((List.range len).map D) ((List.range (m - len)).map fun j => D (len + j))) := fun i hi => by
    have := bulkAll_mem (d := D i) (l := (List.range len).map D) (List.mem_map_of_mem (List.mem_range.2 hi))
    simp only [Rows.uptoBulk]
    omega
  by_cases hc0 : m = 0
  · have hl0 : len = 0 := by omega
    subst hl0
    refine ⟨some a, 0, m, [], rfl, .nil (.inr ⟨_, _, _, rfl, hbl⟩), by simp, Nat.zero_le _, (fun x hx => by cases hx), fun i hi => absurd hi (Nat.not_lt_zero i)⟩
  have hcell : ∀ i, i < m → ∃ cs, DataW.trod enc Tryz.prog W 0 (fun _ => true) held fu e cs = some (D i, Pl i) ∧ cs.length = sz ∧ ∀ j, j < sz → W.cell? ((a.add (i * sz)).add j) = cs[j]? := fun i hi => by
    obtain ⟨cs, h1, h2⟩ := hel i hi
    obtain ⟨_, h3, h4⟩ := World.cells?_some h1
    exact ⟨cs, h2, h3, h4⟩
  have hblk : a.spot = none ∧ ∃ c e' fz, W.heap[a.block]? = some (.cells c e' fz) := by
    obtain ⟨cs, _, h2, h1⟩ := hcell 0 (by omega)
    have h1 := h1 0 h0
    rw [Nat.zero_mul, add_spot0, add_spot0, List.getElem?_eq_getElem (by omega)] at h1
    unfold World.cell? at h1
    split at h1
    · split at h1
      · cases h1
      · rename_i hs
        exact ⟨by simpa using hs, _, _, _, by assumption⟩
    · cases h1
  obtain ⟨hspot, c, e', fz, hbk⟩ := hblk
  obtain ⟨b, off, sp⟩ := a
  simp only at hspot hbk hbl
  subst hspot
  have hget : ∀ i, i < m → ∃ cs, DataW.trod enc Tryz.prog W 0 (fun _ => true) held fu e cs = some (D i, Pl i) ∧ cs.length = sz ∧ ∀ j, j < sz → c[off + i * sz + j]? = cs[j]? := fun i hi => by
    obtain ⟨cs, h2, h4, h3⟩ := hcell i hi
    refine ⟨cs, h2, h4, fun j hj => ?_⟩
    rw [← h3 j hj]
    have e1 : ((Addr.add ⟨b, off, none⟩ (i * sz)).add j).block = b := by rw [add_block, add_block]
    have e2 : ((Addr.add ⟨b, off, none⟩ (i * sz)).add j).off = off + i * sz + j := by rw [add_off, add_off]
    have e3 : ((Addr.add ⟨b, off, none⟩ (i * sz)).add j).spot = none := by
      unfold Addr.add
      split
      · split <;> rfl
      · rfl
    unfold World.cell?
    rw [e1, hbk]
    simp only [e2, e3]
    rfl
  have hsz' : off + m * sz ≤ c.size := by
    obtain ⟨cs, _, h3, h2⟩ := hget (m - 1) (by omega)
    have h2 := h2 (sz - 1) (by omega)
    rw [List.getElem?_eq_getElem (by omega)] at h2
    rcases Nat.lt_or_ge (off + (m - 1) * sz + (sz - 1)) c.size with h' | h'
    · have : (m - 1) * sz + sz = m * sz := by rw [← Nat.succ_mul]; congr 1; omega
      omega
    · rw [Array.getElem?_eq_none h'] at h2; cases h2
  have hlm : len * sz ≤ m * sz := Nat.mul_le_mul_right _ hle
  have hcl : ((c.toList.drop off).take (len * sz)).length = len * sz := by
    rw [List.length_take, List.length_drop, Array.length_toList]; omega
  refine ⟨some ⟨b, off, none⟩, len, m, (c.toList.drop off).take (len * sz), rfl, .at_ hbl (wH_block hbk) rfl hle (by show off + len * sz ≤ (c.toList.map (up nm)).length; simp; omega) (by rw [List.map_take, List.map_drop]), hcl, hlb, fun x hx => hW.le b c e' fz hbk x (List.mem_of_mem_drop (List.mem_of_mem_take hx)), fun i hi => ?_⟩
  obtain ⟨cs, h1, h3, h4⟩ := hget i (by omega)
  have hcs : (((c.toList.drop off).take (len * sz)).drop (i * sz)).take sz = cs := by
    have hil : i * sz + sz ≤ len * sz := by rw [← Nat.succ_mul]; exact Nat.mul_le_mul_right _ hi
    apply List.ext_getElem?
    intro j
    by_cases hj : j < sz
    · rw [List.getElem?_take_of_lt hj, List.getElem?_drop, List.getElem?_take_of_lt (by omega), List.getElem?_drop, Array.getElem?_toList, ← h4 j hj, Nat.add_assoc]
    · rw [List.getElem?_eq_none (by rw [List.length_take, List.length_drop, hcl]; omega), List.getElem?_eq_none (by omega)]
  exact ⟨fu, D i, Pl i, by rw [hcs]; exact h1, hmem i hi⟩
theorem chunks {α : Type} {sz : Nat} {g : α → List Value} {Q : α → Prop} : ∀ {l : Nat} {cells : List Value}, cells.length = l * sz → (∀ i, i < l → ∃ x, (cells.drop (i * sz)).take sz = g x ∧ Q x) → ∃ xs : List α, xs.length = l ∧ cells = xs.flatMap g ∧ ∀ x ∈ xs, Q x := by
  intro l
  induction l with
  | zero => intro cells hl _; exact ⟨[], rfl, List.length_eq_zero_iff.1 (by rw [hl, Nat.zero_mul]), fun x hx => by cases hx⟩
  | succ l ih =>
    intro cells hl h
    obtain ⟨x, hx, hq⟩ := h 0 (by omega)
    rw [Nat.zero_mul, List.drop_zero] at hx
    obtain ⟨xs, h1, h2, h3⟩ := ih (cells := cells.drop sz) (by rw [List.length_drop, hl, Nat.succ_mul]; omega) (fun i hi => by
      obtain ⟨y, hy, hq⟩ := h (i + 1) (by omega)
      exact ⟨y, by rw [List.drop_drop, ← hy, Nat.succ_mul, Nat.add_comm], hq⟩)
    refine ⟨x :: xs, by rw [List.length_cons, h1], ?_, fun y hy => ?_⟩
    · rw [List.flatMap_cons, ← hx, ← h2, List.take_append_drop]
    · rcases List.mem_cons.1 hy with rfl | hy
      · exact hq
      · exact h3 y hy
theorem str_read {fuel : Nat} {t : TypeId} {c : Value} {y : DataW H × List MemPlace} (ht : Tryz.prog.underlying t = some .string) (h : DataW.trod enc Tryz.prog W 0 (fun _ => true) held fuel t [c] = some y) : ∃ s : List UInt8, c = .string ⟨⟨s⟩⟩ := by
  cases fuel with
  | zero => simp [DataW.trod] at h
  | succ fuel =>
    cases c <;> simp [DataW.trod, ht] at h
    rename_i s
    exact ⟨s.data.toList, rfl⟩
theorem one_cell {cells : List Value} {l i : Nat} (hl : cells.length = l * 1) (hi : i < l) : ∃ v, (cells.drop (i * 1)).take 1 = [v] := by
  rw [Nat.mul_one] at hl ⊢
  exact ⟨cells[i]'(by omega), by rw [List.drop_eq_getElem_cons (by omega)]; rfl⟩
theorem ints_read {n fuel : Nat} {t e : TypeId} {v : Value} {d : DataW H} {p : List MemPlace} (hW : Wn W n) (ht : Tryz.prog.underlying t = some (.slice e)) (he : Tryz.prog.underlying e = some (.int .i64)) (hsz : Tryz.prog.cellsOf e = 1) (h : DataW.trod enc Tryz.prog W 0 (fun _ => true) held fuel t [v] = some (d, p)) (hb : bd (up nm v) ≤ 3 * n) :
    ∃ L : List Int, Sl (hv (wH W)) n 1 (up nm v) (i64s L) ∧ L.length ≤ Rows.uptoBulk d := by
  obtain ⟨a, l, c, cells, rfl, h1, h2, h3, _, h5⟩ := slice_read hW ht hsz (by decide) h hb
  obtain ⟨L, h6, h7, h9⟩ := chunks (g := fun z : Int => [Value.int .i64 z]) (Q := fun _ => True) h2 (fun i hi => by
    obtain ⟨v, hv⟩ := one_cell h2 hi
    obtain ⟨fu, D, q, h8, _⟩ := h5 i hi
    rw [hv] at h8 ⊢
    obtain ⟨z, rfl, _⟩ := int_of_trod he h8
    exact ⟨z, rfl, trivial⟩)
  refine ⟨L, ?_, by omega⟩
  have : cells.map (up nm) = i64s L := by
    rw [h7]
    clear h9 h7 h6
    induction L with
    | nil => rfl
    | cons z L ih => rw [List.flatMap_cons, List.map_append, ih]; rfl
  rw [← this]; exact h1
theorem strs_read {n fuel : Nat} {t e : TypeId} {v : Value} {d : DataW H} {p : List MemPlace} (hW : Wn W n) (ht : Tryz.prog.underlying t = some (.slice e)) (he : Tryz.prog.underlying e = some .string) (hsz : Tryz.prog.cellsOf e = 1) (h : DataW.trod enc Tryz.prog W 0 (fun _ => true) held fuel t [v] = some (d, p)) (hb : bd (up nm v) ≤ 3 * n) :
    ∃ S : List (List UInt8), Sl (hv (wH W)) n 1 (up nm v) (strs S) ∧ S.length ≤ Rows.uptoBulk d := by
  obtain ⟨a, l, c, cells, rfl, h1, h2, h3, _, h5⟩ := slice_read hW ht hsz (by decide) h hb
  obtain ⟨L, h6, h7, h9⟩ := chunks (g := fun s : List UInt8 => [Value.string ⟨⟨s⟩⟩]) (Q := fun _ => True) h2 (fun i hi => by
    obtain ⟨v, hv⟩ := one_cell h2 hi
    obtain ⟨fu, D, q, h8, _⟩ := h5 i hi
    rw [hv] at h8 ⊢
    obtain ⟨z, rfl⟩ := str_read he h8
    exact ⟨z, rfl, trivial⟩)
  refine ⟨L, ?_, by omega⟩
  have : cells.map (up nm) = strs L := by
    rw [h7]
    clear h9 h7 h6
    induction L with
    | nil => rfl
    | cons z L ih => rw [List.flatMap_cons, List.map_append, ih]; rfl
  rw [← this]; exact h1
noncomputable def parts (t : TypeId) : Option (List (TypeId × Nat)) := match Tryz.prog.underlying t with | some (.struct fs) => some (fs.toList.map fun f => (f.type, f.offset)) | _ => none
theorem struct_read {fuel : Nat} {t : TypeId} {L : List (TypeId × Nat)} {cs : List Value} {d : DataW H} {p : List MemPlace} (hp : parts t = some L) (h : DataW.trod enc Tryz.prog W 0 (fun _ => true) held fuel t cs = some (d, p)) :
    cs.length = Tryz.prog.cellsOf t ∧ ∃ fu xs, d = .agg xs ∧ ∀ (i : Nat) (f : TypeId × Nat), L[i]? = some f → ∃ D q, DataW.trod enc Tryz.prog W 0 (fun _ => true) held fu f.1 ((cs.drop f.2).take (Tryz.prog.cellsOf f.1)) = some (D, q) ∧ D ∈ xs := by
  cases fuel with
  | zero => simp [DataW.trod] at h
  | succ fuel =>
    unfold parts at hp
    split at hp
    · rename_i fs hfs
      injection hp with hp
      simp only [DataW.trod, hfs] at h
      split at h
      · rename_i hl
        refine ⟨hl, ?_⟩
        rw [Option.map_eq_some_iff] at h
        obtain ⟨xs, hx, hy⟩ := h
        injection hy with hy _
        refine ⟨fuel, xs.map (·.1), hy.symm, fun i f hf => ?_⟩
        subst hp
        rw [List.getElem?_map, Option.map_eq_some_iff] at hf
        obtain ⟨g, hg, rfl⟩ := hf
        have hlen := mapM_some_length hx
        have hi : i < fs.toList.length := by
          rcases Nat.lt_or_ge i fs.toList.length with h' | h'
          · exact h'
          · rw [List.getElem?_eq_none h'] at hg; cases hg
        have h2 := mapM_some_get hx i g hg
        obtain ⟨y, hxi⟩ : ∃ y, xs[i]? = some y := ⟨xs[i]'(by omega), List.getElem?_eq_getElem (by omega)⟩
        rw [hxi] at h2
        exact ⟨y.1, y.2, h2, List.mem_map_of_mem (List.mem_of_getElem? hxi)⟩
      · cases h
    · cases hp
theorem agg_mem {xs : List (DataW H)} {D : DataW H} (h : D ∈ xs) : Rows.uptoBulk D ≤ Rows.uptoBulk (.agg xs) := by
  have := bulkAll_mem h
  simp only [Rows.uptoBulk]
  omega
end
end Go.Proofs.YtokfihhdllmbmaaGreatDoor
namespace Go.Proofs.YtokfihhdllmbmaaGreatDoor
open Go Go.GL Go.ChangeShapes Go.WideShapes Go.RowKit
set_option maxRecDepth 100000
theorem list4 {α : Type} {l : List α} (h : l.length = 4) : ∃ a b c d, l = [a, b, c, d] := by
  match l, h with
  | [a, b, c, d], _ => exact ⟨a, b, c, d, rfl⟩
theorem list3 {α : Type} {l : List α} (h : l.length = 3) : ∃ a b c, l = [a, b, c] := by
  match l, h with
  | [a, b, c], _ => exact ⟨a, b, c, rfl⟩
theorem list5 {α : Type} {l : List α} (h : l.length = 5) : ∃ a b c d e, l = [a, b, c, d, e] := by
  match l, h with
  | [a, b, c, d, e], _ => exact ⟨a, b, c, d, e, rfl⟩
theorem u_int : Tryz.prog.underlying 3 = some (.int .i64) := by kernel_rfl
theorem u_str : Tryz.prog.underlying 9 = some .string := by kernel_rfl
theorem u_ints : Tryz.prog.underlying 22 = some (.slice 3) := by kernel_rfl
theorem u_strs : Tryz.prog.underlying 24 = some (.slice 9) := by kernel_rfl
theorem u_ents : Tryz.prog.underlying 23 = some (.slice 37) := by kernel_rfl
theorem u_eqs : Tryz.prog.underlying 25 = some (.slice 35) := by kernel_rfl
theorem c_int : Tryz.prog.cellsOf 3 = 1 := by kernel_rfl
theorem c_str : Tryz.prog.cellsOf 9 = 1 := by kernel_rfl
theorem c_ints : Tryz.prog.cellsOf 22 = 1 := by kernel_rfl
theorem c_strs : Tryz.prog.cellsOf 24 = 1 := by kernel_rfl
theorem c_entl : Tryz.prog.cellsOf 23 = 1 := by kernel_rfl
theorem c_eql : Tryz.prog.cellsOf 25 = 1 := by kernel_rfl
theorem c_ent : Tryz.prog.cellsOf 37 = 4 := by kernel_rfl
theorem c_eqn : Tryz.prog.cellsOf 35 = 3 := by kernel_rfl
theorem c_sdp : Tryz.prog.cellsOf 27 = 5 := by kernel_rfl
theorem p_ent : parts 37 = some [(3, 0), (3, 1), (3, 2), (9, 3)] := by kernel_rfl
theorem p_eqn : parts 35 = some [(23, 0), (24, 1), (9, 2)] := by kernel_rfl
theorem p_sdp : parts 27 = some [(22, 0), (3, 1), (23, 2), (24, 3), (25, 4)] := by kernel_rfl
section
variable {H : Type} {enc : TypeId × Value → H} {W : World} {held : Bool}
theorem ents_read {n fuel : Nat} {v : Value} {d : DataW H} {p : List MemPlace} (hW : Wn W n) (h : DataW.trod enc Tryz.prog W 0 (fun _ => true) held fuel 23 [v] = some (d, p)) (hb : bd (up nm v) ≤ 3 * n) :
    ∃ E : List Ent, Sl (hv (wH W)) n 4 (up nm v) (ents E) ∧ E.length ≤ Rows.uptoBulk d := by
  obtain ⟨a, l, c, cells, rfl, h1, h2, h3, _, h5⟩ := slice_read hW u_ents c_ent (by decide) h hb
  obtain ⟨L, h6, h7, h9⟩ := chunks (g := entC) (Q := fun _ => True) h2 (fun i hi => by
    obtain ⟨fu, D, q, h8, _⟩ := h5 i hi
    generalize (cells.drop (i * 4)).take 4 = cs at h8 ⊢
    obtain ⟨hl, fu', xs, _, hx⟩ := struct_read p_ent h8
    rw [c_ent] at hl
    obtain ⟨c0, c1, c2, c3, rfl⟩ := list4 hl
    obtain ⟨_, _, g0, _⟩ := hx 0 _ rfl
    obtain ⟨_, _, g1, _⟩ := hx 1 _ rfl
    obtain ⟨_, _, g2, _⟩ := hx 2 _ rfl
    obtain ⟨_, _, g3, _⟩ := hx 3 _ rfl
    simp only [c_int, c_str] at g0 g1 g2 g3
    obtain ⟨b, rfl, _⟩ := int_of_trod u_int g0
    obtain ⟨r, rfl, _⟩ := int_of_trod u_int g1
    obtain ⟨k, rfl, _⟩ := int_of_trod u_int g2
    obtain ⟨s, rfl⟩ := str_read u_str g3
    exact ⟨⟨b, r, k, s⟩, rfl, trivial⟩)
  refine ⟨L, ?_, by omega⟩
  have : cells.map (up nm) = ents L := by
    rw [h7]
    clear h9 h7 h6
    induction L with
    | nil => rfl
    | cons z L ih => rw [List.flatMap_cons, List.map_append, ih]; rfl
  rw [← this]; exact h1
theorem eqs_read {n fuel : Nat} {v : Value} {d : DataW H} {p : List MemPlace} (hW : Wn W n) (h : DataW.trod enc Tryz.prog W 0 (fun _ => true) held fuel 25 [v] = some (d, p)) (hb : bd (up nm v) ≤ 3 * n) :
    ∃ ce qs, Sl (hv (wH W)) n 3 (up nm v) ce ∧ EqR (hv (wH W)) n ce qs ∧ qs.length ≤ Rows.uptoBulk d ∧ ∀ q ∈ qs, q.es.length ≤ Rows.uptoBulk d ∧ q.fr.length ≤ Rows.uptoBulk d := by
  obtain ⟨a, l, c, cells, rfl, h1, h2, h3, h4, h5⟩ := slice_read hW u_eqs c_eqn (by decide) h hb
  obtain ⟨L, h6, h7, h9⟩ := chunks (α := Eqn × Value × Value) (g := fun x => [x.2.1, x.2.2, .string ⟨⟨x.1.rhs⟩⟩]) (Q := fun x => Sl (hv (wH W)) n 4 (up nm x.2.1) (ents x.1.es) ∧ Sl (hv (wH W)) n 1 (up nm x.2.2) (strs x.1.fr) ∧ x.1.es.length ≤ Rows.uptoBulk d ∧ x.1.fr.length ≤ Rows.uptoBulk d) h2 (fun i hi => by
    obtain ⟨fu, D, q, h8, h8b⟩ := h5 i hi
    have hmem : ∀ x ∈ (cells.drop (i * 3)).take 3, bd (up nm x) ≤ 3 * n := fun x hx => h4 x (List.mem_of_mem_drop (List.mem_of_mem_take hx))
    generalize (cells.drop (i * 3)).take 3 = cs at h8 hmem ⊢
    obtain ⟨hl, fu', xs, rfl, hx⟩ := struct_read p_eqn h8
    rw [c_eqn] at hl
    obtain ⟨c0, c1, c2, rfl⟩ := list3 hl
    obtain ⟨D0, _, g0, m0⟩ := hx 0 _ rfl
    obtain ⟨D1, _, g1, m1⟩ := hx 1 _ rfl
    obtain ⟨_, _, g2, _⟩ := hx 2 _ rfl
    simp only [c_entl, c_strs, c_str] at g0 g1 g2
    have b0 := agg_mem m0
    have b1 := agg_mem m1
    obtain ⟨E, e1, e2⟩ := ents_read hW g0 (hmem c0 (by simp))
    obtain ⟨S, s1, s2⟩ := strs_read hW u_strs u_str c_str g1 (hmem c1 (by simp))
    obtain ⟨s, rfl⟩ := str_read u_str g2
    exact ⟨(⟨E, S, s⟩, c0, c1), rfl, e1, s1, by show E.length ≤ _; omega, by show S.length ≤ _; omega⟩)
  refine ⟨cells.map (up nm), L.map (·.1), h1, ?_, by rw [List.length_map]; omega, fun q hq => ?_⟩
  · rw [h7]
    clear h7 h6
    induction L with
    | nil => exact .nil
    | cons z L ih =>
      obtain ⟨q1, q2, _⟩ := h9 z (by simp)
      rw [List.flatMap_cons, List.map_append, List.map_cons]
      exact .cons q1 q2 (ih fun x hx => h9 x (by simp [hx]))
  · obtain ⟨x, hx, rfl⟩ := List.mem_map.1 hq
    exact (h9 x hx).2.2
theorem sdp_read {n : Nat} {v : Value} {d : DataW H} {p : List MemPlace} (hW : Wn W n) (ha : ∃ cs, v = .agg cs) (h : DataW.Trod enc Tryz.prog W 0 (fun _ => true) held 27 v d p) (hb : bd (up nm v) ≤ 3 * n) :
    ∃ vB fr vO vF vE q, up nm v = .agg #[vB, .int .i64 fr, vO, vF, vE] ∧ SdpR (hv (wH W)) n vB vO vF vE q ∧ q.blocks.length ≤ Rows.uptoBulk d ∧ q.obj.length ≤ Rows.uptoBulk d ∧ q.objFree.length ≤ Rows.uptoBulk d ∧ q.eqs.length ≤ Rows.uptoBulk d ∧ ∀ e ∈ q.eqs, e.es.length ≤ Rows.uptoBulk d ∧ e.fr.length ≤ Rows.uptoBulk d := by
  obtain ⟨cs, rfl⟩ := ha
  obtain ⟨fuel, h⟩ := h
  obtain ⟨hl, fu, xs, rfl, hx⟩ := struct_read p_sdp h
  rw [c_sdp] at hl
  obtain ⟨c0, c1, c2, c3, c4, hcs⟩ := list5 hl
  have hcs' : cs = #[c0, c1, c2, c3, c4] := by
    cases cs
    simp [Value.cells] at hcs
    simp [hcs]
  subst hcs'
  have hbd : ∀ x ∈ [c0, c1, c2, c3, c4], bd (up nm x) ≤ 3 * n := fun x hx => by
    have := bd_mem (List.mem_map_of_mem (f := up nm) hx)
    have e : bd (up nm (.agg #[c0, c1, c2, c3, c4])) = bdL ([c0, c1, c2, c3, c4].map (up nm)) := rfl
    omega
  rw [hcs] at hx
  obtain ⟨D0, _, g0, m0⟩ := hx 0 _ rfl
  obtain ⟨_, _, g1, _⟩ := hx 1 _ rfl
  obtain ⟨D2, _, g2, m2⟩ := hx 2 _ rfl
  obtain ⟨D3, _, g3, m3⟩ := hx 3 _ rfl
  obtain ⟨D4, _, g4, m4⟩ := hx 4 _ rfl
  simp only [c_ints, c_int, c_entl, c_strs, c_eql] at g0 g1 g2 g3 g4
  have b0 := agg_mem m0
  have b2 := agg_mem m2
  have b3 := agg_mem m3
  have b4 := agg_mem m4
  obtain ⟨B, e0, l0⟩ := ints_read hW u_ints u_int c_int g0 (hbd c0 (by simp))
  obtain ⟨fr, rfl, _⟩ := int_of_trod u_int g1
  obtain ⟨E, e2, l2⟩ := ents_read hW g2 (hbd c2 (by simp))
  obtain ⟨S, e3, l3⟩ := strs_read hW u_strs u_str c_str g3 (hbd c3 (by simp))
  obtain ⟨ce, qs, e4, e5, l4, l5⟩ := eqs_read hW g4 (hbd c4 (by simp))
  exact ⟨_, fr, _, _, _, ⟨B, 0, E, S, qs⟩, rfl, ⟨e0, e2, e3, ce, e4, e5⟩, by show B.length ≤ _; omega, by show E.length ≤ _; omega, by show S.length ≤ _; omega, by show qs.length ≤ _; omega, fun e he => by have := l5 e he; omega⟩
end
end Go.Proofs.YtokfihhdllmbmaaGreatDoor
namespace Go.Proofs.YtokfihhdllmbmaaGreatDoor
open Go Go.GL Go.ChangeShapes Go.WideShapes Go.RowKit
set_option maxRecDepth 100000
theorem own : ownKnob Tryz.prog.godebug = none := by kernel_rfl
theorem laidOut : laidOutB Tryz.prog = true := by kernel_rfl
def layCells (c : Array Value) : Obj → Obj
  | .cells _ t frozen => .cells c t frozen
  | o => o
noncomputable def laidWorld (os : Os) : World :=
  { World.holding Tryz.prog os ⟨#[], #[], []⟩ with heap := (((World.holding Tryz.prog os ⟨#[], #[], []⟩).heap.modify 0 (layCells GK.d64.toArray)).modify 3 (layCells GK.p10.toArray)).modify 4 (layCells GK.d32.toArray) }
theorem laidWorld_met (os : Os) (args : Array Value) : laidMet Tryz.prog laid3 ((laidWorld os).forCall (fun _ _ => 0) ⟨#[], args, []⟩).memory :=
  laidMet_of_run' 8 (by kernel_rfl) (by kernel_rfl)
end Go.Proofs.YtokfihhdllmbmaaGreatDoor
