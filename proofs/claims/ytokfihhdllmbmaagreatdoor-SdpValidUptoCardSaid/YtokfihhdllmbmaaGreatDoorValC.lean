import Derived.Test.YtokfihhdllmbmaaGreatDoorValB
set_option linter.unusedVariables false
set_option linter.unusedSimpArgs false
namespace Go.Proofs.YtokfihhdllmbmaaGreatDoor
open Go Go.GL
set_option maxHeartbeats 1000000
structure RatR (h : HF) (n : Nat) (n1 n2 d1 d2 : Value) (q : Rat) (ln ld : List Nat) : Prop where
  num : IntR h n n1 n2 q.num ln
  neg : d1 = .bool false
  sl : Sl h n 1 d2 (u32s ld)
  norm : Norm ld
  val : val ld = if q.den = 1 then 0 else q.den
theorem RatR.ext {h h' : HF} {n n' : Nat} {n1 n2 d1 d2 : Value} {q : Rat} {ln ld : List Nat} (r : RatR h n n1 n2 d1 d2 q ln ld) (e : Ext n h h') (hn : n ≤ n') : RatR h' n' n1 n2 d1 d2 q ln ld := ⟨r.num.ext e hn, r.neg, r.sl.ext e hn, r.norm, r.val⟩
theorem Norm.nil : Norm [] := ⟨fun d hd => absurd hd List.not_mem_nil, rfl⟩
theorem sign_ok (k : Nat) {h : HF} {n : Nat} {c1 c2 : Value} {x : Int} {l : List Nat} (hi : IntR h n c1 c2 x l) : VF (cal (k + 1)) 104 [.agg #[c1, c2]] h n fun v => v = .int .i64 x.sign := by
  refine CF_flat (fn := Tryz.f104) rfl rfl rfl rfl ?_
  obtain ⟨a, len, cap, rfl, hlen⟩ := hi.sl.len
  have hneg := hi.neg
  subst hneg
  simp only [NV, Nat.reduceEqDiff, reduceCtorEq]
  refine st_mkp (cs := [.bool (decide (x < 0)), .slice a len cap]) rfl rfl rfl rfl rfl ?_
  repeat refine zR ?_
  simp only [NV, Nat.reduceEqDiff, reduceCtorEq]
  repeat refine zR ?_
  refine st_load1 rfl rfl rfl rfl rfl rfl (upd_same _ _ _) rfl (v := .bool (decide (x < 0))) rfl ?_
  repeat refine zR ?_
  simp only [NV, Nat.reduceEqDiff, reduceCtorEq]
  by_cases hx : x < 0
  · rw [EC_cond_true (by show Value.bool (decide (x < 0)) = _; rw [decide_eq_true hx])]
    simp only [NV, Nat.reduceEqDiff, reduceCtorEq]
    repeat refine zR ?_
    simp only [NV, Nat.reduceEqDiff, reduceCtorEq]
    exact retF _ rfl (resF_tmp rfl) rfl rfl (by rw [Int.sign_eq_neg_one_of_neg hx]; rfl)
  · rw [EC_cond_false (by show Value.bool (decide (x < 0)) = _; rw [decide_eq_false hx])]
    simp only [NV, Nat.reduceEqDiff, reduceCtorEq]
    repeat refine zR ?_
    refine st_load1 rfl rfl rfl rfl rfl rfl (upd_same _ _ _) rfl (v := .slice a len cap) rfl ?_
    have hl0 : len = 0 ↔ x = 0 := by
      have h1 := hi.norm.zero
      have h2 := hi.val
      rw [u32s_len] at hlen
      rw [← List.length_eq_zero_iff] at h1
      omega
    by_cases h0 : x = 0
    · have := hl0.2 h0
      repeat refine zR ?_
      simp only [NV, Nat.reduceEqDiff, reduceCtorEq]
      rw [EC_cond_true rfl]
      simp only [NV, Nat.reduceEqDiff, reduceCtorEq]
      repeat refine zR ?_
      simp only [NV, Nat.reduceEqDiff, reduceCtorEq]
      exact retF _ rfl (resF_tmp rfl) rfl rfl (by rw [h0]; rfl)
    · have : ¬ len = 0 := fun e => h0 (hl0.1 e)
      repeat refine zR ?_
      simp only [NV, Nat.reduceEqDiff, reduceCtorEq]
      rw [EC_cond_false rfl]
      simp only [NV, Nat.reduceEqDiff, reduceCtorEq]
      repeat refine zR ?_
      simp only [NV, Nat.reduceEqDiff, reduceCtorEq]
      exact retF _ rfl (resF_tmp rfl) rfl rfl (by rw [Int.sign_eq_one_of_pos (by omega)]; rfl)
theorem rsign_ok (k : Nat) {h : HF} {n : Nat} {n1 n2 d1 d2 : Value} {q : Rat} {ln ld : List Nat} (hq : RatR h n n1 n2 d1 d2 q ln ld) : VF (cal (k + 2)) 44 [.agg #[n1, n2, d1, d2]] h n fun v => v = .int .i64 q.num.sign := by
  refine CF_flat (fn := Tryz.f44) rfl rfl rfl rfl ?_
  simp only [NV, Nat.reduceEqDiff, reduceCtorEq]
  refine st_mkp (cs := [n1, n2, d1, d2]) rfl rfl rfl rfl rfl ?_
  repeat refine zR ?_
  simp only [NV, Nat.reduceEqDiff, reduceCtorEq]
  repeat refine zR ?_
  refine st_load (v := .agg #[n1, n2]) rfl rfl rfl rfl rfl (loadn_eq rfl rfl (upd_same _ _ _) rfl (Nat.le_of_ble_eq_true rfl) rfl) ?_
  refine st_vf _ rfl rfl rfl rfl rfl (sign_ok k (hq.num.ext (Ext.upd (by omega)) (by omega))) ?_
  rintro _ rfl
  repeat refine zR ?_
  simp only [NV, Nat.reduceEqDiff, reduceCtorEq]
  exact retF _ rfl (resF_tmp rfl) rfl rfl rfl
end Go.Proofs.YtokfihhdllmbmaaGreatDoor
namespace Go.Proofs.YtokfihhdllmbmaaGreatDoor
open Go Go.GL
theorem splice_mid (j : Nat) (z v : Value) (r : List Value) : spliceAt (List.replicate (j + 1) z ++ r) j [v] = List.replicate j z ++ (v :: r) := by
  unfold spliceAt
  have h1 : (List.replicate (j + 1) z ++ r).take j = List.replicate j z := by
    rw [List.replicate_succ', List.append_assoc, List.take_left' (by simp)]
  have h2 : (List.replicate (j + 1) z ++ r).drop (j + [v].length) = r := List.drop_left' (by simp)
  rw [h1, h2]
  rfl
theorem drop_cons {l : List Nat} {j d : Nat} (h : l[j]? = some d) : l.drop j = d :: l.drop (j + 1) := by
  obtain ⟨hlt, rfl⟩ := List.getElem?_eq_some_iff.1 h
  exact List.drop_eq_getElem_cons hlt
theorem shl_or (r a : Nat) (hr : r < 4294967296) (ha : a < 4294967296) : r * 2 ^ 32 % 18446744073709551616 ||| a = r * 4294967296 + a := by
  have h1 : r * 2 ^ 32 % 18446744073709551616 = r * 4294967296 := by omega
  rw [h1]
  have := Nat.two_pow_add_eq_or_of_lt (i := 32) (b := a) (by omega) r
  rw [show r * 4294967296 = 2 ^ 32 * r from by omega, ← this]
theorem divstep {d r V Vq a : Nat} (hd : 0 < d) (hV : V = d * Vq + r) : (a + 4294967296 * V) / d = (r * 4294967296 + a) / d + 4294967296 * Vq ∧ (a + 4294967296 * V) % d = (r * 4294967296 + a) % d := by
  have e : a + 4294967296 * V = (r * 4294967296 + a) + d * (4294967296 * Vq) := by
    rw [hV, Nat.mul_add, ← Nat.mul_assoc, Nat.mul_comm 4294967296 d, Nat.mul_assoc]; omega
  rw [e, Nat.add_mul_div_left _ _ hd, Nat.add_mul_mod_self_left]
  exact ⟨rfl, rfl⟩
set_option maxHeartbeats 1000000
theorem smallDiv_ok (k : Nat) {h : HF} {n : Nat} {a : Option Addr} {len cap : Nat} {l : List Nat} {d : Nat} (hb : l.length < 1099511627) (hl : Dig l) (hd : 0 < d ∧ d < 4294967296) (hv : Sl h n 1 (.slice a len cap) (u32s l)) :
    CF (cal (k + 2)) 147 [.slice a len cap, .int .u32 (d : Int)] h n fun v h' n' w => w = [] ∧ n ≤ n' ∧ Ext n h h' ∧ ∃ a' c' L, v = .tuple #[.slice a' L.length c', .int .u32 ((val l % d : Nat) : Int)] ∧ Sl h' n' 1 (.slice a' L.length c') (u32s L) ∧ Norm L ∧ val L = val l / d ∧ Fresh n (.slice a' L.length c') ∧ L.length ≤ l.length := by
  refine CF_heap (fn := Tryz.f147) rfl rfl rfl rfl ?_
  have hlen0 : len = l.length := by
    obtain ⟨a', len', cap', e, hl⟩ := hv.len
    rw [u32s_len] at hl
    injection e with e1 e2 e3
    omega
  subst hlen0
  simp only [NV, Nat.reduceEqDiff, reduceCtorEq]
  repeat refine zR ?_
  simp only [NV, Nat.reduceEqDiff, reduceCtorEq]
  repeat refine zR ?_
  refine st_make rfl rfl rfl rfl rfl rfl rfl rfl rfl (by omega) ?_
  rw [show vcells (Value.int .u32 0) = [Value.int .u32 0] from rfl, rep_one]
  repeat refine zR ?_
  simp only [NV, Nat.reduceEqDiff, reduceCtorEq]
  repeat refine zR ?_
  simp only [NV, Nat.reduceEqDiff, reduceCtorEq]
  repeat refine zR ?_
  simp only [NV, Nat.reduceEqDiff, reduceCtorEq]
  refine EC_for (α := Nat × List Nat × Nat) (fun x => [(0, .slice a l.length cap), (1, .int .u32 (d : Int)), (6, .slice (some ⟨3 * n + 2, 0, none⟩) l.length l.length), (7, .int .u64 ((x.2.2 : Nat) : Int)), (8, .int .i64 ((x.1 : Int) - 1))])
    (fun x h' n' w => n' = n + 1 ∧ w = [] ∧ Ext n h h' ∧ x.1 ≤ l.length ∧ (∃ e, h' (3 * n + 2) = some (.row (List.replicate x.1 (.int .u32 0) ++ u32s x.2.1) e)) ∧ x.1 + x.2.1.length = l.length ∧ Dig x.2.1 ∧ x.2.2 < d ∧ val (l.drop x.1) = d * val x.2.1 + x.2.2) (fun x => x.1)
    (l.length, [], 0) ⟨rfl, rfl, rfl, rfl, rfl, trivial⟩ ⟨rfl, rfl, Ext.upd (by omega), Nat.le_refl _, ⟨_, by rw [upd_same, show u32s [] = [] from rfl, List.append_nil]⟩, by simp, fun d hd => absurd hd List.not_mem_nil, hd.1, by simp [val]⟩ (by show l.length < LL; unfold LL; omega) ?_
  rintro ⟨j, q, r⟩ t h1 _ _ ⟨rfl, rfl, hext, hj, ⟨e, hrow⟩, hjl, hq, hr, hV⟩
  simp only at hj hrow hjl hq hr hV
  simp only [NV, Nat.reduceEqDiff, reduceCtorEq]
  cases j with
  | zero =>
    repeat refine zR ?_
    simp only [NV, Nat.reduceEqDiff, reduceCtorEq]
    rw [EC_cond_false rfl]
    simp only [NV, Nat.reduceEqDiff, reduceCtorEq]
    repeat refine zR ?_
    refine st_call _ rfl rfl rfl rfl rfl (trim_ok k (l := q) (by omega) (.at_ (by omega) hrow rfl (by omega) (by simp [u32s]; omega) (by rw [List.take_of_length_le (by simp [u32s]; omega)]; simp))) ?_
    rintro v' _ _ _ ⟨rfl, rfl, rfl, rfl, hs⟩
    refine zM ?_
    refine st_conv_u32 rfl rfl rfl rfl rfl rfl rfl ?_
    repeat refine zR ?_
    simp only [NV, Nat.reduceEqDiff, reduceCtorEq]
    have hd0 : l.drop 0 = l := rfl
    rw [hd0] at hV
    refine retH [.slice (some ⟨3 * n + 2, 0, none⟩) (trimL q).length l.length, .int .u32 ((val l % d : Nat) : Int)] rfl ?_ rfl ⟨rfl, by show n ≤ n + 1; omega, hext, _, _, trimL q, rfl, hs, Norm.trim hq, ?_, ?_, ?_⟩
    · have e1 : val l % d = r % 4294967296 := by rw [hV, Nat.mul_add_mod, Nat.mod_eq_of_lt hr, Nat.mod_eq_of_lt (by omega)]
      rw [e1]
      rfl
    · rw [trimL_val, hV, Nat.mul_add_div hd.1, Nat.div_eq_of_lt hr]; omega
    · show 3 * n ≤ 3 * n + 2; omega
    · have := trimL_len q; omega
  | succ j =>
    have hjl' : j < l.length := by omega
    obtain ⟨dg, hdg⟩ : ∃ dg, l[j]? = some dg := ⟨l[j], by simp [hjl']⟩
    have hdl : dg < 4294967296 := hl dg (List.mem_of_getElem? hdg)
    have hcons := drop_cons hdg
    obtain ⟨b, off, x, cs, rfl, hb3, hx, hc, hcap, hle, he⟩ := hv.inv (by omega)
    have hcell : cs[off + j]? = some (.int .u32 (dg : Int)) := cell_at he (by rw [u32s, List.getElem?_map, hdg]; rfl)
    have hx1 : h1 b = some x := by rw [hext b hb3]; exact hx
    repeat refine zR ?_
    simp only [NV, Nat.reduceEqDiff, reduceCtorEq]
    rw [EC_cond_true rfl]
    simp only [NV, Nat.reduceEqDiff, reduceCtorEq]
    refine zM ?_
    refine st_shl_u64 rfl rfl rfl rfl rfl (s := 32) rfl (by omega) ?_
    refine zM ?_
    refine zM ?_
    refine st_idx rfl rfl rfl rfl rfl rfl rfl rfl (by omega) ?_
    refine st_load1 rfl rfl rfl rfl rfl rfl hx1 hc (v := .int .u32 (dg : Int)) (by rw [← hcell]; congr 1; omega) ?_
    refine st_conv_u64 rfl rfl rfl rfl rfl rfl rfl ?_
    rw [Nat.mod_eq_of_lt (show dg < 18446744073709551616 by omega)]
    refine st_or_u64 rfl rfl rfl rfl rfl rfl (by omega) ?_
    rw [shl_or r dg (by omega) hdl]
    repeat refine zR ?_
    simp only [NV, Nat.reduceEqDiff, reduceCtorEq]
    obtain ⟨R, hR⟩ : ∃ R, R = r * 4294967296 + dg := ⟨_, rfl⟩
    rw [← hR]
    have hRd : R / d < 4294967296 := by
      rw [Nat.div_lt_iff_lt_mul hd.1, hR]
      have : r * 4294967296 + dg < (r + 1) * 4294967296 := by omega
      have h2 : (r + 1) * 4294967296 ≤ d * 4294967296 := Nat.mul_le_mul_right _ hr
      omega
    have hR64 : R < 18446744073709551616 := by omega
    refine zM ?_
    refine zM ?_
    refine zM ?_
    refine zM ?_
    refine st_conv_u64 rfl rfl rfl rfl rfl rfl rfl ?_
    rw [Nat.mod_eq_of_lt (show d < 18446744073709551616 by omega)]
    refine st_div_u64 rfl rfl rfl rfl rfl rfl (by omega) ?_
    refine st_conv_u32 rfl rfl rfl rfl rfl rfl rfl ?_
    rw [Nat.mod_eq_of_lt hRd]
    refine st_idx rfl rfl rfl rfl rfl rfl rfl rfl (by omega) ?_
    refine st_storeN (cs := [.int .u32 ((R / d : Nat) : Int)]) rfl rfl rfl rfl rfl rfl rfl rfl hrow (by simp [u32s]) (by show 3 * n ≤ _; omega) ?_
    rw [show 0 + ((j + 1 : Nat) - 1 : Int).toNat * 1 = j from by omega, splice_mid]
    simp only [NV, Nat.reduceEqDiff, reduceCtorEq]
    refine zM ?_
    refine zM ?_
    refine st_conv_u64 rfl rfl rfl rfl rfl rfl rfl ?_
    rw [Nat.mod_eq_of_lt (show d < 18446744073709551616 by omega)]
    refine st_rem_u64 rfl rfl rfl rfl rfl rfl (by omega) ?_
    repeat refine zR ?_
    simp only [NV, Nat.reduceEqDiff, reduceCtorEq]
    repeat refine zR ?_
    simp only [NV, Nat.reduceEqDiff, reduceCtorEq]
    obtain ⟨e1, e2⟩ := divstep (a := dg) hd.1 hV
    refine goOn (j, (R / d) :: q, R % d) (by simp) ⟨rfl, rfl, rfl, rfl, by show Value.int .i64 _ = Value.int .i64 _; congr 1; omega, trivial⟩ ⟨rfl, rfl, fun b hb => ?_, by show j ≤ _; omega, ⟨_, upd_same _ _ _⟩, by show j + (q.length + 1) = _; omega, ?_, Nat.mod_lt _ hd.1, ?_⟩
    · exact (upd_ne (by omega)).trans (hext b hb)
    · intro y hy
      rcases List.mem_cons.1 hy with rfl | hy
      · exact hRd
      · exact hq y hy
    · show val (l.drop j) = d * (R / d + 4294967296 * val q) + R % d
      rw [hcons]
      have e3 := Nat.div_add_mod (dg + 4294967296 * val (l.drop (j + 1))) d
      rw [e1, e2, ← hR] at e3
      exact e3.symm
end Go.Proofs.YtokfihhdllmbmaaGreatDoor
namespace Go.Proofs.YtokfihhdllmbmaaGreatDoor
open Go Go.GL
def decD (V : Nat) : List Nat := if h : V = 0 then [] else decD (V / 10) ++ [V % 10]
termination_by V
decreasing_by omega
theorem decD_zero : decD 0 = [] := by rw [decD]; simp
theorem decD_pos {V : Nat} (h : V ≠ 0) : decD V = decD (V / 10) ++ [V % 10] := by rw [decD, dif_neg h]
theorem decD_step {V c : Nat} (hc : c < 10) (h : V ≠ 0 ∨ c ≠ 0) : decD (10 * V + c) = decD V ++ [c] := by
  rw [decD_pos (by omega), show (10 * V + c) / 10 = V from by omega, show (10 * V + c) % 10 = c from by omega]
theorem decD_nil {V : Nat} : decD V = [] ↔ V = 0 := by
  constructor
  · intro h
    apply Classical.byContradiction
    intro h0
    rw [decD_pos h0] at h
    simp at h
  · rintro rfl; exact decD_zero
def u8s (l : List Nat) : List Value := l.map fun d : Nat => Value.int .u8 (d : Int)
theorem bytesE_u8s (l : List Nat) : bytesE (u8s l) = some (l.map UInt8.ofNat) := by
  induction l with
  | nil => rfl
  | cons d l ih =>
    show (match bytesE (u8s l) with | some r => some (UInt8.ofNat (d : Int).toNat :: r) | none => none) = _
    rw [ih]
    simp
def decB (V : Nat) : List Nat := (decD V).map (48 + ·)
def decStr (V : Nat) : ByteArray := ⟨⟨if V = 0 then [48] else (decB V).map UInt8.ofNat⟩⟩
def parts9 (V : Nat) : Nat := if h : V = 0 then 0 else parts9 (V / 1000000000) + 1
termination_by V
decreasing_by omega
theorem parts9_zero : parts9 0 = 0 := by rw [parts9]; simp
theorem parts9_pos {V : Nat} (h : V ≠ 0) : parts9 V = parts9 (V / 1000000000) + 1 := by rw [parts9, dif_neg h]
theorem parts9_le : ∀ (m V : Nat), V < 1000000000 ^ m → parts9 V ≤ m := by
  intro m
  induction m with
  | zero => intro V h; have : V = 0 := by simpa using h
            subst this; rw [parts9_zero]; exact Nat.le_refl _
  | succ m ih =>
    intro V h
    by_cases h0 : V = 0
    · subst h0; rw [parts9_zero]; omega
    · rw [parts9_pos h0]
      have := ih (V / 1000000000) (by rw [Nat.div_lt_iff_lt_mul (by omega)]; rw [Nat.pow_succ] at h; exact h)
      omega
theorem parts9_len {l : List Nat} (h : Dig l) : parts9 (val l) ≤ 2 * l.length := by
  apply parts9_le
  refine Nat.lt_of_lt_of_le (val_lt h) ?_
  rw [Nat.pow_mul]
  exact Nat.pow_le_pow_left (by decide) _
def valP : List Nat → Nat
  | [] => 0
  | d :: r => d + 1000000000 * valP r
theorem valP_append (a b : List Nat) : valP (a ++ b) = valP a + 1000000000 ^ a.length * valP b := by
  induction a with
  | nil => simp [valP]
  | cons d a ih =>
    simp only [List.cons_append, valP, ih, List.length_cons, Nat.pow_succ, Nat.mul_add]
    rw [← Nat.mul_assoc, Nat.mul_comm (1000000000 ^ a.length) 1000000000]
    omega
theorem textF_eq {E : Env} {ty e el : TypeId} {h : HF} {a : Option Addr} {len c : Nat} {B : List Nat} (h1 : E.und ty = some (.slice el)) (h2 : E.und e = some .string) (h3 : E.und el = some (.int .u8)) (hs : argS h 1 (.slice a len c) len (u8s B)) : textF E ty e (.slice a len c) h = some (.string ⟨⟨B.map UInt8.ofNat⟩⟩) := by
  simp only [textF, h1, h2, h3, hs.2, bytesE_u8s]
theorem decB_step {V c : Nat} (hc : c < 10) (h : V ≠ 0 ∨ c ≠ 0) : decB (10 * V + c) = decB V ++ [48 + c] := by
  unfold decB
  rw [decD_step hc h]
  simp
theorem tenstep (p s : Nat) : 10 * (p / 10 ^ (s + 1)) + p / 10 ^ s % 10 = p / 10 ^ s := by
  have : p / 10 ^ (s + 1) = p / 10 ^ s / 10 := by rw [Nat.pow_succ, Nat.div_div_eq_div_mul]
  rw [this]; omega
theorem pow_div (s : Nat) : 10 ^ (s + 1) / 10 = 10 ^ s := by rw [Nat.pow_succ]; omega
theorem pow_le9 {s : Nat} (h : s ≤ 9) : 10 ^ s ≤ 1000000000 := by
  have := Nat.pow_le_pow_right (n := 10) (by omega) h
  omega
theorem decD_len (V : Nat) : (decB V).length = (decD V).length := by simp [decB]
set_option maxHeartbeats 2000000
theorem digits_ok (k : Nat) {h : HF} {n : Nat} {c1 c2 : Value} {x : Int} {l : List Nat} (hi : IntR h n c1 c2 x l) (hb : l.length < 1000000) : VF (cal (k + 3)) 82 [.agg #[c1, c2]] h n fun v => v = .string (decStr x.natAbs) := by
  refine CF_flat (fn := Tryz.f82) rfl rfl rfl rfl ?_
  obtain ⟨a, len, cap, rfl, hlen⟩ := hi.sl.len
  have hll : len = l.length := by rw [u32s_len] at hlen; omega
  subst hll
  have hneg := hi.neg
  subst hneg
  have hval := hi.val
  simp only [NV, Nat.reduceEqDiff, reduceCtorEq]
  refine st_mkp (cs := [.bool (decide (x < 0)), .slice a l.length cap]) rfl rfl rfl rfl rfl ?_
  repeat refine zR ?_
  simp only [NV, Nat.reduceEqDiff, reduceCtorEq]
  repeat refine zR ?_
  refine st_load1 rfl rfl rfl rfl rfl rfl (upd_same _ _ _) rfl (v := .slice a l.length cap) rfl ?_
  refine zM ?_
  by_cases h0 : l = []
  · have : l.length = 0 := by rw [h0]; rfl
    repeat refine zR ?_
    simp only [NV, Nat.reduceEqDiff, reduceCtorEq]
    rw [EC_cond_true rfl]
    simp only [NV, Nat.reduceEqDiff, reduceCtorEq]
    repeat refine zR ?_
    simp only [NV, Nat.reduceEqDiff, reduceCtorEq]
    have hx0 : x.natAbs = 0 := by rw [← hval, h0]; rfl
    exact retF _ rfl (resF_tmp rfl) rfl rfl (by rw [hx0]; rfl)
  have hl0 : l.length ≠ 0 := fun e => h0 (List.length_eq_zero_iff.1 e)
  repeat refine zR ?_
  simp only [NV, Nat.reduceEqDiff, reduceCtorEq]
  rw [EC_cond_false rfl]
  simp only [NV, Nat.reduceEqDiff, reduceCtorEq]
  repeat refine zR ?_
  simp only [NV, Nat.reduceEqDiff, reduceCtorEq]
  repeat refine zR ?_
  refine st_load1 rfl rfl rfl rfl rfl rfl (upd_same _ _ _) rfl (v := .slice a l.length cap) rfl ?_
  repeat refine zR ?_
  simp only [NV, Nat.reduceEqDiff, reduceCtorEq]
  generalize hh : upd h (3 * n + 2) _ = h1
  have hext : Ext n h h1 := by rw [← hh]; exact Ext.upd (by omega)
  refine EC_for (α := Value × Option Addr × Nat × List Nat × List Nat) (fun z => [(3, z.1), (4, .slice z.2.1 z.2.2.2.1.length z.2.2.1)])
    (fun z h' n' w => w = [] ∧ n + 1 ≤ n' ∧ Gro h' (n + 1) n' 210 1 z.1 z.2.2.2.2.length (u32s z.2.2.2.2) ∧ Sl h' n' 1 (.slice z.2.1 z.2.2.2.1.length z.2.2.1) (u32s z.2.2.2.1) ∧ Norm z.2.2.2.1 ∧ z.2.2.2.1.length ≤ l.length ∧ z.2.2.2.2.length + parts9 (val z.2.2.2.1) ≤ 2 * l.length ∧ (∀ p ∈ z.2.2.2.2, p < 1000000000) ∧ val l = valP z.2.2.2.2 + 1000000000 ^ z.2.2.2.2.length * val z.2.2.2.1)
    (fun z => parts9 (val z.2.2.2.1)) (.slice none 0 0, a, cap, l, []) ⟨rfl, rfl, trivial⟩ ⟨rfl, Nat.le_refl _, .nil, hi.sl.ext hext (by omega), hi.norm, Nat.le_refl _, by have := parts9_len hi.norm.1; simp; omega, by simp, by simp [valP]⟩ (by show parts9 (val l) < LL; have := parts9_len hi.norm.1; unfold LL; omega) ?_
  rintro ⟨v3, a4, c4, L, P⟩ t h2 n2 w2 ⟨rfl, hn2, hg, hs, hN, hLl, hPl, hP, hV⟩
  simp only at hg hs hN hLl hPl hP hV
  simp only [NV, Nat.reduceEqDiff, reduceCtorEq]
  by_cases hL0 : L = []
  · have hLl0 : L.length = 0 := by rw [hL0]; rfl
    have hV : val l = valP P := by rw [hV, hL0]; simp [val]
    repeat refine zR ?_
    simp only [NV, Nat.reduceEqDiff, reduceCtorEq]
    rw [EC_cond_false rfl]
    simp only [NV, Nat.reduceEqDiff, reduceCtorEq]
    repeat refine zR ?_
    simp only [NV, Nat.reduceEqDiff, reduceCtorEq]
    obtain ⟨a3, rfl, _⟩ := hg.shape
    repeat refine zR ?_
    simp only [NV, Nat.reduceEqDiff, reduceCtorEq]
    have hPlen : P.length < 4000000 := by omega
    refine EC_for (α := Nat × Value × Nat) (fun z => [(3, .slice a3 P.length P.length), (7, z.2.1), (8, .int .i64 ((z.1 : Int) - 1))])
      (fun z h' n' w => w = [] ∧ n2 ≤ n' ∧ z.1 ≤ P.length ∧ Ext n2 h2 h' ∧ z.2.2 = valP (P.drop z.1) ∧ Gro h' n2 n' 5 1 z.2.1 (decD z.2.2).length (u8s (decB z.2.2)) ∧ (decD z.2.2).length ≤ 9 * (P.length - z.1)) (fun z => z.1)
      (P.length, .slice none 0 0, 0) ⟨rfl, rfl, rfl, trivial⟩ ⟨rfl, Nat.le_refl _, Nat.le_refl _, Ext.refl _ _, by simp [valP], by show Gro _ _ _ _ _ _ (decD 0).length (u8s (decB 0)); rw [decB, decD_zero]; exact .nil, by rw [decD_zero]; simp⟩ (by show P.length < LL; unfold LL; omega) ?_
    rintro ⟨j, v7, V⟩ t h4 n4 w4 ⟨rfl, hn4, hj, hx4, hVj, hg7, hdl⟩
    simp only at hj hVj hg7 hdl
    simp only [NV, Nat.reduceEqDiff, reduceCtorEq]
    cases j with
    | zero =>
      repeat refine zR ?_
      simp only [NV, Nat.reduceEqDiff, reduceCtorEq]
      rw [EC_cond_false rfl]
      simp only [NV, Nat.reduceEqDiff, reduceCtorEq]
      obtain ⟨a7, rfl, _⟩ := hg7.shape
      have hVV : V = x.natAbs := by rw [hVj, ← hval, hV]; rfl
      have hV0 : V ≠ 0 := by have := hi.norm.pos h0; omega
      repeat refine zR ?_
      refine st_text rfl rfl rfl rfl rfl (textF_eq rfl rfl rfl (argS_sl hg7.sl)) ?_
      repeat refine zR ?_
      simp only [NV, Nat.reduceEqDiff, reduceCtorEq]
      exact retF _ rfl (resF_tmp rfl) rfl rfl (by rw [← hVV, decStr, if_neg hV0]; rfl)
    | succ j =>
      have hjP : j < P.length := by omega
      obtain ⟨p, hp⟩ : ∃ p, P[j]? = some p := ⟨P[j], by simp [hjP]⟩
      have hp9 : p < 1000000000 := hP p (List.mem_of_getElem? hp)
      have hcons := drop_cons hp
      have hs3 := hg.sl
      obtain ⟨b3, off3, x3, cs3, rfl, hb3, hx3, hc3, hcap3, hle3, he3⟩ := hs3.inv (by omega)
      have hcell : cs3[off3 + j]? = some (.int .u32 (p : Int)) := cell_at he3 (by rw [u32s, List.getElem?_map, hp]; rfl)
      repeat refine zR ?_
      simp only [NV, Nat.reduceEqDiff, reduceCtorEq]
      rw [EC_cond_true rfl]
      simp only [NV, Nat.reduceEqDiff, reduceCtorEq]
      repeat refine zR ?_
      simp only [NV, Nat.reduceEqDiff, reduceCtorEq]
      refine EC_for (α := Nat × Value × Nat) (fun z => [(3, .slice (some ⟨b3, off3, none⟩) P.length P.length), (7, z.2.1), (8, .int .i64 (((j + 1 : Nat) : Int) - 1)), (9, .int .u32 ((10 ^ z.1 / 10 : Nat) : Int))])
        (fun z h' n' w => w = [] ∧ n2 ≤ n' ∧ z.1 ≤ 9 ∧ Ext n2 h2 h' ∧ z.2.2 = V * 10 ^ (9 - z.1) + p / 10 ^ z.1 ∧ Gro h' n2 n' 5 1 z.2.1 (decD z.2.2).length (u8s (decB z.2.2)) ∧ (decD z.2.2).length ≤ 9 * (P.length - (j + 1)) + (9 - z.1)) (fun z => z.1)
        (9, v7, V) ⟨rfl, rfl, rfl, congrArg (Value.int .u32) (show (100000000 : Int) = ((10 ^ 9 / 10 : Nat) : Int) from by decide), trivial⟩ ⟨rfl, hn4, Nat.le_refl _, hx4, by show V = V * 10 ^ 0 + p / 10 ^ 9; omega, hg7, by show (decD V).length ≤ _; omega⟩ (by show 9 < LL; unfold LL; omega) ?_
      rintro ⟨s, v8, U⟩ t h5 n5 w5 ⟨rfl, hn5, hs9, hx5, hU, hg8, hdl8⟩
      simp only at hs9 hU hg8 hdl8
      have hx35 : h5 b3 = some x3 := by rw [hx5 b3 hb3]; exact hx3
      obtain ⟨a8, rfl, _⟩ := hg8.shape
      simp only [NV, Nat.reduceEqDiff, reduceCtorEq]
      cases s with
      | zero =>
        have hz : ((10 ^ 0 / 10 : Nat) : Int) = 0 := rfl
        repeat refine zR ?_
        simp only [NV, Nat.reduceEqDiff, reduceCtorEq]
        rw [EC_cond_false rfl]
        simp only [NV, Nat.reduceEqDiff, reduceCtorEq]
        repeat refine zR ?_
        simp only [NV, Nat.reduceEqDiff, reduceCtorEq]
        refine goOn (j, .slice a8 (decD U).length (decD U).length, U) (by simp) ⟨rfl, rfl, by show Value.int .i64 _ = Value.int .i64 _; congr 1; omega, trivial⟩ ⟨rfl, hn5, by show j ≤ _; omega, hx5, ?_, hg8, by show (decD U).length ≤ 9 * (P.length - j); omega⟩
        show U = valP (P.drop j)
        rw [hcons, hU]
        simp only [valP, ← hVj]
        omega
      | succ s =>
        have hds : 10 ^ (s + 1) / 10 = 10 ^ s := pow_div s
        have hd9 := pow_le9 (s := s) (by omega)
        have hdpos : 0 < 10 ^ s := Nat.pow_pos (by omega)
        rw [hds]
        generalize hD : 10 ^ s = D at *
        repeat refine zR ?_
        simp only [NV, Nat.reduceEqDiff, reduceCtorEq]
        rw [EC_cond_true rfl]
        simp only [NV, Nat.reduceEqDiff, reduceCtorEq]
        repeat refine zR ?_
        refine st_idx rfl rfl rfl rfl rfl rfl rfl rfl (by omega) ?_
        refine st_load1 rfl rfl rfl rfl rfl rfl hx35 hc3 (v := .int .u32 (p : Int)) (by rw [← hcell]; congr 1; omega) ?_
        refine zM ?_
        refine st_div_u32 rfl rfl rfl rfl rfl rfl (by omega) ?_
        refine st_rem_u32 (b := 10) rfl rfl rfl rfl rfl rfl (by omega) ?_
        refine st_add_u32 (a := 48) rfl rfl rfl rfl rfl rfl (by omega) ?_
        refine st_conv_u8 rfl rfl rfl rfl rfl rfl rfl ?_
        obtain ⟨c, hc⟩ : ∃ c, c = p / D % 10 := ⟨_, rfl⟩
        have hc10 : c < 10 := by omega
        rw [← hc, Nat.mod_eq_of_lt (show 48 + c < 256 by omega)]
        have hUs : V * 10 ^ (9 - s) + p / D = 10 * U + c := by
          have e1 := tenstep p s
          rw [hD] at e1
          rw [hU, show 9 - s = (9 - (s + 1)) + 1 from by omega, Nat.pow_succ, hc, ← e1]
          have : 10 ^ (s + 1) = 10 ^ (s + 1) := rfl
          generalize p / 10 ^ (s + 1) = A
          generalize 10 ^ (9 - (s + 1)) = B
          rw [Nat.mul_add, ← Nat.mul_assoc, ← Nat.mul_assoc]
          have : V * B * 10 = 10 * V * B := by rw [Nat.mul_comm (V * B) 10, Nat.mul_assoc]
          omega
        repeat refine zR ?_
        simp only [NV, Nat.reduceEqDiff, reduceCtorEq]
        have hlen0 : (decD U).length = 0 ↔ U = 0 := by rw [List.length_eq_zero_iff, decD_nil]
        by_cases hA : U = 0 ∧ c = 0
        · have hl8 := hlen0.2 hA.1
          repeat refine zR ?_
          simp only [NV, Nat.reduceEqDiff, reduceCtorEq]
          rw [EC_cond_false rfl]
          simp only [NV, Nat.reduceEqDiff, reduceCtorEq]
          refine zM ?_
          refine st_div_u32 (b := 10) rfl rfl rfl rfl rfl rfl (by omega) ?_
          repeat refine zR ?_
          simp only [NV, Nat.reduceEqDiff, reduceCtorEq]
          refine goOn (s, .slice a8 (decD U).length (decD U).length, U) (by simp) ⟨rfl, rfl, rfl, by show Value.int .u32 _ = Value.int .u32 ((10 ^ s / 10 : Nat) : Int); rw [hD], trivial⟩ ⟨rfl, hn5, by show s ≤ 9; omega, hx5, ?_, hg8, by show (decD U).length ≤ _; omega⟩
          show U = V * 10 ^ (9 - s) + p / 10 ^ s
          rw [hD, hUs]; omega
        · have hdl9 : (decD (10 * U + c)).length = (decD U).length + 1 := by rw [decD_step hc10 (by omega)]; simp
          by_cases hU0 : U = 0 <;>
          (have hl8 := hlen0
           repeat refine zR ?_
           simp only [NV, Nat.reduceEqDiff, reduceCtorEq]
           rw [EC_cond_true rfl]
           simp only [NV, Nat.reduceEqDiff, reduceCtorEq]
           repeat refine zR ?_
           refine st_mks (cs := u8s [48 + c]) rfl rfl rfl rfl rfl ?_
           refine st_app (m := 1) rfl rfl rfl rfl rfl rfl rfl rfl (by decide) (hg8.ext (Ext.upd (by omega)) (Nat.le_succ _)) (argS_of (upd_same _ _ _) rfl rfl) (Nat.le_refl _) (by omega) rfl rfl (by show n ≤ _ ∧ _; omega) ?_
           intro v9 h9 hg9 hx9 hk9
           obtain ⟨a9, rfl, _⟩ := hg9.shape
           repeat refine zR ?_
           simp only [NV, Nat.reduceEqDiff, reduceCtorEq]
           refine st_I rfl rfl rfl rfl rfl ?_
           refine st_div_u32 (b := 10) rfl rfl rfl rfl rfl rfl (by omega) ?_
           repeat refine zR ?_
           simp only [NV, Nat.reduceEqDiff, reduceCtorEq]
           refine goOn (s, .slice a9 ((decD U).length + 1) ((decD U).length + 1), 10 * U + c) (by simp) ⟨rfl, rfl, rfl, by show Value.int .u32 _ = Value.int .u32 ((10 ^ s / 10 : Nat) : Int); rw [hD], trivial⟩ ⟨rfl, by show n2 ≤ n5 + 1 + 1; omega, by show s ≤ 9; omega, fun b hb => ?_, ?_, ?_, by show (decD (10 * U + c)).length ≤ _; omega⟩
           · exact (hx9 b hb).trans ((upd_ne (by omega)).trans (hx5 b hb))
           · show 10 * U + c = V * 10 ^ (9 - s) + p / 10 ^ s
             rw [hD, hUs]
           · show Gro _ _ _ _ _ _ (decD (10 * U + c)).length (u8s (decB (10 * U + c)))
             rw [hdl9, decB_step hc10 (by omega), show u8s (decB U ++ [48 + c]) = u8s (decB U) ++ u8s [48 + c] from by simp [u8s]]
             exact hg9)
  · have hLl0 : L.length ≠ 0 := fun e => hL0 (List.length_eq_zero_iff.1 e)
    have hVL : val L ≠ 0 := by have := hN.pos hL0; omega
    have hp9 := parts9_pos hVL
    repeat refine zR ?_
    simp only [NV, Nat.reduceEqDiff, reduceCtorEq]
    rw [EC_cond_true rfl]
    simp only [NV, Nat.reduceEqDiff, reduceCtorEq]
    repeat refine zR ?_
    refine st_call _ rfl rfl rfl rfl rfl (smallDiv_ok k (d := 1000000000) (by omega) hN.1 (by omega) hs) ?_
    rintro _ h3 n3 _ ⟨rfl, hn3, hx3, a5, c5, L5, rfl, hs5, hN5, hv5, hf5, hl5⟩
    repeat refine zR ?_
    simp only [NV, Nat.reduceEqDiff, reduceCtorEq]
    obtain ⟨a3, rfl, _⟩ := hg.shape
    repeat refine zR ?_
    refine st_mks (cs := u32s [val L % 1000000000]) rfl rfl rfl rfl rfl ?_
    refine st_app (m := 1) rfl rfl rfl rfl rfl rfl rfl rfl (by decide) ((hg.ext hx3 hn3).ext (Ext.upd (by omega)) (Nat.le_succ _)) (argS_of (upd_same _ _ _) rfl rfl) (Nat.le_refl _) (by omega) rfl rfl (by show n ≤ _ ∧ _; omega) ?_
    intro v' h6 hg6 hx6 hk6
    obtain ⟨a6, rfl, _⟩ := hg6.shape
    repeat refine zR ?_
    simp only [NV, Nat.reduceEqDiff, reduceCtorEq]
    repeat refine zR ?_
    simp only [NV, Nat.reduceEqDiff, reduceCtorEq]
    refine goOn (.slice a6 (P.length + 1) (P.length + 1), a5, c5, L5, P ++ [val L % 1000000000]) ?_ ⟨rfl, rfl, trivial⟩ ⟨rfl, by show n + 1 ≤ n3 + 1 + 1; omega, ?_, ?_, hN5, by show L5.length ≤ _; omega, ?_, ?_, ?_⟩
    · show parts9 (val L5) < parts9 (val L)
      rw [hv5]; omega
    · show Gro _ _ _ _ _ _ (P ++ [_]).length (u32s (P ++ [_]))
      rw [u32s_append, List.length_append]
      exact hg6
    · exact (hs5.ext (Ext.upd (by omega)) (Nat.le_succ _)).app hk6 hg.below hf5 (Nat.le_succ _)
    · show (P ++ [_]).length + parts9 (val L5) ≤ _
      rw [hv5, List.length_append, List.length_singleton]; omega
    · intro p hp
      rcases List.mem_append.1 hp with hp | hp
      · exact hP p hp
      · simp at hp; subst hp; omega
    · show val l = valP (P ++ [_]) + 1000000000 ^ (P ++ [_]).length * val L5
      rw [valP_append, List.length_append, List.length_singleton, Nat.pow_succ, hv5, hV]
      simp only [valP]
      have := Nat.div_add_mod (val L) 1000000000
      rw [Nat.mul_assoc, Nat.add_assoc, ← Nat.mul_add]
      congr 2
      omega
end Go.Proofs.YtokfihhdllmbmaaGreatDoor
namespace Go.Proofs.YtokfihhdllmbmaaGreatDoor
open Go Go.GL
theorem decD_len_le : ∀ (m V : Nat), V < 10 ^ m → (decD V).length ≤ m := by
  intro m
  induction m with
  | zero => intro V h; have : V = 0 := by simpa using h
            subst this; rw [decD_zero]; exact Nat.le_refl _
  | succ m ih =>
    intro V h
    by_cases h0 : V = 0
    · subst h0; rw [decD_zero]; simp
    · rw [decD_pos h0, List.length_append]
      have := ih (V / 10) (by rw [Nat.div_lt_iff_lt_mul (by omega)]; rw [Nat.pow_succ] at h; exact h)
      simp; omega
def decT (V : Nat) : List UInt8 := if V = 0 then [48] else (decB V).map UInt8.ofNat
theorem decStr_eq (V : Nat) : decStr V = ⟨⟨decT V⟩⟩ := rfl
theorem decT_len {l : List Nat} (h : Dig l) : (decT (val l)).length ≤ 10 * l.length + 1 := by
  unfold decT
  split
  · simp
  · rw [List.length_map, decD_len]
    have := decD_len_le (10 * l.length) (val l) (Nat.lt_of_lt_of_le (val_lt h) (by rw [Nat.pow_mul]; exact Nat.pow_le_pow_left (by decide) _))
    omega
def ratT (q : Rat) : List UInt8 := (if q.num < 0 then [45] else []) ++ (decT q.num.natAbs ++ (if q.den = 1 then [] else 47 :: decT q.den))
section
variable {X : CtxF} {ops r : List Oper} {t : TF} {h : HF} {n : Nat} {w : List Nat} {Q : SV → Prop} {o : Oper} {d : Tmp}
theorem st_cat {ty ty' : TypeId} {x y : Operand} {a b : List UInt8} (hw : wantsF ops t o = true) (hd : o.dst = some d) (hn : dstOk X.nt (some d) = true) (ho : o.op = .binOp .add ty x y ty') (hx : evF t x = .string ⟨⟨a⟩⟩) (hy : evF t y = .string ⟨⟨b⟩⟩) (hl : a.length + b.length ≤ 1099511627776)
    (k : EO X ops r ⟨upd t d (.string ⟨⟨a ++ b⟩⟩), h, n, w⟩ Q) : EO X ops (o :: r) ⟨t, h, n, w⟩ Q := by
  refine st_val hw hd hn (by rw [ho]; rfl) ?_ k
  rw [ho]
  show binE X.E .add ty (evF t x) (evF t y) = _
  rw [hx, hy]
  simp only [binE, strE, if_pos hl]
end
theorem IntR.of_den {h : HF} {n : Nat} {n1 n2 d1 d2 : Value} {q : Rat} {ln ld : List Nat} (hq : RatR h n n1 n2 d1 d2 q ln ld) (hd : q.den ≠ 1) : IntR h n d1 d2 (q.den : Int) ld := by
  have hv := hq.val
  rw [if_neg hd] at hv
  exact ⟨by rw [hq.neg]; simp, hq.sl, hq.norm, by rw [hv]; simp⟩
set_option maxHeartbeats 1000000
theorem text_ok (k : Nat) {h : HF} {n : Nat} {n1 n2 d1 d2 : Value} {q : Rat} {ln ld : List Nat} (hq : RatR h n n1 n2 d1 d2 q ln ld) (hb : ln.length < 1000000 ∧ ld.length < 1000000) : VF (cal (k + 4)) 31 [.agg #[n1, n2, d1, d2]] h n fun v => v = .string ⟨⟨ratT q⟩⟩ := by
  refine CF_flat (fn := Tryz.f31) rfl rfl rfl rfl ?_
  have hnum := hq.num
  have hneg := hnum.neg
  subst hneg
  obtain ⟨aD, lenD, capD, rfl, hlenD⟩ := hq.sl.len
  have hlD : lenD = ld.length := by rw [u32s_len] at hlenD; omega
  subst hlD
  have hln := decT_len hnum.norm.1
  rw [hnum.val] at hln
  simp only [NV, Nat.reduceEqDiff, reduceCtorEq]
  refine st_mkp (cs := [.bool (decide (q.num < 0)), n2, d1, .slice aD ld.length capD]) rfl rfl rfl rfl rfl ?_
  repeat refine zR ?_
  simp only [NV, Nat.reduceEqDiff, reduceCtorEq]
  repeat refine zR ?_
  refine st_load (v := .agg #[.bool (decide (q.num < 0)), n2]) rfl rfl rfl rfl rfl (loadn_eq rfl rfl (upd_same _ _ _) rfl (Nat.le_of_ble_eq_true rfl) rfl) ?_
  refine st_vf _ rfl rfl rfl rfl rfl (digits_ok k (hnum.ext (Ext.upd (by omega)) (by omega)) hb.1) ?_
  rintro _ rfl
  rw [decStr_eq]
  repeat refine zR ?_
  simp only [NV, Nat.reduceEqDiff, reduceCtorEq]
  repeat refine zR ?_
  refine st_load1 rfl rfl rfl rfl rfl rfl (upd_same _ _ _) rfl (v := .bool (decide (q.num < 0))) rfl ?_
  simp only [NV, Nat.reduceEqDiff, reduceCtorEq]
  generalize hh : upd h (3 * n + 2) _ = h1
  have hext : Ext n h h1 := by rw [← hh]; exact Ext.upd (by omega)
  have hbox : ∃ e, h1 (3 * n + 2) = some (.row [.bool (decide (q.num < 0)), n2, d1, .slice aD ld.length capD] e) := ⟨_, by rw [← hh, upd_same]⟩
  refine EC_cut [(1, .pointer (some ⟨3 * n + 2, 0, none⟩)), (3, .string ⟨⟨(if q.num < 0 then [45] else []) ++ decT q.num.natAbs⟩⟩)] (fun h' n' w => h1 = h' ∧ n' = n + 1 ∧ w = []) ?_ ?_
  · by_cases hn : q.num < 0
    · rw [EC_cond_true (by show Value.bool (decide (q.num < 0)) = _; rw [decide_eq_true hn])]
      simp only [NV, Nat.reduceEqDiff, reduceCtorEq]
      repeat refine zR ?_
      refine st_cat (a := [45]) rfl rfl rfl rfl rfl rfl (by simp; omega) ?_
      repeat refine zR ?_
      simp only [NV, Nat.reduceEqDiff, reduceCtorEq]
      exact cut_mk ⟨rfl, by rw [if_pos hn]; rfl, trivial⟩ ⟨rfl, rfl, rfl⟩
    · rw [EC_cond_false (by show Value.bool (decide (q.num < 0)) = _; rw [decide_eq_false hn])]
      simp only [NV, Nat.reduceEqDiff, reduceCtorEq]
      exact cut_mk ⟨rfl, by rw [if_neg hn]; rfl, trivial⟩ ⟨rfl, rfl, rfl⟩
  · rintro t _ _ _ ⟨rfl, rfl, rfl⟩
    obtain ⟨e, hbox⟩ := hbox
    simp only [NV, Nat.reduceEqDiff, reduceCtorEq]
    repeat refine zR ?_
    refine st_load1 rfl rfl rfl rfl rfl rfl hbox rfl (v := .slice aD ld.length capD) rfl ?_
    have hld0 : ld.length = 0 ↔ q.den = 1 := by
      rw [List.length_eq_zero_iff, ← hq.norm.zero, hq.val]
      have := q.den_pos
      split <;> omega
    by_cases hd : q.den = 1
    · have := hld0.2 hd
      repeat refine zR ?_
      simp only [NV, Nat.reduceEqDiff, reduceCtorEq]
      rw [EC_cond_false rfl]
      simp only [NV, Nat.reduceEqDiff, reduceCtorEq]
      repeat refine zR ?_
      simp only [NV, Nat.reduceEqDiff, reduceCtorEq]
      exact retF _ rfl (resF_tmp rfl) rfl rfl (by rw [ratT, if_pos hd, List.append_nil]; rfl)
    · have hld1 : ¬ ld.length = 0 := fun e => hd (hld0.1 e)
      have hden := IntR.of_den hq hd
      have hlD := decT_len hden.norm.1
      rw [hden.val, Int.natAbs_natCast] at hlD
      repeat refine zR ?_
      simp only [NV, Nat.reduceEqDiff, reduceCtorEq]
      rw [EC_cond_true rfl]
      simp only [NV, Nat.reduceEqDiff, reduceCtorEq]
      repeat refine zR ?_
      refine st_load (v := .agg #[d1, .slice aD ld.length capD]) rfl rfl rfl rfl rfl (loadn_eq rfl rfl hbox rfl (Nat.le_of_ble_eq_true rfl) rfl) ?_
      refine st_vf _ rfl rfl rfl rfl rfl (digits_ok k (hden.ext hext (by omega)) hb.2) ?_
      rintro _ rfl
      rw [decStr_eq, Int.natAbs_natCast]
      refine st_cat (a := [47]) rfl rfl rfl rfl rfl rfl (by simp; omega) ?_
      refine st_cat rfl rfl rfl rfl rfl rfl ?_ ?_
      · simp only [List.length_append, List.length_cons, List.length_nil]
        split <;> simp <;> omega
      repeat refine zR ?_
      simp only [NV, Nat.reduceEqDiff, reduceCtorEq]
      repeat refine zR ?_
      simp only [NV, Nat.reduceEqDiff, reduceCtorEq]
      exact retF _ rfl (resF_tmp rfl) rfl rfl (by rw [ratT, if_neg hd]; show Value.string ⟨⟨((if q.num < 0 then [45] else []) ++ decT q.num.natAbs) ++ ([47] ++ decT q.den)⟩⟩ = _; rw [List.append_assoc]; rfl)
end Go.Proofs.YtokfihhdllmbmaaGreatDoor
namespace Go.Proofs.YtokfihhdllmbmaaGreatDoor
open Go Go.GL
def qOp (E : Env) : Op → Bool
  | .convert _ d _ => (match E.und d with | some (.int _) => true | _ => false)
  | o => Nat.blt (cls o) 2
theorem qOp_or {E : Env} {o : Op} (h : qOp E o = true) : cls o < 2 ∨ ∃ t d x k, o = .convert t d x ∧ E.und d = some (.int k) := by
  unfold qOp at h
  split at h
  · rename_i t d x
    split at h
    · rename_i k hk
      exact .inr ⟨t, d, x, k, rfl, hk⟩
    · cases h
  · exact .inl (Nat.le_of_ble_eq_true h)
theorem bytesMk_int {E : Env} {t d : TypeId} {k : IntKind} (h : E.und d = some (.int k)) (v : Value) : bytesMk E t d v = none := by
  unfold bytesMk
  rw [h]
  split <;> simp_all
theorem textF_int {E : Env} {t d : TypeId} {k : IntKind} (h : E.und d = some (.int k)) (v : Value) (g : HF) : textF E t d v g = none := by
  unfold textF
  rw [h]
  split <;> simp_all
theorem draw_quietC {X : CtxF} {ops : List Oper} : ∀ (l : List Oper) (ms : List Nat) (i : Nat) (s : SV) (ld : List (Nat × Nat)), l.length ≤ ms.length → l.all (fun o => qOp X.E o.op) = true → drawOpsF X ops l ms i ⟨s, [], ld, []⟩ = seqF X ops l s := by
  intro l
  induction l with
  | nil => intro ms i s ld _ _; simp [drawOpsF, seqF]
  | cons o l ih =>
    intro ms i s ld hl hq
    cases ms with
    | nil => simp at hl
    | cons m ms =>
      simp only [List.all_cons, Bool.and_eq_true] at hq
      have hl' : l.length ≤ ms.length := by simpa using hl
      unfold drawOpsF seqF
      simp only
      cases hw : wantsF ops s.t o with
      | false =>
        simp only
        congr 1
        funext s1
        exact ih ms (i + 1) s1 ld hl' hq.2
      | true =>
        simp only
        unfold drawF opF
        rcases qOp_or hq.1 with hlt | ⟨t, d, x, k, ho, hk⟩
        · cases hc : cls o.op with
          | zero =>
            simp only [hc]
            cases pureE X.E o.op (evF s.t) with
            | none => rfl
            | some v =>
              simp only
              congr 1
              funext s1
              exact ih ms (i + 1) s1 ld hl' hq.2
          | succ c =>
            cases c with
            | zero =>
              simp only [hc, readAtF]
              cases loadF X.E o.op (evF s.t) s.h with
              | none => rfl
              | some vb =>
                obtain ⟨v, b⟩ := vb
                simp only [okEffsF, okAls, Bool.and_self]
                congr 1
                funext s1
                exact ih ms (i + 1) s1 _ hl' hq.2
            | succ c => omega
        · have hc : cls o.op = 4 := by rw [ho]; rfl
          have hm : mkE X.E o.op (evF s.t) = none := by rw [ho]; exact bytesMk_int hk _
          simp only [hc, hm]
          cases hp : pureE X.E o.op (evF s.t) with
          | none =>
            rw [ho]
            simp only [textF_int hk]
          | some v =>
            rw [ho]
            simp only [textF_int hk]
            congr 1
            funext s1
            exact ih ms (i + 1) s1 ld hl' hq.2
theorem EC_quietC {X : CtxF} {id : Nat} {ops : Array Oper} {s : SV} {Q : Ex → SV → Prop} (hq : ops.toList.all (fun o => qOp X.E o.op) = true) : EC X (.region id ops true) s Q ↔ EO X ops.toList ops.toList s (Q .normal) := by
  unfold EC EO
  rw [execF]
  rw [draw_quietC _ _ _ _ _ (by rw [masks_len]; simp) hq]
  cases h : seqF X ops.toList ops.toList s with
  | none => simp
  | some r => simp only [ex_some]; simp
section
variable {X : CtxF} {ops r : List Oper} {t : TF} {h : HF} {n : Nat} {w : List Nat} {Q : SV → Prop} {o o2 : Oper} {d a : Tmp}
theorem st_at {α : Type} {f : α → Value} {l : List α} {j m : Nat} {dv : α} {ty e e2 : TypeId} {x i : Operand} {v : Value} {bt : Nat} {z : Value} {ik : IntKind} {ji : Int} (hw : wantsF ops t o = true) (hd : o.dst = some a) (hn : dstOk X.nt (some a) = true) (ho : o.op = .indexAddr ty x i) (hu : X.E.und ty = some (.slice e)) (hi : X.E.inf e = some (1, bt, z))
    (hx : evF t x = v) (hs : Sl h m 1 v (l.map f)) (hj : evF t i = .int ik ji) (hji : ji = (j : Int)) (hg : l[j]? = some dv)
    (hw2 : ∀ p, wantsF ops (upd t a p) o2 = true) (hd2 : o2.dst = some d) (hn2 : dstOk X.nt (some d) = true) (ho2 : o2.op = .load e2 (.tmp a)) (ha : GL.isAgg X.E e2 = some false)
    (k : ∀ p, EO X ops r ⟨upd (upd t a p) d (f dv), h, n, w⟩ Q) : EO X ops (o :: o2 :: r) ⟨t, h, n, w⟩ Q := by
  subst hji
  have hlt := (List.getElem?_eq_some_iff.1 hg).1
  obtain ⟨ad, len, cap, rfl, hl⟩ := hs.len
  simp only [List.length_map, Nat.mul_one] at hl
  obtain ⟨b, off, xb, cs, rfl, _, hxb, hc, _, hle, he⟩ := hs.inv (by omega)
  have hcell : cs[off + j]? = some (f dv) := cell_at he (by rw [List.getElem?_map, hg]; rfl)
  refine st_idx hw hd hn ho hu hi hx hj (by omega) ?_
  refine st_load1 (hw2 _) hd2 hn2 ho2 ha (upd_same _ _ _) hxb hc (v := f dv) (by rw [← hcell]; congr 1; omega) ?_
  exact k _
theorem st_cv64 {ty e : TypeId} {x : Operand} {ik : IntKind} {c : Nat} {D : TD} (hw : wantsF ops t o = true) (hd : o.dst = some d) (hn : dstOk X.nt (some d) = true) (ho : o.op = .convert ty e x) (hx : evF t x = .int ik (c : Int)) (ht : X.E.und ty = some D) (he : X.E.und e = some (.int .u64)) (hc : c < 18446744073709551616)
    (k : EO X ops r ⟨upd t d (.int .u64 (c : Int)), h, n, w⟩ Q) : EO X ops (o :: r) ⟨t, h, n, w⟩ Q := by
  refine st_conv_u64 hw hd hn ho hx ht he ?_
  rw [Nat.mod_eq_of_lt hc]
  exact k
theorem st_cv32 {ty e : TypeId} {x : Operand} {ik : IntKind} {c : Nat} {D : TD} (hw : wantsF ops t o = true) (hd : o.dst = some d) (hn : dstOk X.nt (some d) = true) (ho : o.op = .convert ty e x) (hx : evF t x = .int ik (c : Int)) (ht : X.E.und ty = some D) (he : X.E.und e = some (.int .u32)) (hc : c < 4294967296)
    (k : EO X ops r ⟨upd t d (.int .u32 (c : Int)), h, n, w⟩ Q) : EO X ops (o :: r) ⟨t, h, n, w⟩ Q := by
  refine st_conv_u32 hw hd hn ho hx ht he ?_
  rw [Nat.mod_eq_of_lt hc]
  exact k
theorem zU {d : Tmp} {v : Value} (k : EO X ops r ⟨upd t d v, h, n, w⟩ Q) (f : EO X ops r ⟨upd t d v, h, n, w⟩ Q → EO X ops (o :: r) ⟨t, h, n, w⟩ Q := by first | exact st_ltT rfl rfl rfl rfl rfl rfl (by omega) | exact st_ltF rfl rfl rfl rfl rfl rfl (by omega) | exact st_leT rfl rfl rfl rfl rfl rfl (by omega) | exact st_leF rfl rfl rfl rfl rfl rfl (by omega) | exact st_gtT rfl rfl rfl rfl rfl rfl (by omega) | exact st_gtF rfl rfl rfl rfl rfl rfl (by omega) | exact st_geT rfl rfl rfl rfl rfl rfl (by omega) | exact st_geF rfl rfl rfl rfl rfl rfl (by omega) | exact st_eqT rfl rfl rfl rfl rfl rfl (by omega) | exact st_eqF rfl rfl rfl rfl rfl rfl (by omega) | exact st_neqT rfl rfl rfl rfl rfl rfl (by omega) | exact st_neqF rfl rfl rfl rfl rfl rfl (by omega) | exact st_lt rfl rfl rfl rfl rfl rfl | exact st_le rfl rfl rfl rfl rfl rfl | exact st_gt rfl rfl rfl rfl rfl rfl | exact st_ge rfl rfl rfl rfl rfl rfl | exact st_eq rfl rfl rfl rfl rfl rfl | exact st_neq rfl rfl rfl rfl rfl rfl | exact st_add rfl rfl rfl rfl rfl rfl (by omega) | exact st_sub rfl rfl rfl rfl rfl rfl (by omega) | exact st_cv64 rfl rfl rfl rfl rfl rfl rfl (by omega) | exact st_cv32 rfl rfl rfl rfl rfl rfl rfl (by omega) | exact st_add_u64 rfl rfl rfl rfl rfl rfl (by omega) | exact st_add_u32 rfl rfl rfl rfl rfl rfl (by omega) | exact st_sub_u64 rfl rfl rfl rfl rfl rfl (by omega) | exact st_sub_u64 (b := 1) rfl rfl rfl rfl rfl rfl (by omega) | exact st_sub_u32 rfl rfl rfl rfl rfl rfl (by omega) | exact st_mul_u64 rfl rfl rfl rfl rfl rfl (by omega) | exact st_mul_u32 rfl rfl rfl rfl rfl rfl (by omega) | exact st_shr_u64 (s := 32) rfl rfl rfl rfl rfl rfl (by omega) | exact st_I rfl rfl rfl rfl rfl | exact st_B rfl rfl rfl rfl rfl | exact st_S rfl rfl rfl rfl rfl | exact st_P rfl rfl rfl rfl rfl | exact st_T rfl rfl rfl rfl rfl | exact st_A rfl rfl rfl rfl rfl | exact st_U rfl rfl rfl rfl rfl | exact st_val (v := .pointer none) rfl rfl rfl rfl rfl | exact st_off rfl rfl rfl) : EO X ops (o :: r) ⟨t, h, n, w⟩ Q := f k
theorem splice_one (c : List Value) (j : Nat) (v : Value) (h : j < c.length) : spliceAt c j [v] = c.set j v := by
  unfold spliceAt
  rw [List.set_eq_take_append_cons_drop, if_pos h]
  rfl
theorem st_put {j b len cap : Nat} {c : List Value} {ty e e2 e3 : TypeId} {x i y : Operand} {v z : Value} {bt bt2 : Nat} {z2 : Value} {ik : IntKind} {ji : Int} (hw : wantsF ops t o = true) (hd : o.dst = some a) (hn : dstOk X.nt (some a) = true) (ho : o.op = .indexAddr ty x i) (hu : X.E.und ty = some (.slice e)) (hi : X.E.inf e = some (1, bt, z))
    (hx : evF t x = .slice (some ⟨b, 0, none⟩) len cap) (hj : evF t i = .int ik ji) (hji : ji = (j : Int)) (hjl : j < len ∧ j < c.length) (hb : h b = some (.row c e3)) (hnew : 3 * X.n0 ≤ b)
    (hw2 : ∀ p, wantsF ops (upd t a p) o2 = true) (hd2 : o2.dst = none) (ho2 : o2.op = .store e2 (.tmp a) y) (hi2 : X.E.inf e2 = some (1, bt2, z2)) (hy : ∀ p, vcells (evF (upd t a p) y) = [v]) (h1 : ones [v] = true)
    (k : ∀ p, EO X ops r ⟨upd t a p, upd h b (some (.row (c.set j v) e3)), n, w⟩ Q) : EO X ops (o :: o2 :: r) ⟨t, h, n, w⟩ Q := by
  subst hji
  refine st_idx hw hd hn ho hu hi hx hj (by omega) ?_
  refine st_storeN (hw2 _) hd2 ho2 hi2 (upd_same _ _ _) (hy _) rfl h1 hb (by omega) hnew ?_
  rw [show 0 + (j : Int).toNat * 1 = j from by omega, splice_one c j v hjl.2]
  exact k _
end
theorem u32s_set (l : List Nat) (j d : Nat) : (u32s l).set j (.int .u32 (d : Int)) = u32s (l.set j d) := by
  unfold u32s
  rw [List.map_set]
theorem rep_zero (n : Nat) : rep n [Value.int .u32 0] = u32s (List.replicate n 0) := by
  induction n with
  | zero => rfl
  | succ n ih =>
    rw [rep, ih, List.replicate_succ]
    rfl
def dv (B : Nat) : List Nat → Nat
  | [] => 0
  | d :: r => d + B * dv B r
theorem val_dv (l : List Nat) : val l = dv 4294967296 l := by
  induction l with
  | nil => rfl
  | cons d l ih => rw [val, dv, ih]
theorem dv_append (B : Nat) (a b : List Nat) : dv B (a ++ b) = dv B a + B ^ a.length * dv B b := by
  induction a with
  | nil => simp [dv]
  | cons d a ih =>
    simp only [List.cons_append, dv, ih, List.length_cons, Nat.pow_succ, Nat.mul_add]
    rw [← Nat.mul_assoc, Nat.mul_comm (B ^ a.length) B]
    omega
theorem dv_snoc (B : Nat) (a : List Nat) (d : Nat) : dv B (a ++ [d]) = dv B a + B ^ a.length * d := by
  rw [dv_append]
  simp [dv]
theorem dv_lt {B : Nat} {l : List Nat} (h : ∀ d ∈ l, d < B) : dv B l < B ^ l.length := by
  induction l with
  | nil => simp [dv]
  | cons d l ih =>
    have h1 := h d (by simp)
    have h2 := ih fun x hx => h x (by simp [hx])
    simp only [dv, List.length_cons, Nat.pow_succ]
    have h3 : B * (dv B l + 1) ≤ B * B ^ l.length := Nat.mul_le_mul_left B h2
    rw [Nat.mul_add, Nat.mul_one] at h3
    rw [Nat.mul_comm (B ^ l.length) B]
    omega
theorem dv_replicate (B n : Nat) : dv B (List.replicate n 0) = 0 := by
  induction n with
  | zero => rfl
  | succ n ih => rw [List.replicate_succ, dv, ih]; simp
theorem dv_set {B : Nat} : ∀ {l : List Nat} {j o : Nat} (d : Nat), l[j]? = some o → dv B (l.set j d) + o * B ^ j = dv B l + d * B ^ j := by
  intro l
  induction l with
  | nil => intro j o d h; simp at h
  | cons x l ih =>
    intro j o d h
    cases j with
    | zero =>
      simp only [List.getElem?_cons_zero, Option.some.injEq] at h
      subst h
      simp only [List.set_cons_zero, dv, Nat.pow_zero, Nat.mul_one]
      omega
    | succ j =>
      simp only [List.getElem?_cons_succ] at h
      have := ih d h
      simp only [List.set_cons_succ, dv, Nat.pow_succ]
      have e : B * (dv B (l.set j d) + o * B ^ j) = B * (dv B l + d * B ^ j) := by rw [this]
      rw [Nat.mul_add, Nat.mul_add] at e
      have e1 : o * (B ^ j * B) = B * (o * B ^ j) := by rw [Nat.mul_comm (B ^ j) B, Nat.mul_left_comm]
      have e2 : d * (B ^ j * B) = B * (d * B ^ j) := by rw [Nat.mul_comm (B ^ j) B, Nat.mul_left_comm]
      rw [e1, e2]
      omega
theorem take_succ_get {l : List Nat} {j d : Nat} (h : l[j]? = some d) : l.take (j + 1) = l.take j ++ [d] := by
  obtain ⟨hlt, rfl⟩ := List.getElem?_eq_some_iff.1 h
  rw [List.take_succ_eq_append_getElem hlt]
theorem dv_take_succ {B : Nat} {l : List Nat} {j d : Nat} (h : l[j]? = some d) : dv B (l.take (j + 1)) = dv B (l.take j) + B ^ j * d := by
  have hlt := (List.getElem?_eq_some_iff.1 h).1
  rw [take_succ_get h, dv_snoc, List.length_take, Nat.min_eq_left (by omega)]
theorem set_next (D : List Nat) (m d : Nat) : (D ++ List.replicate (m + 1) 0).set D.length d = (D ++ [d]) ++ List.replicate m 0 := by
  rw [List.replicate_succ, List.set_append_right _ _ (Nat.le_refl _)]
  simp
theorem carry_step {B P V V' c p d c' : Nat} (h : V' = V + d * P) (hx : B * c' + d = c + p) : V' + c' * (P * B) = V + c * P + p * P := by
  subst h
  have e : (B * c' + d) * P = (c + p) * P := by rw [hx]
  rw [Nat.add_mul, Nat.add_mul] at e
  have e1 : c' * (P * B) = B * c' * P := by rw [Nat.mul_comm P B, ← Nat.mul_assoc, Nat.mul_comm c' B]
  rw [e1]
  omega
end Go.Proofs.YtokfihhdllmbmaaGreatDoor
namespace Go.Proofs.YtokfihhdllmbmaaGreatDoor
open Go Go.GL
def cmpZ (a b : Nat) : Int := if a < b then -1 else if a = b then 0 else 1
theorem cmpZ_lt {a b : Nat} (h : a < b) : cmpZ a b = -1 := by unfold cmpZ; rw [if_pos h]
theorem cmpZ_eq (a : Nat) : cmpZ a a = 0 := by unfold cmpZ; rw [if_neg (Nat.lt_irrefl _), if_pos rfl]
theorem cmpZ_gt {a b : Nat} (h : b < a) : cmpZ a b = 1 := by unfold cmpZ; rw [if_neg (by omega), if_neg (by omega)]
theorem dv_low {B : Nat} {l : List Nat} {d : Nat} (hd : d ≠ 0) : B ^ l.length ≤ dv B (l ++ [d]) := by
  rw [dv_snoc]
  have : B ^ l.length * 1 ≤ B ^ l.length * d := Nat.mul_le_mul_left _ (by omega)
  omega
theorem Norm.len_lt {A B : List Nat} (hA : Norm A) (hB : Norm B) (h : A.length < B.length) : val A < val B := by
  obtain ⟨i, d, rfl⟩ := snoc (l := B) (by intro e; rw [e] at h; simp at h)
  rw [val_dv, val_dv]
  have h1 := dv_lt (B := 4294967296) hA.1
  have h2 := dv_low (B := 4294967296) (l := i) hB.last
  have h3 : 4294967296 ^ A.length ≤ 4294967296 ^ i.length := Nat.pow_le_pow_right (by omega) (by simp at h; omega)
  omega
theorem split_at {l : List Nat} {j d : Nat} (h : l[j]? = some d) : l = l.take j ++ (d :: l.drop (j + 1)) := by
  have := List.take_append_drop j l
  rw [drop_cons h] at this
  exact this.symm
theorem dv_digit_lt {B : Nat} {A C : List Nat} {j x y : Nat} (hA : ∀ d ∈ A, d < B) (hx : A[j]? = some x) (hy : C[j]? = some y) (hd : A.drop (j + 1) = C.drop (j + 1)) (h : x < y) : dv B A < dv B C := by
  have hl1 := (List.getElem?_eq_some_iff.1 hx).1
  have hl2 := (List.getElem?_eq_some_iff.1 hy).1
  rw [split_at hx, split_at hy, dv_append, dv_append, hd, List.length_take, List.length_take, Nat.min_eq_left (by omega), Nat.min_eq_left (by omega)]
  simp only [dv]
  have h1 : dv B (A.take j) < B ^ j := by
    have := dv_lt (B := B) (l := A.take j) fun d hd => hA d (List.mem_of_mem_take hd)
    rw [List.length_take, Nat.min_eq_left (by omega)] at this
    exact this
  have h2 : B ^ j * (x + B * dv B (C.drop (j + 1)) + 1) ≤ B ^ j * (y + B * dv B (C.drop (j + 1))) := Nat.mul_le_mul_left _ (by omega)
  rw [Nat.mul_add, Nat.mul_one] at h2
  omega
theorem Sl.lenU {h : HF} {n : Nat} {a : Option Addr} {len cap : Nat} {l : List Nat} (hv : Sl h n 1 (.slice a len cap) (u32s l)) : len = l.length := by
  obtain ⟨a', len', cap', e, hl⟩ := hv.len
  rw [u32s_len] at hl
  injection e with e1 e2 e3
  omega
set_option maxHeartbeats 1000000
theorem cmpMag_ok (k : Nat) {h : HF} {n : Nat} {a1 a2 : Option Addr} {l1 c1 l2 c2 : Nat} {A C : List Nat} (hA : Sl h n 1 (.slice a1 l1 c1) (u32s A)) (hC : Sl h n 1 (.slice a2 l2 c2) (u32s C)) (nA : Norm A) (nC : Norm C) (hb : A.length < 1000000000000) :
    VF (cal (k + 1)) 159 [.slice a1 l1 c1, .slice a2 l2 c2] h n fun v => v = .int .i64 (cmpZ (val A) (val C)) := by
  refine CF_flat (fn := Tryz.f159) rfl rfl rfl rfl ?_
  have e1 := hA.lenU
  have e2 := hC.lenU
  subst e1 e2
  simp only [NV, Nat.reduceEqDiff, reduceCtorEq]
  repeat refine zR ?_
  simp only [NV, Nat.reduceEqDiff, reduceCtorEq]
  by_cases hlen : A.length = C.length
  · repeat refine zR ?_
    simp only [NV, Nat.reduceEqDiff, reduceCtorEq]
    rw [EC_cond_false rfl]
    simp only [NV, Nat.reduceEqDiff, reduceCtorEq]
    repeat refine zR ?_
    simp only [NV, Nat.reduceEqDiff, reduceCtorEq]
    refine EC_for (α := Nat) (fun j => [(0, .slice a1 A.length c1), (1, .slice a2 C.length c2), (5, .int .i64 ((j : Int) - 1))]) (fun j h' n' w => h' = h ∧ n' = n ∧ w = [] ∧ j ≤ A.length ∧ A.drop j = C.drop j) (fun j => j) A.length ⟨rfl, rfl, rfl, trivial⟩ ⟨rfl, rfl, rfl, Nat.le_refl _, by rw [List.drop_length, hlen, List.drop_length]⟩ (by show A.length < LL; unfold LL; omega) ?_
    rintro j t _ _ _ ⟨rfl, rfl, rfl, hj, hd⟩
    simp only [NV, Nat.reduceEqDiff, reduceCtorEq]
    cases j with
    | zero =>
      repeat refine zR ?_
      simp only [NV, Nat.reduceEqDiff, reduceCtorEq]
      rw [EC_cond_false rfl]
      simp only [NV, Nat.reduceEqDiff, reduceCtorEq]
      repeat refine zR ?_
      simp only [NV, Nat.reduceEqDiff, reduceCtorEq]
      have hd' : A = C := hd
      subst hd'
      rw [cmpZ_eq]
      exact retF _ rfl (resF_tmp rfl) rfl rfl rfl
    | succ j =>
      obtain ⟨x, hx⟩ : ∃ x, A[j]? = some x := ⟨A[j]'(by omega), List.getElem?_eq_getElem (by omega)⟩
      obtain ⟨y, hy⟩ : ∃ y, C[j]? = some y := ⟨C[j]'(by omega), List.getElem?_eq_getElem (by omega)⟩
      repeat refine zR ?_
      simp only [NV, Nat.reduceEqDiff, reduceCtorEq]
      rw [EC_cond_true rfl]
      simp only [NV, Nat.reduceEqDiff, reduceCtorEq]
      rw [EC_quiet rfl]
      repeat refine zR ?_
      refine st_at rfl rfl rfl rfl rfl rfl rfl hA rfl (by omega) hx (fun _ => rfl) rfl rfl rfl rfl fun _ => ?_
      repeat refine zR ?_
      refine st_at rfl rfl rfl rfl rfl rfl rfl hC rfl (by omega) hy (fun _ => rfl) rfl rfl rfl rfl fun _ => ?_
      by_cases hxy : x = y
      · repeat refine zR ?_
        simp only [NV, Nat.reduceEqDiff, reduceCtorEq]
        rw [EC_cond_false rfl]
        simp only [NV, Nat.reduceEqDiff, reduceCtorEq]
        repeat refine zR ?_
        simp only [NV, Nat.reduceEqDiff, reduceCtorEq]
        refine goOn j (by show j < j + 1; omega) ⟨rfl, rfl, by show Value.int .i64 _ = Value.int .i64 _; congr 1; omega, trivial⟩ ⟨rfl, rfl, rfl, by show j ≤ A.length; omega, ?_⟩
        rw [drop_cons hx, drop_cons hy, hxy, hd]
      · repeat refine zR ?_
        simp only [NV, Nat.reduceEqDiff, reduceCtorEq]
        rw [EC_cond_true rfl]
        simp only [NV, Nat.reduceEqDiff, reduceCtorEq]
        rw [EC_quiet rfl]
        repeat refine zR ?_
        refine st_at rfl rfl rfl rfl rfl rfl rfl hA rfl (by omega) hx (fun _ => rfl) rfl rfl rfl rfl fun _ => ?_
        repeat refine zR ?_
        refine st_at rfl rfl rfl rfl rfl rfl rfl hC rfl (by omega) hy (fun _ => rfl) rfl rfl rfl rfl fun _ => ?_
        by_cases hlt : x < y
        · repeat refine zR ?_
          simp only [NV, Nat.reduceEqDiff, reduceCtorEq]
          rw [EC_cond_true rfl]
          simp only [NV, Nat.reduceEqDiff, reduceCtorEq]
          repeat refine zR ?_
          simp only [NV, Nat.reduceEqDiff, reduceCtorEq]
          rw [cmpZ_lt (by rw [val_dv, val_dv]; exact dv_digit_lt nA.1 hx hy hd hlt)]
          exact retF _ rfl (resF_tmp rfl) rfl rfl rfl
        · repeat refine zR ?_
          simp only [NV, Nat.reduceEqDiff, reduceCtorEq]
          rw [EC_cond_false rfl]
          simp only [NV, Nat.reduceEqDiff, reduceCtorEq]
          repeat refine zR ?_
          simp only [NV, Nat.reduceEqDiff, reduceCtorEq]
          rw [cmpZ_gt (by rw [val_dv, val_dv]; exact dv_digit_lt nC.1 hy hx hd.symm (by omega))]
          exact retF _ rfl (resF_tmp rfl) rfl rfl rfl
  · repeat refine zR ?_
    simp only [NV, Nat.reduceEqDiff, reduceCtorEq]
    rw [EC_cond_true rfl]
    simp only [NV, Nat.reduceEqDiff, reduceCtorEq]
    by_cases hlt : A.length < C.length
    · repeat refine zR ?_
      simp only [NV, Nat.reduceEqDiff, reduceCtorEq]
      rw [EC_cond_true rfl]
      simp only [NV, Nat.reduceEqDiff, reduceCtorEq]
      repeat refine zR ?_
      simp only [NV, Nat.reduceEqDiff, reduceCtorEq]
      rw [cmpZ_lt (nA.len_lt nC hlt)]
      exact retF _ rfl (resF_tmp rfl) rfl rfl rfl
    · repeat refine zR ?_
      simp only [NV, Nat.reduceEqDiff, reduceCtorEq]
      rw [EC_cond_false rfl]
      simp only [NV, Nat.reduceEqDiff, reduceCtorEq]
      repeat refine zR ?_
      simp only [NV, Nat.reduceEqDiff, reduceCtorEq]
      rw [cmpZ_gt (nC.len_lt nA (by omega))]
      exact retF _ rfl (resF_tmp rfl) rfl rfl rfl
end Go.Proofs.YtokfihhdllmbmaaGreatDoor
namespace Go.Proofs.YtokfihhdllmbmaaGreatDoor
open Go Go.GL
def NewU (n : Nat) (h : HF) (v : Value) (h' : HF) (n' : Nat) (w : List Nat) (L : List Nat) : Prop := w = [] ∧ n ≤ n' ∧ Ext n h h' ∧ ∃ a' c', v = .slice a' L.length c' ∧ Sl h' n' 1 v (u32s L) ∧ Norm L ∧ Fresh n v
theorem dig_snoc {D : List Nat} {d : Nat} (h : Dig D) (hd : d < 4294967296) : Dig (D ++ [d]) := fun x hx => by
  rcases List.mem_append.1 hx with hx | hx
  · exact h x hx
  · simp at hx; omega
set_option maxHeartbeats 1000000
theorem addMag_ok (k : Nat) {h : HF} {n : Nat} {a1 a2 : Option Addr} {l1 c1 l2 c2 : Nat} {A C : List Nat} (hA : Sl h n 1 (.slice a1 l1 c1) (u32s A)) (hC : Sl h n 1 (.slice a2 l2 c2) (u32s C)) (dA : Dig A) (dC : Dig C) (hb : A.length < 1000000000 ∧ C.length < 1000000000) :
    CF (cal (k + 2)) 158 [.slice a1 l1 c1, .slice a2 l2 c2] h n fun v h' n' w => ∃ L, NewU n h v h' n' w L ∧ val L = val A + val C := by
  refine CF_heap (fn := Tryz.f158) rfl rfl rfl rfl ?_
  have e1 := hA.lenU
  have e2 := hC.lenU
  subst e1 e2
  simp only [NV, Nat.reduceEqDiff, reduceCtorEq]
  repeat refine zR ?_
  simp only [NV, Nat.reduceEqDiff, reduceCtorEq]
  repeat refine zR ?_
  simp only [NV, Nat.reduceEqDiff, reduceCtorEq]
  refine EC_cutx (α := (Option Addr × Nat × List Nat) × (Option Addr × Nat × List Nat)) (fun z => [(0, .slice z.1.1 z.1.2.2.length z.1.2.1), (1, .slice z.2.1 z.2.2.2.length z.2.2.1)])
    (fun z h' n' w => h = h' ∧ n = n' ∧ w = [] ∧ Sl h n 1 (.slice z.1.1 z.1.2.2.length z.1.2.1) (u32s z.1.2.2) ∧ Sl h n 1 (.slice z.2.1 z.2.2.2.length z.2.2.1) (u32s z.2.2.2) ∧ Dig z.1.2.2 ∧ Dig z.2.2.2 ∧ z.2.2.2.length ≤ z.1.2.2.length ∧ z.1.2.2.length < 1000000000 ∧ val z.1.2.2 + val z.2.2.2 = val A + val C) ?_ ?_
  · by_cases hlt : A.length < C.length
    · rw [EC_cond_true (by show Value.bool _ = _; rw [decide_eq_true (by omega)])]
      simp only [NV, Nat.reduceEqDiff, reduceCtorEq]
      repeat refine zR ?_
      simp only [NV, Nat.reduceEqDiff, reduceCtorEq]
      exact cutx_mk ((a2, c2, C), (a1, c1, A)) ⟨rfl, rfl, trivial⟩ ⟨rfl, rfl, rfl, hC, hA, dC, dA, by show A.length ≤ C.length; omega, hb.2, Nat.add_comm _ _⟩
    · rw [EC_cond_false (by show Value.bool _ = _; rw [decide_eq_false (by omega)])]
      simp only [NV, Nat.reduceEqDiff, reduceCtorEq]
      exact cutx_mk ((a1, c1, A), (a2, c2, C)) ⟨rfl, rfl, trivial⟩ ⟨rfl, rfl, rfl, hA, hC, dA, dC, by show C.length ≤ A.length; omega, hb.1, rfl⟩
  rintro ⟨⟨a1, c1, A'⟩, a2, c2, C'⟩ t _ _ _ ⟨rfl, rfl, rfl, hA, hC, dA, dC, hle, hb, hsum⟩
  simp only at hA hC dA dC hle hb hsum
  rw [← hsum]
  clear hsum
  simp only [NV, Nat.reduceEqDiff, reduceCtorEq]
  repeat refine zR ?_
  refine st_make (len := A'.length + 1) (cap := A'.length + 1) rfl rfl rfl rfl rfl rfl rfl rfl rfl (by omega) ?_
  rw [show vcells (Value.int .u32 0) = [Value.int .u32 0] from rfl, rep_zero]
  repeat refine zR ?_
  simp only [NV, Nat.reduceEqDiff, reduceCtorEq]
  repeat refine zR ?_
  simp only [NV, Nat.reduceEqDiff, reduceCtorEq]
  repeat refine zR ?_
  simp only [NV, Nat.reduceEqDiff, reduceCtorEq]
  refine EC_for (α := List Nat × Nat) (fun z => [(0, .slice a1 A'.length c1), (1, .slice a2 C'.length c2), (5, .slice (some ⟨3 * n + 2, 0, none⟩) (A'.length + 1) (A'.length + 1)), (6, .int .u64 (z.2 : Int)), (7, .int .i64 (z.1.length : Int))])
    (fun z h' n' w => n' = n + 1 ∧ w = [] ∧ Ext n h h' ∧ (∃ e, h' (3 * n + 2) = some (.row (u32s (z.1 ++ List.replicate (A'.length - z.1.length + 1) 0)) e)) ∧ z.1.length ≤ A'.length ∧ Dig z.1 ∧ z.2 ≤ 1 ∧ dv 4294967296 z.1 + z.2 * 4294967296 ^ z.1.length = dv 4294967296 (A'.take z.1.length) + dv 4294967296 (C'.take z.1.length)) (fun z => A'.length - z.1.length)
    ([], 0) ⟨rfl, rfl, rfl, rfl, rfl, trivial⟩ ⟨rfl, rfl, Ext.upd (by omega), ⟨_, upd_same _ _ _⟩, Nat.zero_le _, fun d hd => absurd hd List.not_mem_nil, by decide, by simp [dv]⟩ (by show A'.length - 0 < LL; unfold LL; omega) ?_
  rintro ⟨D, c⟩ t h1 _ _ ⟨rfl, rfl, hx1, ⟨e, hrow⟩, hD, dD, hc, hV⟩
  simp only at hrow hD dD hc hV
  simp only [NV, Nat.reduceEqDiff, reduceCtorEq]
  by_cases hi : D.length = A'.length
  · repeat refine zR ?_
    simp only [NV, Nat.reduceEqDiff, reduceCtorEq]
    rw [EC_cond_false rfl]
    simp only [NV, Nat.reduceEqDiff, reduceCtorEq]
    rw [hi, Nat.sub_self] at hrow
    repeat refine zU ?_
    refine st_put (j := A'.length) (v := .int .u32 (c : Int)) rfl rfl rfl rfl rfl rfl rfl rfl rfl (by rw [u32s_len]; simp; omega) hrow (by show 3 * n ≤ 3 * n + 2; omega) (fun _ => rfl) rfl rfl rfl (fun _ => rfl) rfl fun _ => ?_
    rw [u32s_set, ← hi, set_next, List.replicate_zero, List.append_nil]
    simp only [NV, Nat.reduceEqDiff, reduceCtorEq]
    repeat refine zR ?_
    refine st_call _ rfl rfl rfl rfl rfl (trim_ok k (l := D ++ [c]) (by simp; omega) (.at_ (by omega) (upd_same _ _ _) rfl (by omega) (by simp [u32s] <;> omega) (by rw [List.take_of_length_le (by simp [u32s] <;> omega)]; simp))) ?_
    rintro v' _ _ _ ⟨rfl, rfl, rfl, rfl, hs⟩
    repeat refine zR ?_
    simp only [NV, Nat.reduceEqDiff, reduceCtorEq]
    refine retH _ rfl (resF_tmp rfl) rfl ⟨trimL (D ++ [c]), ⟨rfl, by show n ≤ n + 1; omega, fun b hb => (upd_ne (by omega)).trans (hx1 b hb), _, _, rfl, hs, Norm.trim (dig_snoc dD (by omega)), by show 3 * n ≤ 3 * n + 2; omega⟩, ?_⟩
    rw [trimL_val, val_dv, dv_snoc, val_dv, val_dv, Nat.mul_comm]
    rw [hi, List.take_length, List.take_of_length_le hle, ← hi] at hV
    omega
  · obtain ⟨da, hda⟩ : ∃ x, A'[D.length]? = some x := ⟨A'[D.length]'(by omega), List.getElem?_eq_getElem (by omega)⟩
    have hda' : da < 4294967296 := dA da (List.mem_of_getElem? hda)
    have hA1 := hA.ext hx1 (Nat.le_succ n)
    have hC1 := hC.ext hx1 (Nat.le_succ n)
    repeat refine zR ?_
    simp only [NV, Nat.reduceEqDiff, reduceCtorEq]
    rw [EC_cond_true rfl]
    simp only [NV, Nat.reduceEqDiff, reduceCtorEq]
    repeat refine zR ?_
    refine st_at rfl rfl rfl rfl rfl rfl rfl hA1 rfl rfl hda (fun _ => rfl) rfl rfl rfl rfl fun _ => ?_
    repeat refine zU ?_
    simp only [NV, Nat.reduceEqDiff, reduceCtorEq]
    repeat refine zR ?_
    simp only [NV, Nat.reduceEqDiff, reduceCtorEq]
    have hcb : (C'[D.length]?).getD 0 < 4294967296 := by
      cases hc' : C'[D.length]? with
      | none => decide
      | some x => exact dC x (List.mem_of_getElem? hc')
    refine EC_cut [(0, .slice a1 A'.length c1), (1, .slice a2 C'.length c2), (5, .slice (some ⟨3 * n + 2, 0, none⟩) (A'.length + 1) (A'.length + 1)), (6, .int .u64 ((c + da + (C'[D.length]?).getD 0 : Nat) : Int)), (7, .int .i64 (D.length : Int))] (fun h' n' w => h1 = h' ∧ n' = n + 1 ∧ w = []) ?_ ?_
    · by_cases hj : D.length < C'.length
      · obtain ⟨dc, hdc⟩ : ∃ x, C'[D.length]? = some x := ⟨C'[D.length]'(by omega), List.getElem?_eq_getElem (by omega)⟩
        have hdc' : dc < 4294967296 := dC dc (List.mem_of_getElem? hdc)
        rw [EC_cond_true (by show Value.bool _ = _; rw [decide_eq_true (by omega)])]
        simp only [NV, Nat.reduceEqDiff, reduceCtorEq]
        repeat refine zR ?_
        refine st_at rfl rfl rfl rfl rfl rfl rfl hC1 rfl rfl hdc (fun _ => rfl) rfl rfl rfl rfl fun _ => ?_
        repeat refine zU ?_
        simp only [NV, Nat.reduceEqDiff, reduceCtorEq]
        rw [hdc]
        exact cut_mk ⟨rfl, rfl, rfl, rfl, rfl, trivial⟩ ⟨rfl, rfl, rfl⟩
      · rw [EC_cond_false (by show Value.bool _ = _; rw [decide_eq_false (by omega)])]
        simp only [NV, Nat.reduceEqDiff, reduceCtorEq]
        rw [List.getElem?_eq_none (by omega)]
        exact cut_mk ⟨rfl, rfl, rfl, rfl, rfl, trivial⟩ ⟨rfl, rfl, rfl⟩
    rintro t2 _ _ _ ⟨rfl, rfl, rfl⟩
    generalize hdc : (C'[D.length]?).getD 0 = dc at hcb ⊢
    simp only [NV, Nat.reduceEqDiff, reduceCtorEq]
    repeat refine zR ?_
    refine st_conv_u32 rfl rfl rfl rfl rfl rfl rfl ?_
    obtain ⟨m, hm⟩ : ∃ m, A'.length - D.length = m + 1 := ⟨A'.length - D.length - 1, by omega⟩
    rw [hm] at hrow
    refine st_put (j := D.length) (v := .int .u32 (((c + da + dc) % 4294967296 : Nat) : Int)) rfl rfl rfl rfl rfl rfl rfl rfl rfl (by simp [u32s_len]; omega) hrow (by show 3 * n ≤ 3 * n + 2; omega) (fun _ => rfl) rfl rfl rfl (fun _ => rfl) rfl fun _ => ?_
    rw [u32s_set, set_next]
    simp only [NV, Nat.reduceEqDiff, reduceCtorEq]
    repeat refine zU ?_
    simp only [NV, Nat.reduceEqDiff, reduceCtorEq]
    repeat refine zR ?_
    simp only [NV, Nat.reduceEqDiff, reduceCtorEq]
    refine goOn (D ++ [(c + da + dc) % 4294967296], (c + da + dc) / 4294967296) (by simp; omega) ⟨rfl, rfl, rfl, rfl, by show Value.int .i64 _ = Value.int .i64 _; simp, trivial⟩ ⟨rfl, rfl, fun b hb => (upd_ne (by omega)).trans (hx1 b hb), ⟨e, (upd_same _ _ _).trans (by show some (BF.row (u32s (D ++ [_] ++ List.replicate (m + 1) 0)) e) = some (BF.row (u32s (D ++ [_] ++ List.replicate (A'.length - (D ++ [_]).length + 1) 0)) e); rw [List.length_append, List.length_singleton, show A'.length - (D.length + 1) + 1 = m + 1 from by omega])⟩, by simp; omega, dig_snoc dD (Nat.mod_lt _ (by omega)), by show _ / _ ≤ 1; omega, ?_⟩
    have e2 : dv 4294967296 (C'.take (D.length + 1)) = dv 4294967296 (C'.take D.length) + 4294967296 ^ D.length * dc := by
      by_cases hj : D.length < C'.length
      · have : C'[D.length]? = some dc := by rw [← hdc, List.getElem?_eq_getElem hj]; rfl
        exact dv_take_succ this
      · rw [List.getElem?_eq_none (by omega)] at hdc
        simp only [Option.getD_none] at hdc
        rw [List.take_of_length_le (by omega), List.take_of_length_le (by omega), ← hdc]
        simp
    show dv 4294967296 (D ++ [_]) + _ * 4294967296 ^ (D ++ [_]).length = dv 4294967296 (A'.take (D ++ [_]).length) + dv 4294967296 (C'.take (D ++ [_]).length)
    simp only [List.length_append, List.length_singleton]
    rw [dv_take_succ hda, e2, Nat.pow_succ]
    have := carry_step (B := 4294967296) (P := 4294967296 ^ D.length) (V := dv 4294967296 D) (V' := dv 4294967296 (D ++ [(c + da + dc) % 4294967296])) (c := c) (p := da + dc) (by rw [dv_snoc, Nat.mul_comm]) (c' := (c + da + dc) / 4294967296) (by omega)
    rw [this, Nat.add_mul da dc, Nat.mul_comm da, Nat.mul_comm dc]
    omega
end Go.Proofs.YtokfihhdllmbmaaGreatDoor
namespace Go.Proofs.YtokfihhdllmbmaaGreatDoor
open Go Go.GL
theorem carry_set {B P V V' o c p d c' : Nat} (h : V' + o * P = V + d * P) (hx : B * c' + d = c + p + o) : V' + c' * (P * B) = V + c * P + p * P := by
  have e : (B * c' + d) * P = (c + p + o) * P := by rw [hx]
  rw [Nat.add_mul, Nat.add_mul, Nat.add_mul] at e
  have e1 : c' * (P * B) = B * c' * P := by rw [Nat.mul_comm P B, ← Nat.mul_assoc, Nat.mul_comm c' B]
  rw [e1]
  omega
theorem Sl.own {h : HF} {m b len cap : Nat} {e : TypeId} {O : List Nat} (hrow : h b = some (.row (u32s O) e)) (hb : b < 3 * m) (hl : O.length = len) (hc : len ≤ cap) : Sl h m 1 (.slice (some ⟨b, 0, none⟩) len cap) (u32s O) :=
  .at_ hb hrow rfl hc (by rw [u32s_len]; omega) (by rw [List.drop_zero, List.take_of_length_le (by rw [u32s_len]; omega)])
theorem dig_set {O : List Nat} {j d : Nat} (h : Dig O) (hd : d < 4294967296) : Dig (O.set j d) := fun x hx => by
  rcases List.mem_or_eq_of_mem_set hx with hx | hx
  · exact h x hx
  · omega
set_option maxHeartbeats 1000000
theorem mulMag_ok (k : Nat) {h : HF} {n : Nat} {a1 a2 : Option Addr} {l1 c1 l2 c2 : Nat} {A C : List Nat} (hA : Sl h n 1 (.slice a1 l1 c1) (u32s A)) (hC : Sl h n 1 (.slice a2 l2 c2) (u32s C)) (dA : Dig A) (dC : Dig C) (hb : A.length < 1000000000 ∧ C.length < 1000000000) :
    CF (cal (k + 2)) 153 [.slice a1 l1 c1, .slice a2 l2 c2] h n fun v h' n' w => ∃ L, NewU n h v h' n' w L ∧ val L = val A * val C := by
  refine CF_heap (fn := Tryz.f153) rfl rfl rfl rfl ?_
  have e1 := hA.lenU
  have e2 := hC.lenU
  subst e1 e2
  simp only [NV, Nat.reduceEqDiff, reduceCtorEq]
  repeat refine zR ?_
  simp only [NV, Nat.reduceEqDiff, reduceCtorEq]
  by_cases h0 : A.length = 0 ∨ C.length = 0
  · have hz : val A * val C = 0 := by
      rcases h0 with h0 | h0
      · rw [List.length_eq_zero_iff.1 h0]; simp [val]
      · rw [List.length_eq_zero_iff.1 h0]; simp [val]
    have fin : ∀ t : TF, t 4 = .slice none 0 0 → RetH Tryz.f153 (fun v h' n' w => ∃ L, NewU n h v h' n' w L ∧ val L = val A * val C) .ret ⟨t, h, n, []⟩ := fun t ht =>
      retH [.slice none 0 0] rfl (resF_tmp ht) rfl ⟨[], ⟨rfl, Nat.le_refl _, Ext.refl _ _, none, 0, rfl, .nil (.inl rfl), Norm.nil, trivial⟩, by rw [hz]; rfl⟩
    by_cases h1 : A.length = 0
    · repeat refine zR ?_
      simp only [NV, Nat.reduceEqDiff, reduceCtorEq]
      rw [EC_cond_true rfl]
      simp only [NV, Nat.reduceEqDiff, reduceCtorEq]
      repeat refine zR ?_
      simp only [NV, Nat.reduceEqDiff, reduceCtorEq]
      exact fin _ rfl
    · repeat refine zR ?_
      simp only [NV, Nat.reduceEqDiff, reduceCtorEq]
      rw [EC_cond_true rfl]
      simp only [NV, Nat.reduceEqDiff, reduceCtorEq]
      repeat refine zR ?_
      simp only [NV, Nat.reduceEqDiff, reduceCtorEq]
      exact fin _ rfl
  have hA0 : A.length ≠ 0 := fun e => h0 (.inl e)
  have hC0 : C.length ≠ 0 := fun e => h0 (.inr e)
  repeat refine zR ?_
  simp only [NV, Nat.reduceEqDiff, reduceCtorEq]
  rw [EC_cond_false rfl]
  simp only [NV, Nat.reduceEqDiff, reduceCtorEq]
  repeat refine zR ?_
  refine st_make (len := A.length + C.length) (cap := A.length + C.length) rfl rfl rfl rfl rfl rfl rfl rfl rfl (by omega) ?_
  rw [show vcells (Value.int .u32 0) = [Value.int .u32 0] from rfl, rep_zero]
  repeat refine zR ?_
  simp only [NV, Nat.reduceEqDiff, reduceCtorEq]
  repeat refine zR ?_
  simp only [NV, Nat.reduceEqDiff, reduceCtorEq]
  refine EC_for (α := Nat × List Nat) (fun z => [(0, .slice a1 A.length c1), (1, .slice a2 C.length c2), (5, .slice (some ⟨3 * n + 2, 0, none⟩) (A.length + C.length) (A.length + C.length)), (6, .int .i64 (z.1 : Int))])
    (fun z h' n' w => n' = n + 1 ∧ w = [] ∧ Ext n h h' ∧ (∃ e, h' (3 * n + 2) = some (.row (u32s z.2) e)) ∧ z.1 ≤ A.length ∧ Dig z.2 ∧ z.2.length = A.length + C.length ∧ z.2.drop (z.1 + C.length) = List.replicate (A.length - z.1) 0 ∧ dv 4294967296 z.2 = dv 4294967296 (A.take z.1) * dv 4294967296 C) (fun z => A.length - z.1)
    (0, List.replicate (A.length + C.length) 0) ⟨rfl, rfl, rfl, rfl, trivial⟩ ⟨rfl, rfl, Ext.upd (by omega), ⟨_, upd_same _ _ _⟩, Nat.zero_le _, fun d hd => by rw [List.eq_of_mem_replicate hd]; decide, by simp, by simp, by simp [dv, dv_replicate]⟩ (by show A.length - 0 < LL; unfold LL; omega) ?_
  rintro ⟨i, O⟩ t h1 _ _ ⟨rfl, rfl, hx1, ⟨e, hrow⟩, hi, dO, hOl, hOz, hV⟩
  simp only at hrow hi dO hOl hOz hV
  simp only [NV, Nat.reduceEqDiff, reduceCtorEq]
  by_cases hiA : i = A.length
  · subst hiA
    repeat refine zR ?_
    simp only [NV, Nat.reduceEqDiff, reduceCtorEq]
    rw [EC_cond_false rfl]
    simp only [NV, Nat.reduceEqDiff, reduceCtorEq]
    repeat refine zR ?_
    refine st_call _ rfl rfl rfl rfl rfl (trim_ok k (l := O) (by omega) (Sl.own hrow (by omega) hOl (Nat.le_refl _))) ?_
    rintro v' _ _ _ ⟨rfl, rfl, rfl, rfl, hs⟩
    repeat refine zR ?_
    simp only [NV, Nat.reduceEqDiff, reduceCtorEq]
    refine retH _ rfl (resF_tmp rfl) rfl ⟨trimL O, ⟨rfl, by show n ≤ n + 1; omega, hx1, _, _, rfl, hs, Norm.trim dO, by show 3 * n ≤ 3 * n + 2; omega⟩, ?_⟩
    rw [trimL_val, val_dv, val_dv, val_dv, hV, List.take_length]
  obtain ⟨da, hda⟩ : ∃ x, A[i]? = some x := ⟨A[i]'(by omega), List.getElem?_eq_getElem (by omega)⟩
  have hda' : da < 4294967296 := dA da (List.mem_of_getElem? hda)
  repeat refine zR ?_
  simp only [NV, Nat.reduceEqDiff, reduceCtorEq]
  rw [EC_cond_true rfl]
  simp only [NV, Nat.reduceEqDiff, reduceCtorEq]
  repeat refine zR ?_
  simp only [NV, Nat.reduceEqDiff, reduceCtorEq]
  repeat refine zR ?_
  simp only [NV, Nat.reduceEqDiff, reduceCtorEq]
  refine EC_for (α := Nat × Nat × List Nat) (fun z => [(0, .slice a1 A.length c1), (1, .slice a2 C.length c2), (5, .slice (some ⟨3 * n + 2, 0, none⟩) (A.length + C.length) (A.length + C.length)), (6, .int .i64 (i : Int)), (7, .int .u64 (z.2.1 : Int)), (8, .int .i64 (z.1 : Int))])
    (fun z h' n' w => n' = n + 1 ∧ w = [] ∧ Ext n h h' ∧ (∃ e, h' (3 * n + 2) = some (.row (u32s z.2.2) e)) ∧ z.1 ≤ C.length ∧ Dig z.2.2 ∧ z.2.2.length = A.length + C.length ∧ z.2.1 < 4294967296 ∧ z.2.2.drop (i + C.length) = O.drop (i + C.length) ∧ dv 4294967296 z.2.2 + z.2.1 * 4294967296 ^ (i + z.1) = dv 4294967296 O + da * 4294967296 ^ i * dv 4294967296 (C.take z.1)) (fun z => C.length - z.1)
    (0, 0, O) ⟨rfl, rfl, rfl, rfl, rfl, rfl, trivial⟩ ⟨rfl, rfl, hx1, ⟨e, hrow⟩, Nat.zero_le _, dO, hOl, by show 0 < 4294967296; decide, rfl, by simp [dv]⟩ (by show C.length - 0 < LL; unfold LL; omega) ?_
  rintro ⟨j, c, O2⟩ t2 h2 _ _ ⟨rfl, rfl, hx2, ⟨e2, hrow2⟩, hj, dO2, hOl2, hc, hOz2, hV2⟩
  simp only at hrow2 hj dO2 hOl2 hc hOz2 hV2
  simp only [NV, Nat.reduceEqDiff, reduceCtorEq]
  by_cases hjC : j = C.length
  · subst hjC
    repeat refine zR ?_
    simp only [NV, Nat.reduceEqDiff, reduceCtorEq]
    rw [EC_cond_false rfl]
    simp only [NV, Nat.reduceEqDiff, reduceCtorEq]
    repeat refine zU ?_
    refine st_put (j := i + C.length) (v := .int .u32 (c : Int)) rfl rfl rfl rfl rfl rfl rfl rfl (by omega) (by rw [u32s_len]; omega) hrow2 (by show 3 * n ≤ 3 * n + 2; omega) (fun _ => rfl) rfl rfl rfl (fun _ => rfl) rfl fun _ => ?_
    rw [u32s_set]
    simp only [NV, Nat.reduceEqDiff, reduceCtorEq]
    repeat refine zR ?_
    simp only [NV, Nat.reduceEqDiff, reduceCtorEq]
    have hget : O2[i + C.length]? = some 0 := by
      have : (O2.drop (i + C.length))[0]? = (List.replicate (A.length - i) 0)[0]? := by rw [hOz2, hOz]
      rw [List.getElem?_drop, Nat.add_zero] at this
      rw [this, List.getElem?_replicate, if_pos (by omega)]
    refine goOn (i + 1, O2.set (i + C.length) c) (by show A.length - (i + 1) < A.length - i; omega) ⟨rfl, rfl, rfl, by show Value.int .i64 _ = Value.int .i64 _; congr 1, trivial⟩ ⟨rfl, rfl, fun b hb => (upd_ne (by omega)).trans (hx2 b hb), ⟨e2, upd_same _ _ _⟩, by show i + 1 ≤ A.length; omega, dig_set dO2 hc, by show (O2.set _ _).length = _; rw [List.length_set]; exact hOl2, ?_, ?_⟩
    · show (O2.set (i + C.length) c).drop (i + 1 + C.length) = _
      rw [List.drop_set_of_lt (by omega)]
      have := congrArg (List.drop 1) (hOz2.trans hOz)
      rw [List.drop_drop] at this
      rw [show i + 1 + C.length = i + C.length + 1 from by omega, this]
      simp; omega
    · show dv 4294967296 (O2.set (i + C.length) c) = dv 4294967296 (A.take (i + 1)) * dv 4294967296 C
      have e3 := dv_set (B := 4294967296) c hget
      rw [Nat.zero_mul, Nat.add_zero] at e3
      rw [e3, hV2, List.take_length, dv_take_succ hda, Nat.add_mul, hV, Nat.mul_comm da]
  obtain ⟨dc, hdc⟩ : ∃ x, C[j]? = some x := ⟨C[j]'(by omega), List.getElem?_eq_getElem (by omega)⟩
  have hdc' : dc < 4294967296 := dC dc (List.mem_of_getElem? hdc)
  obtain ⟨o, ho⟩ : ∃ x, O2[i + j]? = some x := ⟨O2[i + j]'(by omega), List.getElem?_eq_getElem (by omega)⟩
  have ho' : o < 4294967296 := dO2 o (List.mem_of_getElem? ho)
  have hp : da * dc ≤ 4294967295 * 4294967295 := Nat.mul_le_mul (by omega) (by omega)
  repeat refine zR ?_
  simp only [NV, Nat.reduceEqDiff, reduceCtorEq]
  rw [EC_cond_true rfl]
  simp only [NV, Nat.reduceEqDiff, reduceCtorEq]
  rw [EC_quietC rfl]
  repeat refine zR ?_
  refine st_at rfl rfl rfl rfl rfl rfl rfl (hA.ext hx2 (Nat.le_succ n)) rfl rfl hda (fun _ => rfl) rfl rfl rfl rfl fun _ => ?_
  repeat refine zU ?_
  refine st_at rfl rfl rfl rfl rfl rfl rfl (hC.ext hx2 (Nat.le_succ n)) rfl rfl hdc (fun _ => rfl) rfl rfl rfl rfl fun _ => ?_
  repeat refine zU ?_
  refine st_at (j := i + j) rfl rfl rfl rfl rfl rfl rfl (Sl.own hrow2 (show _ < 3 * (n + 1) by omega) hOl2 (Nat.le_refl _)) rfl (by omega) ho (fun _ => rfl) rfl rfl rfl rfl fun _ => ?_
  generalize hpp : da * dc = p at hp
  repeat refine zU ?_
  simp only [NV, Nat.reduceEqDiff, reduceCtorEq]
  repeat refine zR ?_
  refine st_conv_u32 rfl rfl rfl rfl rfl rfl rfl ?_
  refine st_put (j := i + j) (v := .int .u32 (((c + (p + o)) % 4294967296 : Nat) : Int)) rfl rfl rfl rfl rfl rfl rfl rfl (by omega) (by rw [u32s_len]; omega) hrow2 (by show 3 * n ≤ 3 * n + 2; omega) (fun _ => rfl) rfl rfl rfl (fun _ => rfl) rfl fun _ => ?_
  rw [u32s_set]
  simp only [NV, Nat.reduceEqDiff, reduceCtorEq]
  repeat refine zU ?_
  simp only [NV, Nat.reduceEqDiff, reduceCtorEq]
  repeat refine zR ?_
  simp only [NV, Nat.reduceEqDiff, reduceCtorEq]
  refine goOn (j + 1, (c + (p + o)) / 4294967296, O2.set (i + j) ((c + (p + o)) % 4294967296)) (by show C.length - (j + 1) < C.length - j; omega) ⟨rfl, rfl, rfl, rfl, rfl, by show Value.int .i64 _ = Value.int .i64 _; congr 1, trivial⟩ ⟨rfl, rfl, fun b hb => (upd_ne (by omega)).trans (hx2 b hb), ⟨e2, upd_same _ _ _⟩, by show j + 1 ≤ C.length; omega, dig_set dO2 (Nat.mod_lt _ (by omega)), by show (O2.set _ _).length = _; rw [List.length_set]; exact hOl2, by show _ / _ < _; omega, ?_, ?_⟩
  · show (O2.set (i + j) _).drop (i + C.length) = _
    rw [List.drop_set_of_lt (by omega)]
    exact hOz2
  · show dv 4294967296 (O2.set (i + j) _) + _ * 4294967296 ^ (i + (j + 1)) = dv 4294967296 O + da * 4294967296 ^ i * dv 4294967296 (C.take (j + 1))
    have e3 := carry_set (B := 4294967296) (c := c) (p := p) (c' := (c + (p + o)) / 4294967296) (dv_set (B := 4294967296) ((c + (p + o)) % 4294967296) ho) (by omega)
    rw [show i + (j + 1) = i + j + 1 from by omega, Nat.pow_succ, e3, hV2, dv_take_succ hdc, Nat.mul_add, ← hpp, Nat.pow_add]
    have e4 : da * 4294967296 ^ i * (4294967296 ^ j * dc) = da * dc * (4294967296 ^ i * 4294967296 ^ j) := by
      rw [Nat.mul_comm (4294967296 ^ j) dc, ← Nat.mul_assoc, Nat.mul_assoc da, Nat.mul_comm (4294967296 ^ i) dc, ← Nat.mul_assoc, Nat.mul_assoc (da * dc)]
    rw [e4]
    omega
end Go.Proofs.YtokfihhdllmbmaaGreatDoor
namespace Go.Proofs.YtokfihhdllmbmaaGreatDoor
open Go Go.GL
set_option maxHeartbeats 1000000
theorem or_low {t x s : Nat} (hs : s ≤ 32) (ht : t < 2 ^ s) : t ||| (x * 2 ^ s % 4294967296) = t + x * 2 ^ s % 4294967296 := by
  have e : x * 2 ^ s % 4294967296 = 2 ^ s * (x % 2 ^ (32 - s)) := by
    rw [show (4294967296 : Nat) = 2 ^ s * 2 ^ (32 - s) from by rw [← Nat.pow_add, show s + (32 - s) = 32 from by omega], Nat.mul_comm x, Nat.mul_mod_mul_left]
  rw [e, Nat.or_comm, ← Nat.two_pow_add_eq_or_of_lt ht, Nat.add_comm]
theorem or_lt {t x s : Nat} (hs : s ≤ 32) (ht : t < 2 ^ s) : t + x * 2 ^ s % 4294967296 < 4294967296 := by
  rw [← or_low hs ht]
  have h1 : t < 2 ^ 32 := Nat.lt_of_lt_of_le ht (Nat.pow_le_pow_right (by omega) hs)
  exact Nat.or_lt_two_pow (n := 32) h1 (Nat.mod_lt _ (by omega))
theorem shl_top {x s : Nat} (hx : x < 4294967296) : x * 2 ^ s / 4294967296 < 2 ^ s := by
  rw [Nat.div_lt_iff_lt_mul (by omega), Nat.mul_comm]
  exact Nat.mul_lt_mul_of_pos_left hx (Nat.pow_pos (by omega))
theorem set_next2 (D : List Nat) (t m d : Nat) (x : Nat) : ((D ++ [t] ++ List.replicate (m + 1) 0).set D.length d).set (D.length + 1) x = (D ++ [d]) ++ [x] ++ List.replicate m 0 := by
  rw [List.replicate_succ, List.append_assoc, List.set_append_right _ _ (Nat.le_refl _)]
  simp
theorem shiftLeft_ok (k : Nat) {h : HF} {n : Nat} {a1 : Option Addr} {l1 c1 s : Nat} {A : List Nat} (hA : Sl h n 1 (.slice a1 l1 c1) (u32s A)) (dA : Dig A) (hb : A.length < 1000000000) (hs : s < 32) :
    CF (cal (k + 1)) 230 [.slice a1 l1 c1, .int .u64 (s : Int)] h n fun v h' n' w => w = [] ∧ n' = n + 1 ∧ Ext n h h' ∧ ∃ L e, v = .slice (some ⟨3 * n + 2, 0, none⟩) (A.length + 1) (A.length + 1) ∧ h' (3 * n + 2) = some (.row (u32s L) e) ∧ L.length = A.length + 1 ∧ Dig L ∧ dv 4294967296 L = dv 4294967296 A * 2 ^ s := by
  refine CF_heap (fn := Tryz.f230) rfl rfl rfl rfl ?_
  have e1 := hA.lenU
  subst e1
  have h2s : 2 ^ s ≤ 2147483648 := show 2 ^ s ≤ 2 ^ 31 from Nat.pow_le_pow_right (by omega) (by omega)
  have h2p : 0 < 2 ^ s := Nat.pow_pos (by omega)
  simp only [NV, Nat.reduceEqDiff, reduceCtorEq]
  repeat refine zR ?_
  simp only [NV, Nat.reduceEqDiff, reduceCtorEq]
  repeat refine zR ?_
  refine st_make (len := A.length + 1) (cap := A.length + 1) rfl rfl rfl rfl rfl rfl rfl rfl rfl (by omega) ?_
  rw [show vcells (Value.int .u32 0) = [Value.int .u32 0] from rfl, rep_zero]
  repeat refine zR ?_
  simp only [NV, Nat.reduceEqDiff, reduceCtorEq]
  repeat refine zR ?_
  simp only [NV, Nat.reduceEqDiff, reduceCtorEq]
  refine EC_for (α := List Nat × Nat) (fun z => [(0, .slice a1 A.length c1), (1, .int .u64 (s : Int)), (5, .slice (some ⟨3 * n + 2, 0, none⟩) (A.length + 1) (A.length + 1)), (6, .int .i64 (z.1.length : Int))])
    (fun z h' n' w => n' = n + 1 ∧ w = [] ∧ Ext n h h' ∧ (∃ e, h' (3 * n + 2) = some (.row (u32s (z.1 ++ [z.2] ++ List.replicate (A.length - z.1.length) 0)) e)) ∧ z.1.length ≤ A.length ∧ Dig z.1 ∧ z.2 < 2 ^ s ∧ dv 4294967296 z.1 + z.2 * 4294967296 ^ z.1.length = dv 4294967296 (A.take z.1.length) * 2 ^ s) (fun z => A.length - z.1.length)
    ([], 0) ⟨rfl, rfl, rfl, rfl, trivial⟩ ⟨rfl, rfl, Ext.upd (by omega), ⟨_, (upd_same _ _ _).trans (by rw [List.replicate_succ]; rfl)⟩, Nat.zero_le _, fun d hd => absurd hd List.not_mem_nil, h2p, by simp [dv]⟩ (by show A.length - 0 < LL; unfold LL; omega) ?_
  rintro ⟨D, tt⟩ t h1 _ _ ⟨rfl, rfl, hx1, ⟨e, hrow⟩, hD, dD, htt, hV⟩
  simp only at hrow hD dD htt hV
  simp only [NV, Nat.reduceEqDiff, reduceCtorEq]
  by_cases hi : D.length = A.length
  · repeat refine zR ?_
    simp only [NV, Nat.reduceEqDiff, reduceCtorEq]
    rw [EC_cond_false rfl]
    simp only [NV, Nat.reduceEqDiff, reduceCtorEq]
    rw [hi, Nat.sub_self, List.replicate_zero, List.append_nil] at hrow
    repeat refine zR ?_
    simp only [NV, Nat.reduceEqDiff, reduceCtorEq]
    refine retH _ rfl (resF_tmp rfl) rfl ⟨rfl, rfl, hx1, D ++ [tt], e, rfl, hrow, by simp [hi], dig_snoc dD (by omega), ?_⟩
    rw [hi, List.take_length, ← hi] at hV
    rw [dv_snoc, Nat.mul_comm (4294967296 ^ _), hV]
  · obtain ⟨da, hda⟩ : ∃ x, A[D.length]? = some x := ⟨A[D.length]'(by omega), List.getElem?_eq_getElem (by omega)⟩
    have hda' : da < 4294967296 := dA da (List.mem_of_getElem? hda)
    have hA1 := hA.ext hx1 (Nat.le_succ n)
    obtain ⟨m, hm⟩ : ∃ m, A.length - D.length = m + 1 := ⟨A.length - D.length - 1, by omega⟩
    rw [hm] at hrow
    have hv : da * 2 ^ s < 18446744073709551616 := by
      have : da * 2 ^ s ≤ 4294967295 * 2147483648 := Nat.mul_le_mul (by omega) h2s
      omega
    repeat refine zR ?_
    simp only [NV, Nat.reduceEqDiff, reduceCtorEq]
    rw [EC_cond_true rfl]
    simp only [NV, Nat.reduceEqDiff, reduceCtorEq]
    repeat refine zR ?_
    refine st_at rfl rfl rfl rfl rfl rfl rfl hA1 rfl rfl hda (fun _ => rfl) rfl rfl rfl rfl fun _ => ?_
    refine st_cv64 rfl rfl rfl rfl rfl rfl rfl (by omega) ?_
    refine zM ?_
    refine st_shl_u64 (a := da) (s := s) rfl rfl rfl rfl rfl rfl (by omega) ?_
    rw [Nat.mod_eq_of_lt hv]
    repeat refine zR ?_
    simp only [NV, Nat.reduceEqDiff, reduceCtorEq]
    repeat refine zR ?_
    refine st_at (j := D.length) (dv := tt) rfl rfl rfl rfl rfl rfl rfl (Sl.own hrow (show _ < 3 * (n + 1) by omega) (by simp; omega) (Nat.le_refl _)) rfl rfl (by simp) (fun _ => rfl) rfl rfl rfl rfl fun _ => ?_
    refine zM ?_
    refine st_conv_u32 rfl rfl rfl rfl rfl rfl rfl ?_
    refine st_or_u32 (a := tt) (b := da * 2 ^ s % 4294967296) rfl rfl rfl rfl rfl rfl (by omega) ?_
    rw [or_low (by omega) htt]
    refine st_put (j := D.length) (v := .int .u32 ((tt + da * 2 ^ s % 4294967296 : Nat) : Int)) rfl rfl rfl rfl rfl rfl rfl rfl rfl (by rw [u32s_len]; simp <;> omega) hrow (by show 3 * n ≤ 3 * n + 2; omega) (fun _ => rfl) rfl rfl rfl (fun _ => rfl) rfl fun _ => ?_
    simp only [NV, Nat.reduceEqDiff, reduceCtorEq]
    have htop := shl_top (s := s) hda'
    repeat refine zU ?_
    refine st_put (j := D.length + 1) (v := .int .u32 ((da * 2 ^ s / 2 ^ 32 : Nat) : Int)) rfl rfl rfl rfl rfl rfl rfl rfl (by omega) (by rw [List.length_set, u32s_len]; simp <;> omega) (upd_same _ _ _) (by show 3 * n ≤ 3 * n + 2; omega) (fun _ => rfl) rfl rfl rfl (fun _ => rfl) rfl fun _ => ?_
    rw [upd_upd, u32s_set, u32s_set, set_next2]
    simp only [NV, Nat.reduceEqDiff, reduceCtorEq]
    repeat refine zR ?_
    simp only [NV, Nat.reduceEqDiff, reduceCtorEq]
    refine goOn (D ++ [tt + da * 2 ^ s % 4294967296], da * 2 ^ s / 2 ^ 32) (by simp; omega) ⟨rfl, rfl, rfl, by show Value.int .i64 _ = Value.int .i64 _; simp, trivial⟩ ⟨rfl, rfl, fun b hb => (upd_ne (by omega)).trans (hx1 b hb), ⟨e, (upd_same _ _ _).trans (by show some (BF.row (u32s (D ++ [_] ++ [_] ++ List.replicate m 0)) e) = some (BF.row (u32s (D ++ [_] ++ [_] ++ List.replicate (A.length - (D ++ [_]).length) 0)) e); rw [List.length_append, List.length_singleton, show A.length - (D.length + 1) = m from by omega])⟩, by simp; omega, dig_snoc dD (or_lt (by omega) htt), by show da * 2 ^ s / 2 ^ 32 < 2 ^ s; exact shl_top hda', ?_⟩
    show dv 4294967296 (D ++ [_]) + _ * 4294967296 ^ (D ++ [_]).length = dv 4294967296 (A.take (D ++ [_]).length) * 2 ^ s
    simp only [List.length_append, List.length_singleton]
    have := carry_step (B := 4294967296) (P := 4294967296 ^ D.length) (V := dv 4294967296 D) (V' := dv 4294967296 (D ++ [tt + da * 2 ^ s % 4294967296])) (c := tt) (p := da * 2 ^ s) (by rw [dv_snoc, Nat.mul_comm]) (c' := da * 2 ^ s / 2 ^ 32) (by omega)
    rw [Nat.pow_succ (n := 4294967296), this, dv_take_succ hda, Nat.add_mul, hV, Nat.mul_right_comm, Nat.mul_comm (4294967296 ^ D.length)]
end Go.Proofs.YtokfihhdllmbmaaGreatDoor
namespace Go.Proofs.YtokfihhdllmbmaaGreatDoor
section
variable {B P v1 v2 vr w2 wr top h r : Nat}
theorem mul_parts {a b c P : Nat} (h1 : a * P ≤ b) (h2 : b < c * P) : a < c := by
  apply Classical.byContradiction
  intro hn
  have : c * P ≤ a * P := Nat.mul_le_mul_right P (by omega)
  omega
theorem kn_start (hv : 0 < v1) (hw2 : w2 < B) (hwr : wr < P) : ((top * B + w2) * P + wr) / ((v1 * B + v2) * P + vr) ≤ top / v1 := by
  generalize hQ : ((top * B + w2) * P + wr) / ((v1 * B + v2) * P + vr) = Q
  have h1 : Q * ((v1 * B + v2) * P + vr) ≤ (top * B + w2) * P + wr := by rw [← hQ]; exact Nat.div_mul_le_self _ _
  rw [Nat.le_div_iff_mul_le hv]
  have h2 : (Q * v1) * (B * P) ≤ Q * ((v1 * B + v2) * P + vr) := by
    rw [Nat.mul_assoc]
    apply Nat.mul_le_mul_left
    rw [← Nat.mul_assoc, Nat.add_mul]
    omega
  have h3 : (top * B + w2) * P + wr < (top + 1) * (B * P) := by
    have : (top * B + w2 + 1) * P ≤ (top * B + B) * P := Nat.mul_le_mul_right _ (by omega)
    rw [Nat.add_mul _ 1, Nat.one_mul] at this
    rw [← Nat.mul_assoc, Nat.add_mul top, Nat.one_mul]
    omega
  have := mul_parts (Nat.le_trans h2 h1) h3
  omega
theorem kn_test (hw2 : w2 < B) (hwr : wr < P) (ht : h * v1 + r = top) (hc : r * B + w2 < h * v2) : ((top * B + w2) * P + wr) / ((v1 * B + v2) * P + vr) < h := by
  generalize hQ : ((top * B + w2) * P + wr) / ((v1 * B + v2) * P + vr) = Q
  have h1 : Q * ((v1 * B + v2) * P + vr) ≤ (top * B + w2) * P + wr := by rw [← hQ]; exact Nat.div_mul_le_self _ _
  apply Classical.byContradiction
  intro hn
  have h2 : (h * (v1 * B + v2)) * P ≤ Q * ((v1 * B + v2) * P + vr) := by
    have h3 : h * ((v1 * B + v2) * P) ≤ Q * ((v1 * B + v2) * P + vr) := Nat.mul_le_mul (by omega) (by omega)
    rw [Nat.mul_assoc]; exact h3
  have h3 : (top * B + w2) * P + wr < (top * B + w2 + 1) * P := by rw [Nat.add_mul _ 1, Nat.one_mul]; omega
  have h4 := mul_parts (Nat.le_trans h2 h1) h3
  rw [← ht, Nat.mul_add, Nat.add_mul] at h4
  have h5 : h * (v1 * B) = h * v1 * B := by rw [Nat.mul_assoc]
  omega
theorem kn_end (hv : 0 < v1) (hB : 0 < B) (hvr : vr < P) (ht : h * v1 + r = top) (hc : h * v2 ≤ r * B + w2) (hh : h < B) : h ≤ ((top * B + w2) * P + wr) / ((v1 * B + v2) * P + vr) + 1 := by
  have hVp : 0 < (v1 * B + v2) * P + vr := by
    have : 0 < v1 * B := Nat.mul_pos hv hB
    have : 0 < (v1 * B + v2) * P := Nat.mul_pos (by omega) (by omega)
    omega
  have h1 : (h * (v1 * B + v2)) * P ≤ (top * B + w2) * P := by
    apply Nat.mul_le_mul_right
    rw [← ht, Nat.mul_add, Nat.add_mul]
    have h5 : h * (v1 * B) = h * v1 * B := by rw [Nat.mul_assoc]
    omega
  have h2 : h * vr ≤ B * P := Nat.mul_le_mul (by omega) (by omega)
  have h3 : B * P ≤ (v1 * B + v2) * P := Nat.mul_le_mul_right _ (by
    have : 1 * B ≤ v1 * B := Nat.mul_le_mul_right _ hv
    omega)
  have h4 : h * ((v1 * B + v2) * P + vr) ≤ ((top * B + w2) * P + wr) + ((v1 * B + v2) * P + vr) := by
    rw [Nat.mul_add, ← Nat.mul_assoc]
    omega
  have h5 : h ≤ (((top * B + w2) * P + wr) + ((v1 * B + v2) * P + vr)) / ((v1 * B + v2) * P + vr) := by
    rw [Nat.le_div_iff_mul_le hVp]
    exact h4
  rw [Nat.add_div_right _ hVp] at h5
  exact h5
theorem kn_top (hvr : vr < P) (hv2 : v2 < B) (hW : (top * B + w2) * P + wr < B * ((v1 * B + v2) * P + vr)) : top ≤ v1 * B + v2 := by
  have h1 : top * (B * P) ≤ (top * B + w2) * P + wr := by
    rw [← Nat.mul_assoc, Nat.add_mul]
    omega
  have h2 : B * ((v1 * B + v2) * P + vr) ≤ (v1 * B + v2 + 1) * (B * P) := by
    rw [Nat.mul_left_comm]
    apply Nat.mul_le_mul_left
    rw [Nat.add_mul _ 1, Nat.one_mul]
    omega
  have := mul_parts h1 (Nat.lt_of_lt_of_le hW h2)
  omega
end
theorem dv_two {B : Nat} {l : List Nat} {m x y : Nat} (hl : l.length = m + 2) (hx : l[m + 1]? = some x) (hy : l[m]? = some y) : dv B l = (x * B + y) * B ^ m + dv B (l.take m) := by
  have h1 := dv_take_succ (B := B) hx
  have h2 := dv_take_succ (B := B) hy
  rw [List.take_of_length_le (by omega)] at h1
  rw [h1, h2, Nat.add_mul, Nat.pow_succ, Nat.mul_comm (B ^ m) y, Nat.mul_assoc x B, Nat.mul_comm B, Nat.mul_comm x]
  omega
theorem dv_three {B : Nat} {l : List Nat} {m x y z : Nat} (hl : l.length = m + 3) (hx : l[m + 2]? = some x) (hy : l[m + 1]? = some y) (hz : l[m]? = some z) : dv B l = ((x * B + y) * B + z) * B ^ m + dv B (l.take m) := by
  have h1 := dv_take_succ (B := B) hx
  rw [List.take_of_length_le (by omega)] at h1
  have h2 := dv_two (B := B) (l := l.take (m + 2)) (m := m) (x := y) (y := z) (by rw [List.length_take]; omega) (by rw [List.getElem?_take_of_lt (by omega)]; exact hy) (by rw [List.getElem?_take_of_lt (by omega)]; exact hz)
  rw [List.take_take, Nat.min_eq_left (by omega)] at h2
  rw [h1, h2, Nat.add_mul, Nat.add_mul, Nat.add_mul, Nat.add_mul, Nat.pow_add, show B ^ 2 = B * B from by rw [Nat.pow_succ, Nat.pow_one]]
  have e : B ^ m * (B * B) * x = x * B * B * B ^ m := by
    rw [Nat.mul_comm (B ^ m * (B * B)) x, Nat.mul_comm (B ^ m), ← Nat.mul_assoc, ← Nat.mul_assoc]
  rw [e]
  omega
theorem dv_zero {B : Nat} : ∀ {l : List Nat}, 0 < B → dv B l = 0 → ∀ (i x : Nat), l[i]? = some x → x = 0 := by
  intro l
  induction l with
  | nil => intro _ _ i x h; simp at h
  | cons d l ih =>
    intro hB h i x hx
    simp only [dv] at h
    have h1 : d = 0 := by omega
    have h2 : B * dv B l = 0 := by omega
    rcases Nat.mul_eq_zero.1 h2 with h3 | h3
    · omega
    · cases i with
      | zero => simp at hx; omega
      | succ i => exact ih hB h3 i x (by simpa using hx)
theorem dv_high {B : Nat} {l : List Nat} {n : Nat} (hB : 0 < B) (h : dv B l < B ^ n) : dv B (l.drop n) = 0 ∧ dv B (l.take n) = dv B l := by
  have e : dv B l = dv B (l.take n) + B ^ (l.take n).length * dv B (l.drop n) := by rw [← dv_append, List.take_append_drop]
  by_cases hl : n ≤ l.length
  · rw [List.length_take, Nat.min_eq_left hl] at e
    have : dv B (l.drop n) = 0 := by
      apply Classical.byContradiction
      intro hne
      have : B ^ n * 1 ≤ B ^ n * dv B (l.drop n) := Nat.mul_le_mul_left _ (by omega)
      omega
    rw [this, Nat.mul_zero] at e
    exact ⟨this, by omega⟩
  · rw [List.drop_of_length_le (by omega), List.take_of_length_le (by omega)]
    exact ⟨rfl, rfl⟩
end Go.Proofs.YtokfihhdllmbmaaGreatDoor
namespace Go.Proofs.YtokfihhdllmbmaaGreatDoor
open Go Go.GL
def subC : List Nat → Code → Option Code
  | [], c => some c
  | 0 :: p, .seq a _ => subC p a
  | 1 :: p, .seq _ b => subC p b
  | 0 :: p, .cond _ a _ => subC p a
  | 1 :: p, .cond _ _ b => subC p b
  | 0 :: p, .block _ b => subC p b
  | 0 :: p, .loop b => subC p b
  | 0 :: p, .scope b => subC p b
  | _, _ => none
def bodyB (f : Func) (p : List Nat) : Option Code := match f.body with | some b => subC p b | none => none
section
variable {K n n1 : Nat} {h : HF} {t : TF} {w : List Nat} {va ua : Option Addr} {vc uc : Nat} {V U : List Nat} {j m : Nat} {sv qv : Value}
set_option maxHeartbeats 1000000
set_option maxRecDepth 100000
theorem div_est (hV : Sl h n1 1 (.slice va V.length vc) (u32s V)) (hU : Sl h n1 1 (.slice ua U.length uc) (u32s U)) (hVl : V.length = m + 2) (hl : U.length < 10000000000 ∧ j + m + 2 < U.length) {v1 v2 top w2 g : Nat} (hv1 : V[m + 1]? = some v1) (hv2 : V[m]? = some v2) (hw2 : U[j + m]? = some w2)
    (b1 : 2147483648 ≤ v1 ∧ v1 < 4294967296) (b2 : v2 < 4294967296) (b3 : w2 < 4294967296) (htop : top ≤ v1 * 4294967296 + v2) (hg1 : g ≤ top / v1) (hg2 : g < 4294967296) (hg3 : ∀ hh rr : Nat, hh * v1 + rr = top → rr * 4294967296 + w2 < hh * v2 → g < hh)
    {c : Code} (hc : bodyB Tryz.f195 [1, 1, 1, 1, 1, 1, 1, 1, 1, 1, 0, 1, 0, 0, 1, 0, 0, 1, 1, 1, 0] = some c) {Q : Ex → SV → Prop}
    (hL : AllEq t [(8, sv), (9, .slice va V.length vc), (10, .slice ua U.length uc), (11, .int .i64 (V.length : Int)), (13, qv), (14, .int .i64 (j : Int)), (16, .int .u64 ((top / v1 : Nat) : Int)), (17, .int .u64 ((top % v1 : Nat) : Int))])
    (hQ : ∀ (hh rr : Nat) (t' : TF), AllEq t' [(8, sv), (9, .slice va V.length vc), (10, .slice ua U.length uc), (11, .int .i64 (V.length : Int)), (13, qv), (14, .int .i64 (j : Int)), (16, .int .u64 (hh : Int))] → hh * v1 + rr = top → hh < 4294967296 → hh * v2 ≤ rr * 4294967296 + w2 → g ≤ hh → Q .normal ⟨t', h, n1, w⟩) : EC (ctx K n (Tryz.f195).ntmps) c ⟨t, h, n1, w⟩ Q := by
  obtain rfl := Option.some.inj (hc.symm.trans (rfl : bodyB Tryz.f195 [1, 1, 1, 1, 1, 1, 1, 1, 1, 1, 0, 1, 0, 0, 1, 0, 0, 1, 1, 1, 0] = some _))
  clear hc
  have hlt : top % v1 < v1 := Nat.mod_lt _ (by omega)
  simp only [NV, Nat.reduceEqDiff, reduceCtorEq]
  refine EC_for (α := Nat × Nat) (fun z => [(8, sv), (9, .slice va V.length vc), (10, .slice ua U.length uc), (11, .int .i64 (V.length : Int)), (13, qv), (14, .int .i64 (j : Int)), (16, .int .u64 (z.1 : Int)), (17, .int .u64 (z.2 : Int))])
    (fun z h' n' w' => h = h' ∧ n1 = n' ∧ w = w' ∧ z.1 * v1 + z.2 = top ∧ g ≤ z.1 ∧ z.2 < 4294967296) (fun z => z.1) (top / v1, top % v1) hL ⟨rfl, rfl, rfl, by rw [Nat.mul_comm]; exact Nat.div_add_mod _ _, hg1, by show _ % _ < _; omega⟩ (by show top / v1 < LL; have : top / v1 ≤ top := Nat.div_le_self _ _; unfold LL; omega) ?_
  rintro ⟨hh, rr⟩ t2 _ _ _ ⟨rfl, rfl, rfl, hsum, hgh, hrr⟩
  simp only at hsum hgh hrr
  have hhb : hh < 18446744073709551616 := by
    have h1 : hh * 2147483648 ≤ hh * v1 := Nat.mul_le_mul_left _ b1.1
    omega
  have hstep : g < hh → (hh - 1) * v1 + (rr + v1) = top := fun hlt => by
    obtain ⟨x, rfl⟩ : ∃ x, hh = x + 1 := ⟨hh - 1, by omega⟩
    rw [Nat.add_mul, Nat.one_mul] at hsum
    simp only [Nat.add_sub_cancel]
    omega
  have hbrk : g < hh → 4294967296 ≤ rr + v1 → hh - 1 < 4294967296 ∧ (hh - 1) * v2 ≤ (rr + v1) * 4294967296 + w2 := fun hlt hge => by
    have h1 := hstep hlt
    have h2 : hh - 1 < 4294967296 := by
      apply Classical.byContradiction
      intro hn
      have : 4294967296 * v1 ≤ (hh - 1) * v1 := Nat.mul_le_mul_right _ (by omega)
      omega
    refine ⟨h2, ?_⟩
    have h3 : (hh - 1) * v2 ≤ 4294967296 * 4294967296 := Nat.mul_le_mul (by omega) (by omega)
    have h4 : 4294967296 * 4294967296 ≤ (rr + v1) * 4294967296 := Nat.mul_le_mul_right _ hge
    omega
  simp only [NV, Nat.reduceEqDiff, reduceCtorEq]
  rw [EC_quietC rfl]
  by_cases hB : 4294967296 ≤ hh
  · repeat refine zU ?_
    simp only [NV, Nat.reduceEqDiff, reduceCtorEq]
    rw [EC_cond_true rfl]
    simp only [NV, Nat.reduceEqDiff, reduceCtorEq]
    repeat refine zU ?_
    simp only [NV, Nat.reduceEqDiff, reduceCtorEq]
    repeat refine zR ?_
    refine st_at (j := m + 1) rfl rfl rfl rfl rfl rfl rfl hV rfl (by omega) hv1 (fun _ => rfl) rfl rfl rfl rfl fun _ => ?_
    repeat refine zU ?_
    simp only [NV, Nat.reduceEqDiff, reduceCtorEq]
    by_cases hge : 4294967296 ≤ rr + v1
    · repeat refine zR ?_
      simp only [NV, Nat.reduceEqDiff, reduceCtorEq]
      rw [EC_cond_true rfl]
      simp only [NV, Nat.reduceEqDiff, reduceCtorEq]
      have hb := hbrk (by omega) hge
      exact hQ (hh - 1) (rr + v1) _ ⟨rfl, rfl, rfl, rfl, rfl, rfl, rfl, trivial⟩ (hstep (by omega)) hb.1 hb.2 (by omega)
    · repeat refine zR ?_
      simp only [NV, Nat.reduceEqDiff, reduceCtorEq]
      rw [EC_cond_false rfl]
      simp only [NV, Nat.reduceEqDiff, reduceCtorEq]
      exact goOn (hh - 1, rr + v1) (by show hh - 1 < hh; omega) ⟨rfl, rfl, rfl, rfl, rfl, rfl, rfl, rfl, trivial⟩ ⟨rfl, rfl, rfl, hstep (by omega), by show g ≤ hh - 1; omega, by show rr + v1 < _; omega⟩
  · have hpr : hh * v2 ≤ 4294967295 * 4294967295 := Nat.mul_le_mul (by omega) (by omega)
    repeat refine zU ?_
    refine st_at (j := m) rfl rfl rfl rfl rfl rfl rfl hV rfl (by omega) hv2 (fun _ => rfl) rfl rfl rfl rfl fun _ => ?_
    refine st_cv64 rfl rfl rfl rfl rfl rfl rfl (by omega) ?_
    refine st_mul_u64 (a := hh) (b := v2) rfl rfl rfl rfl rfl rfl (by omega) ?_
    refine zM ?_
    refine st_shl_u64 (a := rr) (s := 32) rfl rfl rfl rfl rfl rfl (by omega) ?_
    repeat refine zR ?_
    refine st_at (j := j + m) rfl rfl rfl rfl rfl rfl rfl hU rfl (by omega) hw2 (fun _ => rfl) rfl rfl rfl rfl fun _ => ?_
    refine st_cv64 rfl rfl rfl rfl rfl rfl rfl (by omega) ?_
    refine st_or_u64 (a := rr * 2 ^ 32 % 18446744073709551616) (b := w2) rfl rfl rfl rfl rfl rfl (by omega) ?_
    rw [shl_or rr w2 hrr b3]
    by_cases htest : rr * 4294967296 + w2 < hh * v2
    · have hlt := hg3 hh rr hsum htest
      refine st_gtT rfl rfl rfl rfl rfl rfl (by exact_mod_cast htest) ?_
      repeat refine zR ?_
      simp only [NV, Nat.reduceEqDiff, reduceCtorEq]
      rw [EC_cond_true rfl]
      simp only [NV, Nat.reduceEqDiff, reduceCtorEq]
      repeat refine zU ?_
      simp only [NV, Nat.reduceEqDiff, reduceCtorEq]
      repeat refine zR ?_
      refine st_at (j := m + 1) rfl rfl rfl rfl rfl rfl rfl hV rfl (by omega) hv1 (fun _ => rfl) rfl rfl rfl rfl fun _ => ?_
      repeat refine zU ?_
      simp only [NV, Nat.reduceEqDiff, reduceCtorEq]
      by_cases hge : 4294967296 ≤ rr + v1
      · repeat refine zR ?_
        simp only [NV, Nat.reduceEqDiff, reduceCtorEq]
        rw [EC_cond_true rfl]
        simp only [NV, Nat.reduceEqDiff, reduceCtorEq]
        have hb := hbrk hlt hge
        exact hQ (hh - 1) (rr + v1) _ ⟨rfl, rfl, rfl, rfl, rfl, rfl, rfl, trivial⟩ (hstep hlt) hb.1 hb.2 (by omega)
      · repeat refine zR ?_
        simp only [NV, Nat.reduceEqDiff, reduceCtorEq]
        rw [EC_cond_false rfl]
        simp only [NV, Nat.reduceEqDiff, reduceCtorEq]
        exact goOn (hh - 1, rr + v1) (by show hh - 1 < hh; omega) ⟨rfl, rfl, rfl, rfl, rfl, rfl, rfl, rfl, trivial⟩ ⟨rfl, rfl, rfl, hstep hlt, by show g ≤ hh - 1; omega, by show rr + v1 < _; omega⟩
    · refine st_gtF rfl rfl rfl rfl rfl rfl (by omega) ?_
      repeat refine zR ?_
      simp only [NV, Nat.reduceEqDiff, reduceCtorEq]
      rw [EC_cond_false rfl]
      simp only [NV, Nat.reduceEqDiff, reduceCtorEq]
      exact hQ hh rr _ ⟨rfl, rfl, rfl, rfl, rfl, rfl, rfl, trivial⟩ hsum (by omega) (by omega) hgh
end
end Go.Proofs.YtokfihhdllmbmaaGreatDoor
namespace Go.Proofs.YtokfihhdllmbmaaGreatDoor
open Go Go.GL
theorem sub_law {U0 U1 U2 H hv u nd c br pl c' br' P B : Nat} (f1 : U2 + u * P = U1 + nd * P) (f2 : U1 + H = U0 + (c + br) * P) (f3 : nd + (pl + br) = u + br' * B) (f4 : B * c' + pl = hv + c) : U2 + (H + hv * P) = U0 + (c' + br') * (P * B) := by
  have f3' : (nd + (pl + br)) * P = (u + br' * B) * P := by rw [f3]
  have f4' : (B * c' + pl) * P = (hv + c) * P := by rw [f4]
  rw [Nat.add_mul, Nat.add_mul, Nat.add_mul u] at f3'
  rw [Nat.add_mul, Nat.add_mul hv] at f4'
  rw [Nat.add_mul c br] at f2
  rw [Nat.add_mul c' br', Nat.mul_comm P B, ← Nat.mul_assoc c' B, ← Nat.mul_assoc br' B, Nat.mul_comm c' B]
  omega
def But (b : Nat) (h h' : HF) : Prop := ∀ x, x ≠ b → h' x = h x
theorem Sl.but {h h' : HF} {n n' sz b bv o len cap : Nat} {c : List Value} (s : Sl h n sz (.slice (some ⟨bv, o, none⟩) len cap) c) (hb : But b h h') (hne : bv ≠ b) (hn : n ≤ n') : Sl h' n' sz (.slice (some ⟨bv, o, none⟩) len cap) c :=
  s.keep (fun a l cc e => by injection e with e1; injection e1 with e1; subst e1; exact hb _ hne) hn
section
variable {K n n1 : Nat} {h : HF} {t : TF} {w : List Nat} {bv bu vc : Nat} {e : TypeId} {V U : List Nat} {j m hh : Nat} {sv qv : Value}
set_option maxHeartbeats 1000000
set_option maxRecDepth 100000
theorem div_sub (hV : Sl h n1 1 (.slice (some ⟨bv, 0, none⟩) V.length vc) (u32s V)) (hne : bv ≠ bu) (hnew : 3 * n ≤ bu ∧ bu < 3 * n1) (hrow : h bu = some (.row (u32s U) e)) (dV : Dig V) (dU : Dig U) (hl : U.length < 10000000000 ∧ j + V.length < U.length) (hhB : hh < 4294967296)
    {c : Code} (hc : bodyB Tryz.f195 [1, 1, 1, 1, 1, 1, 1, 1, 1, 1, 0, 1, 0, 0, 1, 0, 0, 1, 1, 1, 1, 1, 0, 1] = some c) {Q : Ex → SV → Prop}
    (hL : AllEq t [(8, sv), (9, .slice (some ⟨bv, 0, none⟩) V.length vc), (10, .slice (some ⟨bu, 0, none⟩) U.length U.length), (11, .int .i64 (V.length : Int)), (13, qv), (14, .int .i64 (j : Int)), (16, .int .u64 (hh : Int)), (18, .int .u64 (((0 : Nat) : Nat) : Int)), (19, .int .u64 (((0 : Nat) : Nat) : Int)), (20, .int .i64 (((0 : Nat) : Nat) : Int))])
    (hQ : ∀ (c br : Nat) (U2 : List Nat) (t' : TF) (h' : HF), AllEq t' [(8, sv), (9, .slice (some ⟨bv, 0, none⟩) V.length vc), (10, .slice (some ⟨bu, 0, none⟩) U.length U.length), (11, .int .i64 (V.length : Int)), (13, qv), (14, .int .i64 (j : Int)), (16, .int .u64 (hh : Int)), (18, .int .u64 (c : Int)), (19, .int .u64 (br : Int))] → But bu h h' → h' bu = some (.row (u32s U2) e) → Dig U2 → U2.length = U.length → c < 4294967296 → br ≤ 1 → U2.drop (V.length + j) = U.drop (V.length + j) → dv 4294967296 U2 + hh * dv 4294967296 V * 4294967296 ^ j = dv 4294967296 U + (c + br) * 4294967296 ^ (V.length + j) → Q .normal ⟨t', h', n1, w⟩) : EC (ctx K n (Tryz.f195).ntmps) c ⟨t, h, n1, w⟩ Q := by
  obtain rfl := Option.some.inj (hc.symm.trans (rfl : bodyB Tryz.f195 [1, 1, 1, 1, 1, 1, 1, 1, 1, 1, 0, 1, 0, 0, 1, 0, 0, 1, 1, 1, 1, 1, 0, 1] = some _))
  clear hc
  simp only [NV, Nat.reduceEqDiff, reduceCtorEq]
  refine EC_for (α := Nat × Nat × Nat × List Nat) (fun z => [(8, sv), (9, .slice (some ⟨bv, 0, none⟩) V.length vc), (10, .slice (some ⟨bu, 0, none⟩) U.length U.length), (11, .int .i64 (V.length : Int)), (13, qv), (14, .int .i64 (j : Int)), (16, .int .u64 (hh : Int)), (18, .int .u64 (z.2.1 : Int)), (19, .int .u64 (z.2.2.1 : Int)), (20, .int .i64 (z.1 : Int))])
    (fun z h' n' w' => n1 = n' ∧ w = w' ∧ But bu h h' ∧ h' bu = some (.row (u32s z.2.2.2) e) ∧ z.1 ≤ V.length ∧ Dig z.2.2.2 ∧ z.2.2.2.length = U.length ∧ z.2.1 < 4294967296 ∧ z.2.2.1 ≤ 1 ∧ z.2.2.2.drop (z.1 + j) = U.drop (z.1 + j) ∧ dv 4294967296 z.2.2.2 + hh * dv 4294967296 (V.take z.1) * 4294967296 ^ j = dv 4294967296 U + (z.2.1 + z.2.2.1) * 4294967296 ^ (z.1 + j)) (fun z => V.length - z.1)
    (0, 0, 0, U) hL ⟨rfl, rfl, fun x _ => rfl, hrow, Nat.zero_le _, dU, rfl, by show 0 < 4294967296; decide, by show 0 ≤ 1; decide, rfl, by simp [dv]⟩ (by show V.length - 0 < LL; unfold LL; omega) ?_
  rintro ⟨i, c, br, U2⟩ t2 h2 _ _ ⟨rfl, rfl, hbut, hrow2, hi, dU2, hUl, hcB, hbr, hdr, hval⟩
  simp only at hrow2 hi dU2 hUl hcB hbr hdr hval
  simp only [NV, Nat.reduceEqDiff, reduceCtorEq]
  by_cases hiV : i = V.length
  · subst hiV
    repeat refine zR ?_
    simp only [NV, Nat.reduceEqDiff, reduceCtorEq]
    rw [EC_cond_false rfl]
    simp only [NV, Nat.reduceEqDiff, reduceCtorEq]
    rw [List.take_length] at hval
    exact hQ c br U2 _ h2 ⟨rfl, rfl, rfl, rfl, rfl, rfl, rfl, rfl, rfl, trivial⟩ hbut hrow2 dU2 hUl hcB hbr hdr hval
  obtain ⟨v, hv⟩ : ∃ x, V[i]? = some x := ⟨V[i]'(by omega), List.getElem?_eq_getElem (by omega)⟩
  have hv' : v < 4294967296 := dV v (List.mem_of_getElem? hv)
  obtain ⟨u, hu⟩ : ∃ x, U2[i + j]? = some x := ⟨U2[i + j]'(by omega), List.getElem?_eq_getElem (by omega)⟩
  have hu' : u < 4294967296 := dU2 u (List.mem_of_getElem? hu)
  have hp : hh * v ≤ 4294967295 * 4294967295 := Nat.mul_le_mul (by omega) (by omega)
  have hU2 : Sl h2 n1 1 (.slice (some ⟨bu, 0, none⟩) U.length U.length) (u32s U2) := Sl.own hrow2 hnew.2 hUl (Nat.le_refl _)
  have hV2 := hV.but hbut hne (Nat.le_refl _)
  repeat refine zR ?_
  simp only [NV, Nat.reduceEqDiff, reduceCtorEq]
  rw [EC_cond_true rfl]
  simp only [NV, Nat.reduceEqDiff, reduceCtorEq]
  repeat refine zR ?_
  refine st_at rfl rfl rfl rfl rfl rfl rfl hV2 rfl rfl hv (fun _ => rfl) rfl rfl rfl rfl fun _ => ?_
  refine st_cv64 rfl rfl rfl rfl rfl rfl rfl (by omega) ?_
  refine st_mul_u64 (a := hh) (b := v) rfl rfl rfl rfl rfl rfl (by omega) ?_
  generalize hpp : hh * v = pv at hp
  repeat refine zU ?_
  simp only [NV, Nat.reduceEqDiff, reduceCtorEq]
  refine zM ?_
  refine st_shr_u64 (a := pv + c) (s := 32) rfl rfl rfl rfl rfl rfl (by omega) ?_
  repeat refine zR ?_
  simp only [NV, Nat.reduceEqDiff, reduceCtorEq]
  repeat refine zR ?_
  refine st_at (j := i + j) rfl rfl rfl rfl rfl rfl rfl hU2 rfl (by omega) hu (fun _ => rfl) rfl rfl rfl rfl fun _ => ?_
  refine st_cv64 rfl rfl rfl rfl rfl rfl rfl (by omega) ?_
  refine zM ?_
  refine st_and_u64 (a := pv + c) (b := 4294967295) rfl rfl rfl rfl rfl rfl (by omega) ?_
  rw [show (pv + c) &&& 4294967295 = (pv + c) % 4294967296 from Nat.and_two_pow_sub_one_eq_mod _ 32]
  obtain ⟨pl, hpl⟩ : ∃ pl, pl = (pv + c) % 4294967296 := ⟨_, rfl⟩
  rw [← hpl]
  refine st_subw_u64 (a := u) (b := pl) rfl rfl rfl rfl rfl rfl (by omega) ?_
  refine zM ?_
  refine st_subw_u64 (a := (u + 18446744073709551616 - pl) % 18446744073709551616) (b := br) rfl rfl rfl rfl rfl rfl (by omega) ?_
  obtain ⟨X, hX⟩ : ∃ X, X = ((u + 18446744073709551616 - pl) % 18446744073709551616 + 18446744073709551616 - br) % 18446744073709551616 := ⟨_, rfl⟩
  rw [← hX]
  have hXe : X % 4294967296 + (pl + br) = u + X / 2 ^ 32 % 2 * 4294967296 := by omega
  repeat refine zR ?_
  simp only [NV, Nat.reduceEqDiff, reduceCtorEq]
  repeat refine zR ?_
  refine st_conv_u32 rfl rfl rfl rfl rfl rfl rfl ?_
  refine st_put (j := i + j) (v := .int .u32 ((X % 4294967296 : Nat) : Int)) rfl rfl rfl rfl rfl rfl rfl rfl (by omega) (by rw [u32s_len]; omega) hrow2 hnew.1 (fun _ => rfl) rfl rfl rfl (fun _ => rfl) rfl fun _ => ?_
  rw [u32s_set]
  simp only [NV, Nat.reduceEqDiff, reduceCtorEq]
  refine zM ?_
  refine st_shr_u64 (a := X) (s := 32) rfl rfl rfl rfl rfl rfl (by omega) ?_
  refine st_and_u64 (a := X / 2 ^ 32) (b := 1) rfl rfl rfl rfl rfl rfl (by omega) ?_
  rw [Nat.and_one_is_mod]
  repeat refine zR ?_
  simp only [NV, Nat.reduceEqDiff, reduceCtorEq]
  repeat refine zR ?_
  simp only [NV, Nat.reduceEqDiff, reduceCtorEq]
  refine goOn (i + 1, (pv + c) / 2 ^ 32, X / 2 ^ 32 % 2, U2.set (i + j) (X % 4294967296)) (by show V.length - (i + 1) < V.length - i; omega) ⟨rfl, rfl, rfl, rfl, rfl, rfl, rfl, rfl, rfl, by show Value.int .i64 _ = Value.int .i64 _; congr 1, trivial⟩ ⟨rfl, rfl, fun x hx => (upd_ne hx).trans (hbut x hx), upd_same _ _ _, by show i + 1 ≤ V.length; omega, dig_set dU2 (Nat.mod_lt _ (by omega)), by show (U2.set _ _).length = _; rw [List.length_set]; exact hUl, by show _ / _ < _; omega, by show _ % _ ≤ 1; omega, ?_, ?_⟩
  · show (U2.set (i + j) _).drop (i + 1 + j) = U.drop (i + 1 + j)
    rw [List.drop_set_of_lt (by omega), show i + 1 + j = i + j + 1 from by omega]
    have := congrArg (List.drop 1) hdr
    rw [List.drop_drop, List.drop_drop] at this
    exact this
  · show dv 4294967296 (U2.set (i + j) _) + hh * dv 4294967296 (V.take (i + 1)) * 4294967296 ^ j = dv 4294967296 U + ((pv + c) / 2 ^ 32 + X / 2 ^ 32 % 2) * 4294967296 ^ (i + 1 + j)
    have f1 := dv_set (B := 4294967296) (X % 4294967296) hu
    have := sub_law (c' := (pv + c) / 2 ^ 32) (br' := X / 2 ^ 32 % 2) (B := 4294967296) (hv := pv) f1 hval hXe (by omega)
    rw [show i + 1 + j = i + j + 1 from by omega, Nat.pow_succ (n := 4294967296), ← this, dv_take_succ hv, Nat.mul_add, Nat.add_mul, ← hpp, Nat.pow_add]
    congr 2
    rw [Nat.mul_comm (4294967296 ^ i) v, ← Nat.mul_assoc, Nat.mul_assoc]
theorem div_add (hV : Sl h n1 1 (.slice (some ⟨bv, 0, none⟩) V.length vc) (u32s V)) (hne : bv ≠ bu) (hnew : 3 * n ≤ bu ∧ bu < 3 * n1) (hrow : h bu = some (.row (u32s U) e)) (dV : Dig V) (dU : Dig U) (hl : U.length < 10000000000 ∧ j + V.length < U.length)
    {c : Code} (hc : bodyB Tryz.f195 [1, 1, 1, 1, 1, 1, 1, 1, 1, 1, 0, 1, 0, 0, 1, 0, 0, 1, 1, 1, 1, 1, 1, 1, 1, 0, 1, 0, 1, 1, 0, 1] = some c) {Q : Ex → SV → Prop}
    (hL : AllEq t [(8, sv), (9, .slice (some ⟨bv, 0, none⟩) V.length vc), (10, .slice (some ⟨bu, 0, none⟩) U.length U.length), (11, .int .i64 (V.length : Int)), (13, qv), (14, .int .i64 (j : Int)), (16, .int .u64 (hh : Int)), (18, .int .u64 (((0 : Nat) : Nat) : Int)), (24, .int .i64 (((0 : Nat) : Nat) : Int))])
    (hQ : ∀ (c : Nat) (U2 : List Nat) (t' : TF) (h' : HF), AllEq t' [(8, sv), (9, .slice (some ⟨bv, 0, none⟩) V.length vc), (10, .slice (some ⟨bu, 0, none⟩) U.length U.length), (11, .int .i64 (V.length : Int)), (13, qv), (14, .int .i64 (j : Int)), (16, .int .u64 (hh : Int)), (18, .int .u64 (c : Int))] → But bu h h' → h' bu = some (.row (u32s U2) e) → Dig U2 → U2.length = U.length → c ≤ 1 → U2.drop (V.length + j) = U.drop (V.length + j) → dv 4294967296 U2 + c * 4294967296 ^ (V.length + j) = dv 4294967296 U + dv 4294967296 V * 4294967296 ^ j → Q .normal ⟨t', h', n1, w⟩) : EC (ctx K n (Tryz.f195).ntmps) c ⟨t, h, n1, w⟩ Q := by
  obtain rfl := Option.some.inj (hc.symm.trans (rfl : bodyB Tryz.f195 [1, 1, 1, 1, 1, 1, 1, 1, 1, 1, 0, 1, 0, 0, 1, 0, 0, 1, 1, 1, 1, 1, 1, 1, 1, 0, 1, 0, 1, 1, 0, 1] = some _))
  clear hc
  simp only [NV, Nat.reduceEqDiff, reduceCtorEq]
  refine EC_for (α := Nat × Nat × List Nat) (fun z => [(8, sv), (9, .slice (some ⟨bv, 0, none⟩) V.length vc), (10, .slice (some ⟨bu, 0, none⟩) U.length U.length), (11, .int .i64 (V.length : Int)), (13, qv), (14, .int .i64 (j : Int)), (16, .int .u64 (hh : Int)), (18, .int .u64 (z.2.1 : Int)), (24, .int .i64 (z.1 : Int))])
    (fun z h' n' w' => n1 = n' ∧ w = w' ∧ But bu h h' ∧ h' bu = some (.row (u32s z.2.2) e) ∧ z.1 ≤ V.length ∧ Dig z.2.2 ∧ z.2.2.length = U.length ∧ z.2.1 ≤ 1 ∧ z.2.2.drop (z.1 + j) = U.drop (z.1 + j) ∧ dv 4294967296 z.2.2 + z.2.1 * 4294967296 ^ (z.1 + j) = dv 4294967296 U + dv 4294967296 (V.take z.1) * 4294967296 ^ j) (fun z => V.length - z.1)
    (0, 0, U) hL ⟨rfl, rfl, fun x _ => rfl, hrow, Nat.zero_le _, dU, rfl, by show 0 ≤ 1; decide, rfl, by simp [dv]⟩ (by show V.length - 0 < LL; unfold LL; omega) ?_
  rintro ⟨i, c, U2⟩ t2 h2 _ _ ⟨rfl, rfl, hbut, hrow2, hi, dU2, hUl, hcB, hdr, hval⟩
  simp only at hrow2 hi dU2 hUl hcB hdr hval
  simp only [NV, Nat.reduceEqDiff, reduceCtorEq]
  by_cases hiV : i = V.length
  · subst hiV
    repeat refine zR ?_
    simp only [NV, Nat.reduceEqDiff, reduceCtorEq]
    rw [EC_cond_false rfl]
    simp only [NV, Nat.reduceEqDiff, reduceCtorEq]
    rw [List.take_length] at hval
    exact hQ c U2 _ h2 ⟨rfl, rfl, rfl, rfl, rfl, rfl, rfl, rfl, trivial⟩ hbut hrow2 dU2 hUl hcB hdr hval
  obtain ⟨v, hv⟩ : ∃ x, V[i]? = some x := ⟨V[i]'(by omega), List.getElem?_eq_getElem (by omega)⟩
  have hv' : v < 4294967296 := dV v (List.mem_of_getElem? hv)
  obtain ⟨u, hu⟩ : ∃ x, U2[i + j]? = some x := ⟨U2[i + j]'(by omega), List.getElem?_eq_getElem (by omega)⟩
  have hu' : u < 4294967296 := dU2 u (List.mem_of_getElem? hu)
  have hU2 : Sl h2 n1 1 (.slice (some ⟨bu, 0, none⟩) U.length U.length) (u32s U2) := Sl.own hrow2 hnew.2 hUl (Nat.le_refl _)
  have hV2 := hV.but hbut hne (Nat.le_refl _)
  repeat refine zR ?_
  simp only [NV, Nat.reduceEqDiff, reduceCtorEq]
  rw [EC_cond_true rfl]
  simp only [NV, Nat.reduceEqDiff, reduceCtorEq]
  rw [EC_quietC rfl]
  repeat refine zR ?_
  refine st_at (j := i + j) rfl rfl rfl rfl rfl rfl rfl hU2 rfl (by omega) hu (fun _ => rfl) rfl rfl rfl rfl fun _ => ?_
  refine st_cv64 rfl rfl rfl rfl rfl rfl rfl (by omega) ?_
  repeat refine zR ?_
  refine st_at rfl rfl rfl rfl rfl rfl rfl hV2 rfl rfl hv (fun _ => rfl) rfl rfl rfl rfl fun _ => ?_
  repeat refine zU ?_
  simp only [NV, Nat.reduceEqDiff, reduceCtorEq]
  repeat refine zR ?_
  refine st_conv_u32 rfl rfl rfl rfl rfl rfl rfl ?_
  refine st_put (j := i + j) (v := .int .u32 (((c + (u + v)) % 4294967296 : Nat) : Int)) rfl rfl rfl rfl rfl rfl rfl rfl (by omega) (by rw [u32s_len]; omega) hrow2 hnew.1 (fun _ => rfl) rfl rfl rfl (fun _ => rfl) rfl fun _ => ?_
  rw [u32s_set]
  simp only [NV, Nat.reduceEqDiff, reduceCtorEq]
  repeat refine zU ?_
  simp only [NV, Nat.reduceEqDiff, reduceCtorEq]
  repeat refine zR ?_
  simp only [NV, Nat.reduceEqDiff, reduceCtorEq]
  refine goOn (i + 1, (c + (u + v)) / 4294967296, U2.set (i + j) ((c + (u + v)) % 4294967296)) (by show V.length - (i + 1) < V.length - i; omega) ⟨rfl, rfl, rfl, rfl, rfl, rfl, rfl, rfl, by show Value.int .i64 _ = Value.int .i64 _; congr 1, trivial⟩ ⟨rfl, rfl, fun x hx => (upd_ne hx).trans (hbut x hx), upd_same _ _ _, by show i + 1 ≤ V.length; omega, dig_set dU2 (Nat.mod_lt _ (by omega)), by show (U2.set _ _).length = _; rw [List.length_set]; exact hUl, by show _ / _ ≤ 1; omega, ?_, ?_⟩
  · show (U2.set (i + j) _).drop (i + 1 + j) = U.drop (i + 1 + j)
    rw [List.drop_set_of_lt (by omega), show i + 1 + j = i + j + 1 from by omega]
    have := congrArg (List.drop 1) hdr
    rw [List.drop_drop, List.drop_drop] at this
    exact this
  · show dv 4294967296 (U2.set (i + j) _) + (c + (u + v)) / 4294967296 * 4294967296 ^ (i + 1 + j) = dv 4294967296 U + dv 4294967296 (V.take (i + 1)) * 4294967296 ^ j
    have e3 := carry_set (B := 4294967296) (c := c) (p := v) (c' := (c + (u + v)) / 4294967296) (dv_set (B := 4294967296) ((c + (u + v)) % 4294967296) hu) (by omega)
    rw [show i + 1 + j = i + j + 1 from by omega, Nat.pow_succ (n := 4294967296), e3, hval, dv_take_succ hv, Nat.add_mul, Nat.pow_add]
    have e4 : 4294967296 ^ i * v * 4294967296 ^ j = v * (4294967296 ^ i * 4294967296 ^ j) := by rw [Nat.mul_comm (4294967296 ^ i) v, Nat.mul_assoc]
    rw [e4]
    omega
end
end Go.Proofs.YtokfihhdllmbmaaGreatDoor
namespace Go.Proofs.YtokfihhdllmbmaaGreatDoor
open Go Go.GL
theorem store_n {E : Env} {ty : TypeId} {a x : Value} {h h' : HF} {n n' : Nat} {v : Value} {W : List Nat} (he : storeF E ty a x h n = some (.val v h' n' W)) : n' = n := by
  unfold storeF at he
  split at he
  · split at he
    · split at he
      · injection he with he; injection he with _ _ e _; exact e.symm
      · cases he
    · cases he
  · cases he
theorem store_val {E : Env} {ty : TypeId} {a x : Value} {h : HF} {n : Nat} {r : RF} (he : storeF E ty a x h n = some r) : ∃ v h' n' W, r = .val v h' n' W := by
  unfold storeF at he
  split at he
  · split at he
    · split at he
      · injection he with he; subst he; exact ⟨_, _, _, _, rfl⟩
      · cases he
    · cases he
  · cases he
theorem okLoads_bits {m : Nat} {W : List Nat} : ∀ {l : List (Nat × Nat)}, allAl m l = true → okLoads m W l = true := by
  intro l
  induction l with
  | nil => intro _; rfl
  | cons x l ih =>
    intro h
    obtain ⟨i, b⟩ := x
    unfold allAl at h
    split at h
    · rename_i hb
      unfold okLoads
      rw [hb, Bool.true_or]
      exact ih h
    · cases h
def allBits (m : Nat) : Nat → Bool
  | 0 => true
  | i + 1 => m.testBit i && allBits m i
theorem allBits_get {m : Nat} : ∀ {i j : Nat}, allBits m i = true → j < i → m.testBit j = true := by
  intro i
  induction i with
  | zero => intro j _ hj; omega
  | succ i ih =>
    intro j h hj
    simp only [allBits, Bool.and_eq_true] at h
    by_cases e : j = i
    · rw [e]; exact h.1
    · exact ih h.2 (by omega)
theorem allAl_of {m : Nat} : ∀ {l : List (Nat × Nat)}, (∀ x ∈ l, m.testBit x.1 = true) → allAl m l = true := by
  intro l
  induction l with
  | nil => intro _; rfl
  | cons x l ih =>
    intro h
    obtain ⟨i, b⟩ := x
    unfold allAl
    rw [h (i, b) (by simp)]
    exact ih fun y hy => h y (by simp [hy])
theorem draw_store {X : CtxF} {ops : List Oper} {o : Oper} {ty : TypeId} {a x : Operand} {mo : Nat} (ho : o.op = .store ty a x) : ∀ (l : List Oper) (ms : List Nat) (i : Nat) (s : SV) (ld : List (Nat × Nat)), l.length = ms.length → l.all (fun o => qOp X.E o.op) = true → allBits mo (i + l.length) = true → (∀ y ∈ ld, y.1 < i) → drawOpsF X ops (l ++ [o]) (ms ++ [mo]) i ⟨s, [], ld, []⟩ = seqF X ops (l ++ [o]) s := by
  intro l
  induction l with
  | nil =>
    intro ms i s ld hl _ hm hld
    have : ms = [] := List.length_eq_zero_iff.1 (by simpa using hl.symm)
    subst this
    show drawOpsF X ops [o] [mo] i ⟨s, [], ld, []⟩ = seqF X ops [o] s
    unfold drawOpsF seqF
    simp only
    cases hw : wantsF ops s.t o with
    | false => simp only [drawOpsF, seqF]
    | true =>
      simp only
      have hc : cls o.op = 3 := by rw [ho]; rfl
      unfold drawF opF
      simp only [hc, allEfF, allAl, Bool.and_self]
      unfold effKF
      have e1 : effF X.E o.op (evF s.t) s.h s.n = storeF X.E ty (evF s.t a) (evF s.t x) s.h s.n := by rw [ho]; rfl
      rw [e1]
      cases he : storeF X.E ty (evF s.t a) (evF s.t x) s.h s.n with
      | none => rfl
      | some r =>
        obtain ⟨v, h', n', W, rfl⟩ := store_val he
        have en := store_n he
        subst en
        simp only
        have hok : okLoads mo W ld = true := okLoads_bits (allAl_of fun y hy => allBits_get (by simpa using hm) (hld y hy))
        unfold doneF
        split
        · simp only [hok, Nat.ble_eq_true_of_le (Nat.le_refl _), Bool.and_self, drawOpsF, seqF]
        · rfl
  | cons p l ih =>
    intro ms i s ld hl hq hm hld
    cases ms with
    | nil => simp at hl
    | cons m ms =>
      simp only [List.all_cons, Bool.and_eq_true] at hq
      have hl' : l.length = ms.length := by simpa using hl
      have hm' : allBits mo (i + 1 + l.length) = true := by rw [show i + 1 + l.length = i + (p :: l).length from by simp; omega]; exact hm
      have hld' : ∀ y ∈ ld, y.1 < i + 1 := fun y hy => by have := hld y hy; omega
      show drawOpsF X ops (p :: (l ++ [o])) (m :: (ms ++ [mo])) i ⟨s, [], ld, []⟩ = seqF X ops (p :: (l ++ [o])) s
      unfold drawOpsF seqF
      simp only
      cases hw : wantsF ops s.t p with
      | false =>
        simp only
        congr 1
        funext s1
        exact ih ms (i + 1) s1 ld hl' hq.2 hm' hld'
      | true =>
        simp only
        unfold drawF opF
        rcases qOp_or hq.1 with hlt | ⟨t, d, x, k, hp, hk⟩
        · cases hc : cls p.op with
          | zero =>
            simp only [hc]
            cases pureE X.E p.op (evF s.t) with
            | none => rfl
            | some v =>
              simp only
              congr 1
              funext s1
              exact ih ms (i + 1) s1 ld hl' hq.2 hm' hld'
          | succ c =>
            cases c with
            | zero =>
              simp only [hc, readAtF]
              cases loadF X.E p.op (evF s.t) s.h with
              | none => rfl
              | some vb =>
                obtain ⟨v, b⟩ := vb
                simp only [okEffsF, okAls, Bool.and_self]
                congr 1
                funext s1
                exact ih ms (i + 1) s1 _ hl' hq.2 hm' fun y hy => by
                  rcases List.mem_cons.1 hy with rfl | hy
                  · show i < i + 1; omega
                  · exact hld' y hy
            | succ c => omega
        · have hc : cls p.op = 4 := by rw [hp]; rfl
          have hm2 : mkE X.E p.op (evF s.t) = none := by rw [hp]; exact bytesMk_int hk _
          simp only [hc, hm2]
          cases hpu : pureE X.E p.op (evF s.t) with
          | none =>
            rw [hp]
            simp only [textF_int hk]
          | some v =>
            rw [hp]
            simp only [textF_int hk]
            congr 1
            funext s1
            exact ih ms (i + 1) s1 ld hl' hq.2 hm' hld'
def lastOk (ops : List Oper) (E : Env) : Bool := (match ops.reverse with | o :: r => (match o.op with | .store _ _ _ => r.all (fun o => qOp E o.op) && allBits ((masks ops []).getLastD 0) r.length | _ => false) | [] => false)
theorem EC_store {X : CtxF} {id : Nat} {ops : Array Oper} {s : SV} {Q : Ex → SV → Prop} (hq : lastOk ops.toList X.E = true) : EC X (.region id ops true) s Q ↔ EO X ops.toList ops.toList s (Q .normal) := by
  unfold EC EO
  rw [execF]
  have key : drawOpsF X ops.toList ops.toList (masks ops.toList []) 0 ⟨s, [], [], []⟩ = seqF X ops.toList ops.toList s := by
    unfold lastOk at hq
    split at hq
    · rename_i o r hr
      split at hq
      · rename_i ty a x ho
        simp only [Bool.and_eq_true] at hq
        have e1 : ops.toList = r.reverse ++ [o] := by
          have := congrArg List.reverse hr
          simpa using this
        have hml : (masks ops.toList []).length = r.length + 1 := by rw [masks_len, e1]; simp
        obtain ⟨ms, mo, hms⟩ : ∃ ms mo, masks ops.toList [] = ms ++ [mo] := ⟨(masks ops.toList []).dropLast, (masks ops.toList []).getLast (by intro e; rw [e] at hml; simp at hml), (List.dropLast_concat_getLast _).symm⟩
        rw [hms] at hq hml ⊢
        have hmo : (ms ++ [mo]).getLastD 0 = mo := by simp
        rw [hmo] at hq
        have := draw_store (X := X) (ops := ops.toList) ho r.reverse ms 0 s [] (by simp at hml ⊢; omega) (by simpa using hq.1) (by simpa using hq.2) (fun y hy => absurd hy List.not_mem_nil)
        rw [← e1] at this
        exact this
      · cases hq
    · cases hq
  rw [key]
  cases h : seqF X ops.toList ops.toList s with
  | none => simp
  | some r => simp only [ex_some]; simp
end Go.Proofs.YtokfihhdllmbmaaGreatDoor
namespace Go.Proofs.YtokfihhdllmbmaaGreatDoor
open Go Go.GL
theorem Sl.pre {h : HF} {m b len cap : Nat} {e : TypeId} {O T : List Nat} (hrow : h b = some (.row (u32s (O ++ T)) e)) (hb : b < 3 * m) (hl : O.length = len) (hc : len ≤ cap) : Sl h m 1 (.slice (some ⟨b, 0, none⟩) len cap) (u32s O) :=
  .at_ hb hrow rfl hc (by rw [u32s_len, List.length_append]; omega) (by rw [List.drop_zero, u32s_append, List.take_append_of_le_length (by rw [u32s_len]; omega), List.take_of_length_le (by rw [u32s_len]; omega)])
theorem pow_split {s : Nat} (hs : s ≤ 32) : 2 ^ s * 2 ^ (32 - s) = 4294967296 := by rw [← Nat.pow_add, show s + (32 - s) = 32 from by omega]
theorem shr_digit {x y s : Nat} (hs : s ≤ 32) : (x / 2 ^ s + y * 2 ^ (32 - s) % 4294967296) * 2 ^ s + x % 2 ^ s = x + y % 2 ^ s * 4294967296 := by
  have e : y * 2 ^ (32 - s) % 4294967296 = y % 2 ^ s * 2 ^ (32 - s) := by rw [← pow_split hs, Nat.mul_mod_mul_right]
  rw [e, Nat.add_mul, Nat.mul_assoc (y % 2 ^ s), Nat.mul_comm (2 ^ (32 - s)), pow_split hs]
  have := Nat.div_add_mod x (2 ^ s)
  rw [Nat.mul_comm (2 ^ s)] at this
  omega
theorem shr_lt {x s : Nat} (hx : x < 4294967296) (hs : s ≤ 32) : x / 2 ^ s < 2 ^ (32 - s) := by
  rw [Nat.div_lt_iff_lt_mul (Nat.pow_pos (by omega)), Nat.mul_comm, pow_split hs]
  exact hx
theorem set_mid (D : List Nat) (x d : Nat) (R : List Nat) : (D ++ x :: R).set D.length d = D ++ d :: R := by
  rw [List.set_append_right _ _ (Nat.le_refl _)]
  simp
theorem EC_cutg {α : Type} {X : CtxF} {a : Code} {s : SV} {Q : Ex → SV → Prop} (live : α → List (Nat × Value)) (I : α → HF → Nat → List Nat → Prop) (ha : EC X a s (cutx live I Q)) (hb : ∀ z t h n w, I z h n w → Q .normal ⟨chain t (live z), h, n, w⟩) : EC X a s Q := by
  refine EC_mono ha fun e s' hs => ?_
  cases e with
  | normal =>
    obtain ⟨z, h1, h2⟩ := hs
    have := hb z s'.t s'.h s'.n s'.w h2
    rw [chain_self h1] at this
    exact this
  | exit i => exact hs
  | ret => exact hs
section
variable {K n n1 : Nat} {h : HF} {t : TF} {w : List Nat} {bu rc : Nat} {e : TypeId} {R T : List Nat} {s : Nat} {qv : Value}
set_option maxHeartbeats 1000000
set_option maxRecDepth 100000
theorem div_back (hnew : 3 * n ≤ bu ∧ bu < 3 * n1) (hrow : h bu = some (.row (u32s (R ++ T)) e)) (dR : Dig R) (hl : R.length < 10000000000 ∧ R.length ≤ rc) (hs : s < 32)
    {c : Code} (hc : bodyB Tryz.f195 [1, 1, 1, 1, 1, 1, 1, 1, 1, 1, 1, 1, 0, 1] = some c) {Q : Ex → SV → Prop}
    (hL : AllEq t [(8, .int .u64 (s : Int)), (13, qv), (25, .slice (some ⟨bu, 0, none⟩) R.length rc), (26, .int .i64 (((0 : Nat) : Nat) : Int))])
    (hQ : ∀ (D : List Nat) (t' : TF) (h' : HF), AllEq t' [(8, .int .u64 (s : Int)), (13, qv), (25, .slice (some ⟨bu, 0, none⟩) R.length rc)] → But bu h h' → h' bu = some (.row (u32s (D ++ T)) e) → Dig D → D.length = R.length → dv 4294967296 D * 2 ^ s + (R[0]?).getD 0 % 2 ^ s = dv 4294967296 R → Q .normal ⟨t', h', n1, w⟩) : EC (ctx K n (Tryz.f195).ntmps) c ⟨t, h, n1, w⟩ Q := by
  obtain rfl := Option.some.inj (hc.symm.trans (rfl : bodyB Tryz.f195 [1, 1, 1, 1, 1, 1, 1, 1, 1, 1, 1, 1, 0, 1] = some _))
  clear hc
  have h2p : 0 < 2 ^ s := Nat.pow_pos (by omega)
  simp only [NV, Nat.reduceEqDiff, reduceCtorEq]
  refine EC_for (α := List Nat) (fun D => [(8, .int .u64 (s : Int)), (13, qv), (25, .slice (some ⟨bu, 0, none⟩) R.length rc), (26, .int .i64 (D.length : Int))])
    (fun D h' n' w' => n1 = n' ∧ w = w' ∧ But bu h h' ∧ h' bu = some (.row (u32s (D ++ (R.drop D.length ++ T))) e) ∧ D.length ≤ R.length ∧ Dig D ∧ dv 4294967296 D * 2 ^ s + (R[0]?).getD 0 % 2 ^ s = dv 4294967296 (R.take D.length) + (R[D.length]?).getD 0 % 2 ^ s * 4294967296 ^ D.length) (fun D => R.length - D.length)
    [] hL ⟨rfl, rfl, fun x _ => rfl, hrow, Nat.zero_le _, fun d hd => absurd hd List.not_mem_nil, by simp [dv]⟩ (by show R.length - 0 < LL; unfold LL; omega) ?_
  rintro D t2 h2 _ _ ⟨rfl, rfl, hbut, hrow2, hD, dD, hval⟩
  simp only [NV, Nat.reduceEqDiff, reduceCtorEq]
  by_cases hi : D.length = R.length
  · repeat refine zR ?_
    simp only [NV, Nat.reduceEqDiff, reduceCtorEq]
    rw [EC_cond_false rfl]
    simp only [NV, Nat.reduceEqDiff, reduceCtorEq]
    rw [hi, List.drop_length, List.nil_append] at hrow2
    rw [hi, List.take_length, List.getElem?_eq_none (Nat.le_refl _)] at hval
    refine hQ D _ h2 ⟨rfl, rfl, rfl, trivial⟩ hbut hrow2 dD hi ?_
    rw [hval]
    simp
  obtain ⟨x, hx⟩ : ∃ x, R[D.length]? = some x := ⟨R[D.length]'(by omega), List.getElem?_eq_getElem (by omega)⟩
  have hx' : x < 4294967296 := dR x (List.mem_of_getElem? hx)
  have hdx : x / 2 ^ s ≤ x := Nat.div_le_self _ _
  rw [drop_cons hx, List.cons_append] at hrow2
  have hS1 : Sl h2 n1 1 (.slice (some ⟨bu, 0, none⟩) R.length rc) (u32s (D ++ x :: R.drop (D.length + 1))) := Sl.pre (T := T) (by rw [List.append_assoc, List.cons_append]; exact hrow2) hnew.2 (by simp; omega) hl.2
  repeat refine zR ?_
  simp only [NV, Nat.reduceEqDiff, reduceCtorEq]
  rw [EC_cond_true rfl]
  simp only [NV, Nat.reduceEqDiff, reduceCtorEq]
  repeat refine zR ?_
  refine st_at (j := D.length) (dv := x) rfl rfl rfl rfl rfl rfl rfl hS1 rfl rfl (by simp) (fun _ => rfl) rfl rfl rfl rfl fun _ => ?_
  refine zM ?_
  refine st_shr_u32 (a := x) (s := s) rfl rfl rfl rfl rfl rfl (by omega) ?_
  refine st_put (j := D.length) (v := .int .u32 ((x / 2 ^ s : Nat) : Int)) rfl rfl rfl rfl rfl rfl rfl rfl rfl (by rw [u32s_len]; simp; omega) hrow2 hnew.1 (fun _ => rfl) rfl rfl rfl (fun _ => rfl) rfl fun _ => ?_
  rw [u32s_set, set_mid]
  simp only [NV, Nat.reduceEqDiff, reduceCtorEq]
  repeat refine zR ?_
  simp only [NV, Nat.reduceEqDiff, reduceCtorEq]
  have hy' : (R[D.length + 1]?).getD 0 < 4294967296 := by
    cases hc' : R[D.length + 1]? with
    | none => decide
    | some x => exact dR x (List.mem_of_getElem? hc')
  refine EC_cutg (α := HF) (fun _ => [(8, .int .u64 (s : Int)), (13, qv), (25, .slice (some ⟨bu, 0, none⟩) R.length rc), (26, .int .i64 (D.length : Int))])
    (fun g h' n' w' => g = h' ∧ n1 = n' ∧ w = w' ∧ But bu h g ∧ g bu = some (.row (u32s (D ++ (x / 2 ^ s + (R[D.length + 1]?).getD 0 * 2 ^ (32 - s) % 4294967296) :: (R.drop (D.length + 1) ++ T))) e)) ?_ ?_
  · by_cases hj : D.length + 1 < R.length
    · obtain ⟨y, hy⟩ : ∃ y, R[D.length + 1]? = some y := ⟨R[D.length + 1]'(by omega), List.getElem?_eq_getElem (by omega)⟩
      have hyl : y < 4294967296 := dR y (List.mem_of_getElem? hy)
      have hyp : y * 2 ^ (32 - s) < 18446744073709551616 := by
        have h1 : 2 ^ (32 - s) ≤ 2 ^ 32 := Nat.pow_le_pow_right (by omega) (by omega)
        have : y * 2 ^ (32 - s) ≤ 4294967295 * 4294967296 := Nat.mul_le_mul (by omega) h1
        omega
      rw [EC_cond_true (by show Value.bool _ = _; rw [decide_eq_true (by omega)])]
      rw [EC_store rfl]
      have hrow3 : upd h2 bu (some (.row (u32s (D ++ x / 2 ^ s :: (R.drop (D.length + 1) ++ T))) e)) bu = some (.row (u32s (D ++ x / 2 ^ s :: (R.drop (D.length + 1) ++ T))) e) := upd_same _ _ _
      have hS2 : Sl (upd h2 bu (some (.row (u32s (D ++ x / 2 ^ s :: (R.drop (D.length + 1) ++ T))) e))) n1 1 (.slice (some ⟨bu, 0, none⟩) R.length rc) (u32s (D ++ x / 2 ^ s :: R.drop (D.length + 1))) := Sl.pre (T := T) (by rw [List.append_assoc, List.cons_append]; exact hrow3) hnew.2 (by simp; omega) hl.2
      repeat refine zR ?_
      refine st_at (j := D.length) (dv := x / 2 ^ s) rfl rfl rfl rfl rfl rfl rfl hS2 rfl rfl (by simp) (fun _ => rfl) rfl rfl rfl rfl fun _ => ?_
      repeat refine zR ?_
      refine st_at (j := D.length + 1) (dv := y) rfl rfl rfl rfl rfl rfl rfl hS2 rfl (by omega) (by rw [List.getElem?_append_right (by omega), show D.length + 1 - D.length = 1 from by omega, List.getElem?_cons_succ, List.getElem?_drop, Nat.add_zero]; exact hy) (fun _ => rfl) rfl rfl rfl rfl fun _ => ?_
      refine st_cv64 rfl rfl rfl rfl rfl rfl rfl (by omega) ?_
      refine zM ?_
      refine st_sub_u64 (a := 32) (b := s) rfl rfl rfl rfl rfl rfl (by omega) ?_
      refine st_shl_u64 (a := y) (s := 32 - s) rfl rfl rfl rfl rfl rfl (by omega) ?_
      rw [Nat.mod_eq_of_lt hyp]
      refine st_conv_u32 rfl rfl rfl rfl rfl rfl rfl ?_
      refine st_or_u32 (a := x / 2 ^ s) (b := y * 2 ^ (32 - s) % 4294967296) rfl rfl rfl rfl rfl rfl (by omega) ?_
      rw [or_low (by omega) (shr_lt hx' (by omega))]
      refine st_put (j := D.length) (v := .int .u32 ((x / 2 ^ s + y * 2 ^ (32 - s) % 4294967296 : Nat) : Int)) rfl rfl rfl rfl rfl rfl rfl rfl rfl (by rw [u32s_len]; simp; omega) hrow3 hnew.1 (fun _ => rfl) rfl rfl rfl (fun _ => rfl) rfl fun _ => ?_
      rw [u32s_set, set_mid, upd_upd]
      simp only [NV, Nat.reduceEqDiff, reduceCtorEq]
      exact cutx_mk _ ⟨rfl, rfl, rfl, rfl, trivial⟩ ⟨rfl, rfl, rfl, fun b hb => (upd_ne hb).trans (hbut b hb), by rw [hy]; exact upd_same _ _ _⟩
    · rw [EC_cond_false (by show Value.bool _ = _; rw [decide_eq_false (by omega)])]
      simp only [NV, Nat.reduceEqDiff, reduceCtorEq]
      exact cutx_mk _ ⟨rfl, rfl, rfl, rfl, trivial⟩ ⟨rfl, rfl, rfl, fun b hb => (upd_ne hb).trans (hbut b hb), by rw [List.getElem?_eq_none (by omega)]; simp only [Option.getD_none, Nat.zero_mul, Nat.zero_mod, Nat.add_zero]; exact upd_same _ _ _⟩
  rintro g t3 _ _ _ ⟨rfl, rfl, rfl, hbut3, hrow3⟩
  generalize hyy : (R[D.length + 1]?).getD 0 = y at hy' hrow3
  have hdl : x / 2 ^ s + y * 2 ^ (32 - s) % 4294967296 < 4294967296 := or_lt (by omega) (shr_lt hx' (by omega))
  simp only [NV, Nat.reduceEqDiff, reduceCtorEq]
  repeat refine zR ?_
  simp only [NV, Nat.reduceEqDiff, reduceCtorEq]
  refine goOn (D ++ [x / 2 ^ s + y * 2 ^ (32 - s) % 4294967296]) (by simp; omega) ⟨rfl, rfl, rfl, by show Value.int .i64 _ = Value.int .i64 _; simp, trivial⟩ ⟨rfl, rfl, hbut3, ?_, by simp; omega, dig_snoc dD hdl, ?_⟩
  · show g bu = some (.row (u32s (D ++ [_] ++ (R.drop (D ++ [_]).length ++ T))) e)
    rw [List.length_append, List.length_singleton, List.append_assoc]
    exact hrow3
  · rw [List.length_append, List.length_singleton, dv_snoc, dv_take_succ hx, hyy]
    rw [hx] at hval
    simp only [Option.getD_some] at hval
    have e1 := shr_digit (x := x) (y := y) (s := s) (by omega)
    generalize x / 2 ^ s + y * 2 ^ (32 - s) % 4294967296 = d at *
    generalize (R[0]?).getD 0 % 2 ^ s = r0 at *
    have e2 : (d * 2 ^ s + x % 2 ^ s) * 4294967296 ^ D.length = (x + y % 2 ^ s * 4294967296) * 4294967296 ^ D.length := by rw [e1]
    rw [Nat.add_mul, Nat.add_mul x] at e2
    rw [Nat.add_mul, Nat.pow_succ (n := 4294967296)]
    have e3 : 4294967296 ^ D.length * d * 2 ^ s = d * 2 ^ s * 4294967296 ^ D.length := by rw [Nat.mul_comm (4294967296 ^ D.length) d, Nat.mul_right_comm]
    have e4 : y % 2 ^ s * (4294967296 ^ D.length * 4294967296) = y % 2 ^ s * 4294967296 * 4294967296 ^ D.length := by rw [Nat.mul_comm (4294967296 ^ D.length), ← Nat.mul_assoc]
    rw [e3, e4, Nat.mul_comm (4294967296 ^ D.length) x]
    omega
end
end Go.Proofs.YtokfihhdllmbmaaGreatDoor
namespace Go.Proofs.YtokfihhdllmbmaaGreatDoor
theorem mul_lt_cancel {a b P : Nat} (h : a * P < b * P) : a < b := by
  apply Classical.byContradiction
  intro hn
  have : b * P ≤ a * P := Nat.mul_le_mul_right P (by omega)
  omega
theorem fin_a {T hh V P U L W : Nat} (hU : U = L + W * P) (hL : L < P) (hV : 0 < V) (h : T + hh * V * P = U) (hq : W / V ≤ hh) : hh = W / V := by
  have h1 : hh * V * P < (W + 1) * P := by rw [Nat.add_mul, Nat.one_mul]; omega
  have h2 := mul_lt_cancel h1
  have h3 : hh ≤ W / V := by rw [Nat.le_div_iff_mul_le hV]; omega
  omega
theorem fin_b {T hh V P U L W BB : Nat} (hU : U = L + W * P) (hV : 0 < V) (h : T + hh * V * P = U + BB) (hT : T < BB) (hq : hh ≤ W / V + 1) : hh = W / V + 1 := by
  have h1 : W * P < hh * V * P := by omega
  have h2 := mul_lt_cancel h1
  have h3 : ¬ hh ≤ W / V := by rw [Nat.le_div_iff_mul_le hV]; omega
  omega
theorem unique_top {a b x y P : Nat} (ha : a < P) (hb : b < P) (h : a + x * P = b + y * P) : a = b ∧ x = y := by
  have h1 : (a + x * P) % P = (b + y * P) % P := by rw [h]
  rw [Nat.add_mul_mod_self_right, Nat.add_mul_mod_self_right, Nat.mod_eq_of_lt ha, Nat.mod_eq_of_lt hb] at h1
  subst h1
  have h2 : x * P = y * P := by omega
  exact ⟨rfl, Nat.eq_of_mul_eq_mul_right (by omega) h2⟩
theorem dv_at {B : Nat} {l : List Nat} {i x : Nat} (hx : l[i]? = some x) (hz : dv B (l.drop (i + 1)) = 0) : dv B l = dv B (l.take i) + x * B ^ i := by
  have hlt := (List.getElem?_eq_some_iff.1 hx).1
  have e : dv B l = dv B (l.take (i + 1)) + B ^ (l.take (i + 1)).length * dv B (l.drop (i + 1)) := by rw [← dv_append, List.take_append_drop]
  rw [e, hz, Nat.mul_zero, Nat.add_zero, dv_take_succ hx, Nat.mul_comm]
theorem dv_parts (B : Nat) (l : List Nat) (j : Nat) (h : j ≤ l.length) : dv B l = dv B (l.take j) + dv B (l.drop j) * B ^ j := by
  have e : dv B l = dv B (l.take j) + B ^ (l.take j).length * dv B (l.drop j) := by rw [← dv_append, List.take_append_drop]
  rw [e, List.length_take, Nat.min_eq_left h, Nat.mul_comm]
theorem dv_take_lt {l : List Nat} (h : Dig l) {i : Nat} (hi : i ≤ l.length) : dv 4294967296 (l.take i) < 4294967296 ^ i := by
  have := dv_lt (B := 4294967296) (l := l.take i) fun d hd => h d (List.mem_of_mem_take hd)
  rw [List.length_take, Nat.min_eq_left hi] at this
  exact this
theorem round_a {U U2 : List Nat} {j i hh V w0 c br : Nat} (hU : j ≤ U.length) (dU : Dig U) (hV : 0 < V) (h2 : dv 4294967296 U2 + hh * V * 4294967296 ^ j = dv 4294967296 U + (c + br) * 4294967296 ^ i) (hw : U2[i]? = some w0) (hle : c + br ≤ w0) (hq : dv 4294967296 (U.drop j) / V ≤ hh) :
    hh = dv 4294967296 (U.drop j) / V ∧ dv 4294967296 (U2.set i (w0 - c - br)) + dv 4294967296 (U.drop j) / V * V * 4294967296 ^ j = dv 4294967296 U := by
  have e1 := dv_set (B := 4294967296) (w0 - c - br) hw
  have e2 : dv 4294967296 (U2.set i (w0 - c - br)) + hh * V * 4294967296 ^ j = dv 4294967296 U := by
    have e3 : w0 * 4294967296 ^ i = (w0 - c - br) * 4294967296 ^ i + (c + br) * 4294967296 ^ i := by rw [← Nat.add_mul]; congr 1; omega
    omega
  have e4 := fin_a (dv_parts 4294967296 U j hU) (dv_take_lt dU hU) hV e2 hq
  rw [← e4]
  exact ⟨rfl, e2⟩
theorem round_b {U U3 U4 : List Nat} {j i hh V x c2 : Nat} (hU : j ≤ U.length) (dU : Dig U) (hV : 0 < V) (hVi : V * 4294967296 ^ j ≤ 4294967296 ^ i) (d3 : Dig U3) (d4 : Dig U4) (hx3 : U3[i]? = some x) (hz3 : dv 4294967296 (U3.drop (i + 1)) = 0) (hx4 : U4[i]? = some x) (hz4 : dv 4294967296 (U4.drop (i + 1)) = 0)
    (h3 : dv 4294967296 U3 + hh * V * 4294967296 ^ j = dv 4294967296 U + 4294967296 * 4294967296 ^ i) (h4 : dv 4294967296 U4 + c2 * 4294967296 ^ i = dv 4294967296 U3 + V * 4294967296 ^ j) (hq : hh ≤ dv 4294967296 (U.drop j) / V + 1) :
    hh = dv 4294967296 (U.drop j) / V + 1 ∧ (x + c2) % 4294967296 = 0 ∧ dv 4294967296 (U4.set i 0) + dv 4294967296 (U.drop j) / V * V * 4294967296 ^ j = dv 4294967296 U := by
  have hl3 := (List.getElem?_eq_some_iff.1 hx3).1
  have hl4 := (List.getElem?_eq_some_iff.1 hx4).1
  have hxl : x < 4294967296 := d3 x (List.mem_of_getElem? hx3)
  have e3 := dv_at hx3 hz3
  have e4 := dv_at hx4 hz4
  have t3 := dv_take_lt d3 (show i ≤ U3.length by omega)
  have t4 := dv_take_lt d4 (show i ≤ U4.length by omega)
  have hT : dv 4294967296 U3 < 4294967296 * 4294967296 ^ i := by
    have : (x + 1) * 4294967296 ^ i ≤ 4294967296 * 4294967296 ^ i := Nat.mul_le_mul_right _ (by omega)
    rw [Nat.add_mul, Nat.one_mul] at this
    omega
  have hp := dv_parts 4294967296 U j hU
  have tl := dv_take_lt dU hU
  have hh1 := fin_b hp hV h3 hT hq
  generalize dv 4294967296 (U.drop j) = W at *
  obtain ⟨r, hr⟩ : ∃ r, W = W / V * V + r ∧ r < V := ⟨W % V, by rw [Nat.mul_comm]; exact (Nat.div_add_mod W V).symm, Nat.mod_lt _ hV⟩
  generalize W / V = q at *
  obtain ⟨hr1, hr2⟩ := hr
  subst hh1
  -- the parts
  have f1 : (q + 1) * V * 4294967296 ^ j = q * V * 4294967296 ^ j + V * 4294967296 ^ j := by rw [Nat.add_mul, Nat.add_mul, Nat.one_mul]
  have f2 : W * 4294967296 ^ j = q * V * 4294967296 ^ j + r * 4294967296 ^ j := by rw [hr1, Nat.add_mul]
  have f3 : dv 4294967296 (U.take j) + r * 4294967296 ^ j < 4294967296 ^ i := by
    have : (r + 1) * 4294967296 ^ j ≤ V * 4294967296 ^ j := Nat.mul_le_mul_right _ (by omega)
    rw [Nat.add_mul, Nat.one_mul] at this
    omega
  have f4 : dv 4294967296 (U4.take i) + (x + c2) * 4294967296 ^ i = (dv 4294967296 (U.take j) + r * 4294967296 ^ j) + 4294967296 * 4294967296 ^ i := by
    rw [Nat.add_mul x]
    omega
  obtain ⟨g1, g2⟩ := unique_top t4 f3 f4
  refine ⟨rfl, by rw [g2], ?_⟩
  have e5 := dv_set (B := 4294967296) 0 hx4
  rw [Nat.zero_mul, Nat.add_zero] at e5
  omega
theorem shifted {C L : List Nat} {m s top : Nat} (hCl : C.length = m + 2) (dC : Dig C) (htop : C[m + 1]? = some top) (h1 : 2147483648 ≤ top * 2 ^ s) (h2 : top * 2 ^ s < 4294967296) (hs : s < 32) (hL : L.length = C.length + 1) (dL : Dig L) (hv : dv 4294967296 L = dv 4294967296 C * 2 ^ s) :
    ∃ v1 v2, trimL L = L.take (m + 2) ∧ (L.take (m + 2))[m + 1]? = some v1 ∧ (L.take (m + 2))[m]? = some v2 ∧ 2147483648 ≤ v1 ∧ v1 < 4294967296 ∧ v2 < 4294967296 ∧ dv 4294967296 (L.take (m + 2)) = dv 4294967296 C * 2 ^ s := by
  have hp : 0 < 2 ^ s := Nat.pow_pos (by omega)
  have hC := dv_take_succ (B := 4294967296) htop
  rw [List.take_of_length_le (by omega)] at hC
  have hlow := dv_take_lt dC (show m + 1 ≤ C.length by omega)
  -- (top + 1) 2^s is at most the base
  have hts : (top + 1) * 2 ^ s ≤ 4294967296 := by
    have e := pow_split (s := s) (by omega)
    have : top < 2 ^ (32 - s) := by
      apply mul_lt_cancel (P := 2 ^ s)
      rw [Nat.mul_comm (2 ^ (32 - s)), e]
      exact h2
    have h3 : (top + 1) * 2 ^ s ≤ 2 ^ (32 - s) * 2 ^ s := Nat.mul_le_mul_right _ (by omega)
    rw [Nat.mul_comm (2 ^ (32 - s)), e] at h3
    exact h3
  have hub : dv 4294967296 L < 4294967296 ^ (m + 2) := by
    rw [hv]
    have h3 : dv 4294967296 C < (top + 1) * 4294967296 ^ (m + 1) := by
      rw [hC, Nat.add_mul, Nat.one_mul, Nat.mul_comm (4294967296 ^ (m + 1))]
      omega
    have h4 : dv 4294967296 C * 2 ^ s < (top + 1) * 4294967296 ^ (m + 1) * 2 ^ s := Nat.mul_lt_mul_of_pos_right h3 hp
    have h5 : (top + 1) * 4294967296 ^ (m + 1) * 2 ^ s = (top + 1) * 2 ^ s * 4294967296 ^ (m + 1) := Nat.mul_right_comm _ _ _
    have h6 : (top + 1) * 2 ^ s * 4294967296 ^ (m + 1) ≤ 4294967296 * 4294967296 ^ (m + 1) := Nat.mul_le_mul_right _ hts
    have h7 : 4294967296 * 4294967296 ^ (m + 1) = 4294967296 ^ (m + 2) := by rw [Nat.pow_succ (n := 4294967296) (m := m + 1), Nat.mul_comm]
    omega
  obtain ⟨hz, ht⟩ := dv_high (by omega) hub
  have hlL : L.length = m + 3 := by omega
  obtain ⟨x, hx⟩ : ∃ x, L[m + 2]? = some x := ⟨L[m + 2]'(by omega), List.getElem?_eq_getElem (by omega)⟩
  have hx0 : x = 0 := dv_zero (by omega) hz 0 x (by rw [List.getElem?_drop]; exact hx)
  subst hx0
  have eL : L = L.take (m + 2) ++ [0] := by
    have := take_succ_get hx
    rw [List.take_of_length_le (by omega)] at this
    exact this
  obtain ⟨v1, hv1⟩ : ∃ x, L[m + 1]? = some x := ⟨L[m + 1]'(by omega), List.getElem?_eq_getElem (by omega)⟩
  obtain ⟨v2, hv2⟩ : ∃ x, L[m]? = some x := ⟨L[m]'(by omega), List.getElem?_eq_getElem (by omega)⟩
  have hV := dv_take_succ (B := 4294967296) hv1
  have hVl := dv_take_lt dL (show m + 1 ≤ L.length by omega)
  have hge : 2147483648 ≤ v1 := by
    have h3 : 2147483648 * 4294967296 ^ (m + 1) ≤ dv 4294967296 (L.take (m + 2)) := by
      rw [ht, hv, hC, Nat.add_mul]
      have h5 : 4294967296 ^ (m + 1) * top * 2 ^ s = top * 2 ^ s * 4294967296 ^ (m + 1) := by rw [Nat.mul_assoc, Nat.mul_comm]
      have h6 : 2147483648 * 4294967296 ^ (m + 1) ≤ top * 2 ^ s * 4294967296 ^ (m + 1) := Nat.mul_le_mul_right _ h1
      omega
    have h4 : dv 4294967296 (L.take (m + 2)) < (v1 + 1) * 4294967296 ^ (m + 1) := by
      rw [hV, Nat.add_mul, Nat.one_mul, Nat.mul_comm (4294967296 ^ (m + 1))]
      omega
    have := mul_lt_cancel (Nat.lt_of_le_of_lt h3 h4)
    omega
  refine ⟨v1, v2, ?_, by rw [List.getElem?_take_of_lt (by omega)]; exact hv1, by rw [List.getElem?_take_of_lt (by omega)]; exact hv2, hge, dL v1 (List.mem_of_getElem? hv1), dL v2 (List.mem_of_getElem? hv2), by rw [ht, hv]⟩
  have e2 : trimL L = trimL (L.take (m + 2)) := by
    conv => lhs; rw [eL]
    exact trimL_zero _
  rw [e2, take_succ_get hv1, trimL_pos _ (by omega)]
end Go.Proofs.YtokfihhdllmbmaaGreatDoor
namespace Go.Proofs.YtokfihhdllmbmaaGreatDoor
open Go Go.GL
theorem set_rep (j q : Nat) (Qd : List Nat) : (List.replicate (j + 1) 0 ++ Qd).set j q = List.replicate j 0 ++ q :: Qd := by
  have e : List.replicate (j + 1) 0 ++ Qd = List.replicate j 0 ++ (0 :: Qd) := by
    rw [List.replicate_succ', List.append_assoc]; rfl
  rw [e, List.set_append_right _ _ (by simp)]
  simp
section
variable {K n n1 : Nat} {h : HF} {t : TF} {w : List Nat} {bv bu bq vc : Nat} {e eq : TypeId} {V U0 : List Nat} {m M : Nat} {sv : Value}
set_option maxHeartbeats 4000000
set_option maxRecDepth 100000
theorem div_main (hV : Sl h n1 1 (.slice (some ⟨bv, 0, none⟩) V.length vc) (u32s V)) (hd : bv ≠ bu ∧ bv ≠ bq ∧ bu ≠ bq) (hnew : (3 * n ≤ bu ∧ bu < 3 * n1) ∧ (3 * n ≤ bq ∧ bq < 3 * n1)) (hru : h bu = some (.row (u32s U0) e)) (hrq : h bq = some (.row (u32s (List.replicate (M + 1) 0)) eq)) (dV : Dig V) (dU0 : Dig U0) (hVl : V.length = m + 2) (hUl : U0.length = M + V.length + 1) (hlen : U0.length < 10000000000) {v1 v2 : Nat} (hv1 : V[m + 1]? = some v1) (hv2 : V[m]? = some v2) (b1 : 2147483648 ≤ v1 ∧ v1 < 4294967296) (b2 : v2 < 4294967296) (hstart : dv 4294967296 (U0.drop (M + 1)) < dv 4294967296 V)
    {c : Code} (hc : bodyB Tryz.f195 [1, 1, 1, 1, 1, 1, 1, 1, 1, 1, 0, 1] = some c) {Q : Ex → SV → Prop}
    (hL : AllEq t [(8, sv), (9, .slice (some ⟨bv, 0, none⟩) V.length vc), (10, .slice (some ⟨bu, 0, none⟩) U0.length U0.length), (11, .int .i64 (V.length : Int)), (13, .slice (some ⟨bq, 0, none⟩) (M + 1) (M + 1)), (14, .int .i64 (((M + 1 : Nat) : Int) - 1))])
    (hQ : ∀ (U Qd : List Nat) (t' : TF) (h' : HF), AllEq t' [(8, sv), (10, .slice (some ⟨bu, 0, none⟩) U0.length U0.length), (11, .int .i64 (V.length : Int)), (13, .slice (some ⟨bq, 0, none⟩) (M + 1) (M + 1))] → (∀ b, b ≠ bu → b ≠ bq → h' b = h b) → h' bu = some (.row (u32s U) e) → h' bq = some (.row (u32s Qd) eq) → Dig U → Dig Qd → U.length = U0.length → Qd.length = M + 1 → dv 4294967296 U + dv 4294967296 V * dv 4294967296 Qd = dv 4294967296 U0 → dv 4294967296 U < dv 4294967296 V → Q .normal ⟨t', h', n1, w⟩) : EC (ctx K n (Tryz.f195).ntmps) c ⟨t, h, n1, w⟩ Q := by
  obtain rfl := Option.some.inj (hc.symm.trans (rfl : bodyB Tryz.f195 [1, 1, 1, 1, 1, 1, 1, 1, 1, 1, 0, 1] = some _))
  clear hc
  have eV := dv_two (B := 4294967296) hVl hv1 hv2
  have tV := dv_take_lt dV (show m ≤ V.length by omega)
  have hVub := dv_lt (B := 4294967296) dV
  have hVpos : 0 < dv 4294967296 V := by omega
  rw [EC_block]
  refine EC_for (α := Nat × List Nat × List Nat) (fun z => [(8, sv), (9, .slice (some ⟨bv, 0, none⟩) V.length vc), (10, .slice (some ⟨bu, 0, none⟩) U0.length U0.length), (11, .int .i64 (V.length : Int)), (13, .slice (some ⟨bq, 0, none⟩) (M + 1) (M + 1)), (14, .int .i64 ((z.1 : Int) - 1))])
    (fun z h' n' w' => n1 = n' ∧ w = w' ∧ (∀ b, b ≠ bu → b ≠ bq → h' b = h b) ∧ h' bu = some (.row (u32s z.2.1) e) ∧ h' bq = some (.row (u32s (List.replicate z.1 0 ++ z.2.2)) eq) ∧ Dig z.2.1 ∧ Dig z.2.2 ∧ z.2.1.length = U0.length ∧ z.1 + z.2.2.length = M + 1 ∧ dv 4294967296 z.2.1 + dv 4294967296 V * dv 4294967296 z.2.2 * 4294967296 ^ z.1 = dv 4294967296 U0 ∧ dv 4294967296 (z.2.1.drop z.1) < dv 4294967296 V) (fun z => z.1)
    (M + 1, U0, []) hL ⟨rfl, rfl, fun b _ _ => rfl, hru, by rw [List.append_nil]; exact hrq, dU0, fun d hd => absurd hd List.not_mem_nil, rfl, rfl, by simp [dv], hstart⟩ (by show M + 1 < LL; unfold LL; omega) ?_
  rintro ⟨jj, U, Qd⟩ t2 h2 _ _ ⟨rfl, rfl, hoth, hru2, hrq2, dU, dQ, hUl2, hQl, hval, hlt⟩
  simp only at hru2 hrq2 dU dQ hUl2 hQl hval hlt
  simp only [NV, Nat.reduceEqDiff, reduceCtorEq]
  cases jj with
  | zero =>
    repeat refine zR ?_
    simp only [NV, Nat.reduceEqDiff, reduceCtorEq]
    rw [EC_cond_false rfl]
    simp only [NV, Nat.reduceEqDiff, reduceCtorEq]
    refine hQ U Qd _ h2 ⟨rfl, rfl, rfl, rfl, trivial⟩ hoth hru2 hrq2 dU dQ hUl2 (by omega) ?_ hlt
    rw [Nat.pow_zero, Nat.mul_one] at hval
    exact hval
  | succ j =>
    obtain ⟨w0, hw0⟩ : ∃ x, U[j + m + 2]? = some x := ⟨U[j + m + 2]'(by omega), List.getElem?_eq_getElem (by omega)⟩
    obtain ⟨w1, hw1⟩ : ∃ x, U[j + m + 1]? = some x := ⟨U[j + m + 1]'(by omega), List.getElem?_eq_getElem (by omega)⟩
    obtain ⟨w2, hw2⟩ : ∃ x, U[j + m]? = some x := ⟨U[j + m]'(by omega), List.getElem?_eq_getElem (by omega)⟩
    have bw0 : w0 < 4294967296 := dU w0 (List.mem_of_getElem? hw0)
    have bw1 : w1 < 4294967296 := dU w1 (List.mem_of_getElem? hw1)
    have bw2 : w2 < 4294967296 := dU w2 (List.mem_of_getElem? hw2)
    obtain ⟨xj, hxj⟩ : ∃ x, U[j]? = some x := ⟨U[j]'(by omega), List.getElem?_eq_getElem (by omega)⟩
    have bxj : xj < 4294967296 := dU xj (List.mem_of_getElem? hxj)
    have hW : dv 4294967296 (U.drop j) < 4294967296 * dv 4294967296 V := by
      rw [drop_cons hxj]
      simp only [dv]
      omega
    have hWp : dv 4294967296 (U.drop j) < 4294967296 ^ (m + 3) := by
      rw [hVl] at hVub
      have : 4294967296 ^ (m + 3) = 4294967296 * 4294967296 ^ (m + 2) := by rw [Nat.pow_succ (n := 4294967296) (m := m + 2), Nat.mul_comm]
      omega
    obtain ⟨hz, ht3⟩ := dv_high (by omega) hWp
    rw [List.drop_drop] at hz
    have e3 := dv_three (B := 4294967296) (l := (U.drop j).take (m + 3)) (m := m) (x := w0) (y := w1) (z := w2) (by rw [List.length_take, List.length_drop]; omega) (by rw [List.getElem?_take_of_lt (by omega), List.getElem?_drop]; exact hw0) (by rw [List.getElem?_take_of_lt (by omega), List.getElem?_drop]; exact hw1) (by rw [List.getElem?_take_of_lt (by omega), List.getElem?_drop]; exact hw2)
    have twr : dv 4294967296 (((U.drop j).take (m + 3)).take m) < 4294967296 ^ m := dv_take_lt (fun d hd => dU d (List.mem_of_mem_drop (List.mem_of_mem_take hd))) (by rw [List.length_take, List.length_drop]; omega)
    rw [ht3] at e3
    have hV2 : Sl h2 n1 1 (.slice (some ⟨bv, 0, none⟩) V.length vc) (u32s V) := hV.keep (fun a l cc ee => by injection ee with e1; injection e1 with e1; subst e1; exact hoth _ hd.1 hd.2.1) (Nat.le_refl _)
    have hU2 : Sl h2 n1 1 (.slice (some ⟨bu, 0, none⟩) U0.length U0.length) (u32s U) := Sl.own hru2 hnew.1.2 hUl2 (Nat.le_refl _)
    rw [← hUl2] at hU2
    repeat refine zR ?_
    simp only [NV, Nat.reduceEqDiff, reduceCtorEq]
    rw [EC_cond_true rfl]
    simp only [NV, Nat.reduceEqDiff, reduceCtorEq]
    rw [EC_quietC rfl]
    rw [← hUl2]
    repeat refine zR ?_
    refine st_at (j := j + m + 2) rfl rfl rfl rfl rfl rfl rfl hU2 rfl (by omega) hw0 (fun _ => rfl) rfl rfl rfl rfl fun _ => ?_
    refine st_cv64 rfl rfl rfl rfl rfl rfl rfl (by omega) ?_
    refine st_shl_u64 (a := w0) (s := 32) rfl rfl rfl rfl rfl rfl (by omega) ?_
    repeat refine zR ?_
    refine st_at (j := j + m + 1) rfl rfl rfl rfl rfl rfl rfl hU2 rfl (by omega) hw1 (fun _ => rfl) rfl rfl rfl rfl fun _ => ?_
    refine st_cv64 rfl rfl rfl rfl rfl rfl rfl (by omega) ?_
    refine st_or_u64 (a := w0 * 2 ^ 32 % 18446744073709551616) (b := w1) rfl rfl rfl rfl rfl rfl (by omega) ?_
    rw [shl_or w0 w1 bw0 bw1]
    repeat refine zR ?_
    simp only [EC_seq, EC_region, EC_skip, EO_nil, after_normal]
    repeat refine zR ?_
    refine st_at (j := m + 1) rfl rfl rfl rfl rfl rfl rfl hV2 rfl (by omega) hv1 (fun _ => rfl) rfl rfl rfl rfl fun _ => ?_
    refine st_cv64 rfl rfl rfl rfl rfl rfl rfl (by omega) ?_
    refine st_div_u64 (a := w0 * 4294967296 + w1) (b := v1) rfl rfl rfl rfl rfl rfl (by omega) ?_
    repeat refine zR ?_
    simp only [EC_seq, EC_region, EC_skip, EO_nil, after_normal]
    repeat refine zR ?_
    refine st_at (j := m + 1) rfl rfl rfl rfl rfl rfl rfl hV2 rfl (by omega) hv1 (fun _ => rfl) rfl rfl rfl rfl fun _ => ?_
    refine st_cv64 rfl rfl rfl rfl rfl rfl rfl (by omega) ?_
    refine st_rem_u64 (a := w0 * 4294967296 + w1) (b := v1) rfl rfl rfl rfl rfl rfl (by omega) ?_
    repeat refine zR ?_
    simp only [EC_seq, EC_region, EC_skip, EO_nil, after_normal]
    have hg1 := kn_start (B := 4294967296) (P := 4294967296 ^ m) (v1 := v1) (v2 := v2) (vr := dv 4294967296 (V.take m)) (top := w0 * 4294967296 + w1) (w2 := w2) (wr := dv 4294967296 (((U.drop j).take (m + 3)).take m)) (by omega) bw2 twr
    have hg3 : ∀ hh rr : Nat, hh * v1 + rr = w0 * 4294967296 + w1 → rr * 4294967296 + w2 < hh * v2 → dv 4294967296 (U.drop j) / dv 4294967296 V < hh := fun hh rr h1 h2 => by
      rw [e3, eV]
      exact kn_test bw2 twr h1 h2
    have htop := kn_top (B := 4294967296) (P := 4294967296 ^ m) (v1 := v1) (v2 := v2) (vr := dv 4294967296 (V.take m)) (top := w0 * 4294967296 + w1) (w2 := w2) (wr := dv 4294967296 (((U.drop j).take (m + 3)).take m)) tV b2 (by rw [← e3, ← eV]; exact hW)
    rw [← e3, ← eV] at hg1
    have hQB : dv 4294967296 (U.drop j) / dv 4294967296 V < 4294967296 := by
      rw [Nat.div_lt_iff_lt_mul hVpos]
      exact hW
    refine div_est (sv := sv) (qv := .slice (some ⟨bq, 0, none⟩) (M + 1) (M + 1)) (U := U) (V := V) (m := m) (j := j) (g := dv 4294967296 (U.drop j) / dv 4294967296 V) (top := w0 * 4294967296 + w1) hV2 hU2 hVl (by omega) hv1 hv2 hw2 b1 b2 bw2 htop hg1 hQB hg3 rfl ⟨rfl, rfl, rfl, rfl, rfl, by show Value.int .i64 _ = Value.int .i64 _; congr 1; omega, rfl, rfl, trivial⟩ ?_
    rintro hh rr t4 hl4 hsum hhB hle hge
    rw [← chain_self hl4]
    clear hl4
    have hub : hh ≤ dv 4294967296 (U.drop j) / dv 4294967296 V + 1 := by
      rw [e3, eV]
      exact kn_end (by omega) (by omega) tV hsum hle hhB
    simp only [EC_seq, EC_region, EC_skip, EO_nil, after_normal]
    repeat refine zR ?_
    simp only [EC_seq, EC_region, EC_skip, EO_nil, after_normal]
    repeat refine zR ?_
    simp only [EC_seq, EC_region, EC_skip, EO_nil, after_normal]
    rw [hUl2] at hU2
    refine div_sub (sv := sv) (qv := .slice (some ⟨bq, 0, none⟩) (M + 1) (M + 1)) (U := U) (V := V) (j := j) (hh := hh) hV2 hd.1 hnew.1 hru2 dV dU (by omega) hhB rfl ⟨rfl, rfl, rfl, rfl, rfl, rfl, rfl, rfl, rfl, rfl, trivial⟩ ?_
    rintro c br U2 t5 h5 hl5 hbut5 hrow5 dU2 hU2l hcB hbr hdr hval5
    rw [← chain_self hl5]
    clear hl5
    have hi : V.length + j = j + m + 2 := by omega
    rw [hi] at hdr hval5
    have hw0' : U2[j + m + 2]? = some w0 := by
      have : (U2.drop (j + m + 2))[0]? = (U.drop (j + m + 2))[0]? := by rw [hdr]
      rw [List.getElem?_drop, List.getElem?_drop, Nat.add_zero] at this
      rw [this]; exact hw0
    have hz2 : dv 4294967296 (U2.drop (j + m + 2 + 1)) = 0 := by
      have := congrArg (List.drop 1) hdr
      rw [List.drop_drop, List.drop_drop] at this
      rw [this, show j + m + 2 + 1 = j + (m + 3) from by omega]
      exact hz
    have hU5 : Sl h5 n1 1 (.slice (some ⟨bu, 0, none⟩) U.length U.length) (u32s U2) := Sl.own hrow5 hnew.1.2 hU2l (Nat.le_refl _)
    simp only [EC_seq, EC_region, EC_skip, EO_nil, after_normal]
    repeat refine zR ?_
    refine st_at (j := j + m + 2) rfl rfl rfl rfl rfl rfl rfl hU5 rfl (by omega) hw0' (fun _ => rfl) rfl rfl rfl rfl fun _ => ?_
    refine st_cv64 rfl rfl rfl rfl rfl rfl rfl (by omega) ?_
    refine zM ?_
    refine st_subw_u64 (a := w0) (b := c) rfl rfl rfl rfl rfl rfl (by omega) ?_
    refine zM ?_
    refine st_subw_u64 (a := (w0 + 18446744073709551616 - c) % 18446744073709551616) (b := br) rfl rfl rfl rfl rfl rfl (by omega) ?_
    obtain ⟨X, hX⟩ : ∃ X, X = ((w0 + 18446744073709551616 - c) % 18446744073709551616 + 18446744073709551616 - br) % 18446744073709551616 := ⟨_, rfl⟩
    rw [← hX]
    repeat refine zR ?_
    simp only [EC_seq, EC_region, EC_skip, EO_nil, after_normal]
    repeat refine zR ?_
    refine st_conv_u32 rfl rfl rfl rfl rfl rfl rfl ?_
    refine st_put (j := j + m + 2) (v := .int .u32 ((X % 4294967296 : Nat) : Int)) rfl rfl rfl rfl rfl rfl rfl rfl (by omega) (by rw [u32s_len]; omega) hrow5 hnew.1.1 (fun _ => rfl) rfl rfl rfl (fun _ => rfl) rfl fun _ => ?_
    rw [u32s_set]
    simp only [EC_seq, EC_region, EC_skip, EO_nil, after_normal]
    refine zM ?_
    refine st_shr_u64 (a := X) (s := 63) rfl rfl rfl rfl rfl rfl (by omega) ?_
    refine st_eq rfl rfl rfl rfl rfl rfl ?_
    simp only [EC_seq, EC_region, EC_skip, EO_nil, after_normal]
    have dU3 : Dig (U2.set (j + m + 2) (X % 4294967296)) := dig_set dU2 (Nat.mod_lt _ (by omega))
    refine EC_cutx (α := Nat × List Nat × HF) (fun z => [(8, sv), (9, .slice (some ⟨bv, 0, none⟩) V.length vc), (10, .slice (some ⟨bu, 0, none⟩) U.length U.length), (11, .int .i64 (V.length : Int)), (13, .slice (some ⟨bq, 0, none⟩) (M + 1) (M + 1)), (14, .int .i64 (j : Int)), (16, .int .u64 (z.1 : Int))])
      (fun z h' n' w' => z.2.2 = h' ∧ n1 = n' ∧ w = w' ∧ But bu h2 z.2.2 ∧ z.2.2 bu = some (.row (u32s z.2.1) e) ∧ Dig z.2.1 ∧ z.2.1.length = U.length ∧ z.1 = dv 4294967296 (U.drop j) / dv 4294967296 V ∧ dv 4294967296 z.2.1 + dv 4294967296 (U.drop j) / dv 4294967296 V * dv 4294967296 V * 4294967296 ^ j = dv 4294967296 U) ?_ ?_
    · by_cases hcase : c + br ≤ w0
      · have hX0 : X / 2 ^ 63 = 0 ∧ X % 4294967296 = w0 - c - br := by omega
        rw [EC_cond_false (by show Value.bool _ = _; rw [hX0.1]; rfl)]
        simp only [NV, Nat.reduceEqDiff, reduceCtorEq]
        obtain ⟨r1, r2⟩ := round_a (by omega) dU hVpos hval5 hw0' hcase hge
        rw [hX0.2]
        exact cutx_mk (hh, _, _) ⟨rfl, rfl, rfl, rfl, rfl, rfl, rfl, trivial⟩ ⟨rfl, rfl, rfl, fun b hb => (upd_ne hb).trans (hbut5 b hb), upd_same _ _ _, by rw [← hX0.2]; exact dU3, by show (U2.set _ _).length = _; rw [List.length_set]; exact hU2l, r1, r2⟩
      · have hX1 : X / 2 ^ 63 = 1 ∧ X % 4294967296 + (c + br) = w0 + 4294967296 := by omega
        rw [EC_cond_true (by show Value.bool _ = _; rw [hX1.1]; rfl)]
        have h3 : dv 4294967296 (U2.set (j + m + 2) (X % 4294967296)) + hh * dv 4294967296 V * 4294967296 ^ j = dv 4294967296 U + 4294967296 * 4294967296 ^ (j + m + 2) := by
          have q1 := dv_set (B := 4294967296) (X % 4294967296) hw0'
          have q2 : (X % 4294967296 + (c + br)) * 4294967296 ^ (j + m + 2) = (w0 + 4294967296) * 4294967296 ^ (j + m + 2) := by rw [hX1.2]
          rw [Nat.add_mul, Nat.add_mul w0] at q2
          omega
        have hx3 : (U2.set (j + m + 2) (X % 4294967296))[j + m + 2]? = some (X % 4294967296) := by rw [List.getElem?_set_self (by omega)]
        have hz3 : dv 4294967296 ((U2.set (j + m + 2) (X % 4294967296)).drop (j + m + 2 + 1)) = 0 := by rw [List.drop_set_of_lt (by omega)]; exact hz2
        have hT : dv 4294967296 (U2.set (j + m + 2) (X % 4294967296)) < 4294967296 * 4294967296 ^ (j + m + 2) := by
          rw [dv_at hx3 hz3]
          have q1 := dv_take_lt dU3 (show j + m + 2 ≤ (U2.set (j + m + 2) (X % 4294967296)).length by rw [List.length_set]; omega)
          have q2 : (X % 4294967296 + 1) * 4294967296 ^ (j + m + 2) ≤ 4294967296 * 4294967296 ^ (j + m + 2) := Nat.mul_le_mul_right _ (by omega)
          rw [Nat.add_mul, Nat.one_mul] at q2
          omega
        have hhQ := fin_b (dv_parts 4294967296 U j (by omega)) hVpos h3 hT hub
        have hh1 : 1 ≤ hh := by rw [hhQ]; exact Nat.le_add_left _ _
        generalize hU3 : U2.set (j + m + 2) (X % 4294967296) = U3 at *
        have hU3l : U3.length = U.length := by rw [← hU3, List.length_set]; exact hU2l
        simp only [EC_seq, EC_region, EC_skip, EO_nil, after_normal]
        repeat refine zU ?_
        simp only [EC_seq, EC_region, EC_skip, EO_nil, after_normal]
        repeat refine zR ?_
        simp only [EC_seq, EC_region, EC_skip, EO_nil, after_normal]
        repeat refine zR ?_
        simp only [EC_seq, EC_region, EC_skip, EO_nil, after_normal]
        rw [← hU3l]
        refine div_add (sv := sv) (qv := .slice (some ⟨bq, 0, none⟩) (M + 1) (M + 1)) (U := U3) (V := V) (j := j) (hh := hh - 1) (h := upd h5 bu (some (.row (u32s U3) e))) (hV2.keep (fun a l cc ee => by injection ee with e1; injection e1 with e1; subst e1; exact (upd_ne hd.1).trans (hbut5 _ hd.1)) (Nat.le_refl _)) hd.1 hnew.1 (upd_same _ _ _) dV dU3 (by omega) rfl ⟨rfl, rfl, rfl, rfl, rfl, rfl, rfl, rfl, rfl, trivial⟩ ?_
        rintro c2 U4 t6 h6 hl6 hbut6 hrow6 dU4 hU4l hc2 hdr6 hval6
        rw [← chain_self hl6]
        clear hl6
        rw [hi] at hdr6 hval6
        have hx4 : U4[j + m + 2]? = some (X % 4294967296) := by
          have : (U4.drop (j + m + 2))[0]? = (U3.drop (j + m + 2))[0]? := by rw [hdr6]
          rw [List.getElem?_drop, List.getElem?_drop, Nat.add_zero] at this
          rw [this]; exact hx3
        have hz4 : dv 4294967296 (U4.drop (j + m + 2 + 1)) = 0 := by
          have := congrArg (List.drop 1) hdr6
          rw [List.drop_drop, List.drop_drop] at this
          rw [this]; exact hz3
        obtain ⟨r1, r2, r3⟩ := round_b (by omega) dU hVpos (by
          have q1 : dv 4294967296 V * 4294967296 ^ j ≤ 4294967296 ^ V.length * 4294967296 ^ j := Nat.mul_le_mul_right _ (by omega)
          rw [← Nat.pow_add, hi] at q1
          exact q1) dU3 dU4 hx3 hz3 hx4 hz4 h3 hval6 hub
        have hU6 : Sl h6 n1 1 (.slice (some ⟨bu, 0, none⟩) U3.length U3.length) (u32s U4) := Sl.own hrow6 hnew.1.2 hU4l (Nat.le_refl _)
        simp only [EC_seq, EC_region, EC_skip, EO_nil, after_normal]
        repeat refine zR ?_
        refine st_at (j := j + m + 2) rfl rfl rfl rfl rfl rfl rfl hU6 rfl (by omega) hx4 (fun _ => rfl) rfl rfl rfl rfl fun _ => ?_
        refine zM ?_
        refine st_cv32 (c := c2) rfl rfl rfl rfl rfl rfl rfl (by omega) ?_
        refine st_addw_u32 (a := X % 4294967296) (b := c2) rfl rfl rfl rfl rfl rfl ?_
        rw [r2]
        refine st_put (j := j + m + 2) (v := .int .u32 ((0 : Nat) : Int)) rfl rfl rfl rfl rfl rfl rfl rfl (by omega) (by rw [u32s_len]; omega) hrow6 hnew.1.1 (fun _ => rfl) rfl rfl rfl (fun _ => rfl) rfl fun _ => ?_
        rw [u32s_set]
        simp only [NV, Nat.reduceEqDiff, reduceCtorEq]
        exact cutx_mk (hh - 1, _, _) ⟨rfl, rfl, rfl, rfl, rfl, rfl, rfl, trivial⟩ ⟨rfl, rfl, rfl, fun b hb => (upd_ne hb).trans ((hbut6 b hb).trans ((upd_ne hb).trans (hbut5 b hb))), upd_same _ _ _, dig_set dU4 (by omega), by show (U4.set _ _).length = _; rw [List.length_set]; exact hU4l, by show hh - 1 = _; omega, r3⟩
    rintro ⟨q, Uf, g⟩ t7 _ _ _ ⟨rfl, rfl, rfl, hbutf, hrowf, dUf, hUfl, hqe, hvalf⟩
    simp only at hbutf hrowf dUf hUfl hqe hvalf
    subst hqe
    generalize hqq : dv 4294967296 (U.drop j) / dv 4294967296 V = q at *
    have hrq3 : g bq = some (.row (u32s (List.replicate (j + 1) 0 ++ Qd)) eq) := by rw [hbutf bq (Ne.symm hd.2.2)]; exact hrq2
    simp only [NV, Nat.reduceEqDiff, reduceCtorEq]
    repeat refine zU ?_
    refine st_put (j := j) (v := .int .u32 (q : Int)) rfl rfl rfl rfl rfl rfl rfl rfl rfl (by rw [u32s_len]; simp; omega) hrq3 hnew.2.1 (fun _ => rfl) rfl rfl rfl (fun _ => rfl) rfl fun _ => ?_
    rw [u32s_set, set_rep]
    simp only [NV, Nat.reduceEqDiff, reduceCtorEq]
    repeat refine zR ?_
    simp only [NV, Nat.reduceEqDiff, reduceCtorEq]
    refine goOn (j, Uf, q :: Qd) (by show j < j + 1; omega) ⟨rfl, rfl, by show Value.slice _ _ _ = Value.slice _ _ _; rw [hUl2], rfl, rfl, rfl, trivial⟩ ⟨rfl, rfl, fun b h1 h2' => (upd_ne h2').trans ((hbutf b h1).trans (hoth b h1 h2')), (upd_ne hd.2.2).trans hrowf, upd_same _ _ _, dUf, fun d hd' => ?_, hUfl, by show j + (q :: Qd).length = M + 1; simp; omega, ?_, ?_⟩
    · rcases List.mem_cons.1 hd' with rfl | hd'
      · exact hQB
      · exact dQ d hd'
    · show dv 4294967296 Uf + dv 4294967296 V * dv 4294967296 (q :: Qd) * 4294967296 ^ j = dv 4294967296 U0
      rw [← hval, ← hvalf]
      simp only [dv]
      rw [Nat.pow_succ (n := 4294967296), Nat.mul_add, Nat.add_mul, Nat.mul_comm q, Nat.add_assoc]
      congr 2
      rw [Nat.mul_assoc, Nat.mul_assoc, Nat.mul_assoc, Nat.mul_comm 4294967296 (dv 4294967296 Qd * 4294967296 ^ j), Nat.mul_assoc (dv 4294967296 Qd)]
    · show dv 4294967296 (Uf.drop j) < dv 4294967296 V
      have p1 := dv_parts 4294967296 Uf j (by omega)
      have p2 := dv_parts 4294967296 U j (by omega)
      have p3 := dv_take_lt dU (show j ≤ U.length by omega)
      have p4 : dv 4294967296 (U.drop j) < (q + 1) * dv 4294967296 V := by
        rw [← hqq, Nat.mul_comm]
        exact Nat.lt_mul_div_succ _ hVpos
      have p5 : dv 4294967296 (Uf.drop j) * 4294967296 ^ j < dv 4294967296 V * 4294967296 ^ j := by
        have p6 : (dv 4294967296 (U.drop j) + 1) * 4294967296 ^ j ≤ (q + 1) * dv 4294967296 V * 4294967296 ^ j := Nat.mul_le_mul_right _ p4
        rw [Nat.add_mul, Nat.one_mul, Nat.add_mul q, Nat.one_mul, Nat.add_mul] at p6
        omega
      exact mul_lt_cancel p5
end
end Go.Proofs.YtokfihhdllmbmaaGreatDoor
namespace Go.Proofs.YtokfihhdllmbmaaGreatDoor
open Go Go.GL
def DivR (n : Nat) (h : HF) (A C : List Nat) (v : Value) (h' : HF) (n' : Nat) (w : List Nat) : Prop := w = [] ∧ n ≤ n' ∧ Ext n h h' ∧ ∃ aq cq Lq ar cr Lr, v = .tuple #[.slice aq (List.length Lq) cq, .slice ar (List.length Lr) cr] ∧ Sl h' n' 1 (.slice aq Lq.length cq) (u32s Lq) ∧ Sl h' n' 1 (.slice ar Lr.length cr) (u32s Lr) ∧ Norm Lq ∧ Norm Lr ∧ val Lq = val A / val C ∧ val Lr = val A % val C ∧ Fresh n (.slice aq Lq.length cq) ∧ Fresh n (.slice ar Lr.length cr)
theorem Norm.len_le {A B : List Nat} (hA : Norm A) (hB : Norm B) (h : val B ≤ val A) : B.length ≤ A.length := by
  apply Classical.byContradiction
  intro hn
  have := hA.len_lt hB (by omega)
  omega
theorem div_shift {a b q r P : Nat} (hP : 0 < P) (hb : 0 < b) (h : r + b * P * q = a * P) (hr : r < b * P) : q = a / b ∧ r = a % b * P := by
  have e1 : a * P / (b * P) = a / b := Nat.mul_div_mul_right _ _ hP
  have e2 : a * P % (b * P) = a % b * P := Nat.mul_mod_mul_right _ _ _
  rw [← e1, ← e2, ← h, Nat.add_mul_div_left _ _ (Nat.mul_pos hb hP), Nat.div_eq_of_lt hr, Nat.add_mul_mod_self_left, Nat.mod_eq_of_lt hr]
  exact ⟨by omega, rfl⟩
theorem trimL_take : ∀ l : List Nat, l.take (trimL l).length = trimL l :=
  trimL_induct (fun l ih => by rw [trimL_zero, List.take_append_of_le_length (trimL_len l)]; exact ih) (fun l d hd => by rw [trimL_pos l hd, List.take_length]) rfl
section
variable {k n : Nat} {h : HF} {t : TF} {a1 a2 : Option Addr} {c1 c2 : Nat} {A C : List Nat} {m : Nat}
set_option maxHeartbeats 4000000
set_option maxRecDepth 100000
theorem div_gen (hA : Sl h n 1 (.slice a1 A.length c1) (u32s A)) (hC : Sl h n 1 (.slice a2 C.length c2) (u32s C)) (nA : Norm A) (nC : Norm C) (hCl : C.length = m + 2) (hb : A.length < 1000000000) (hle : val C ≤ val A)
    {c : Code} (hc : bodyB Tryz.f195 [1, 1, 1] = some c) (hL : AllEq t [(0, .slice a1 A.length c1), (1, .slice a2 C.length c2)]) : EC (ctx (k + 2) n (Tryz.f195).ntmps) c ⟨t, h, n, []⟩ (RetH Tryz.f195 (DivR n h A C)) := by
  obtain rfl := Option.some.inj (hc.symm.trans (rfl : bodyB Tryz.f195 [1, 1, 1] = some _))
  clear hc
  rw [← chain_self hL]
  clear hL
  have hll := nA.len_le nC hle
  obtain ⟨top, htop⟩ : ∃ x, C[m + 1]? = some x := ⟨C[m + 1]'(by omega), List.getElem?_eq_getElem (by omega)⟩
  have btop : top < 4294967296 := nC.1 top (List.mem_of_getElem? htop)
  have htop0 : top ≠ 0 := by
    have e := take_succ_get htop
    rw [List.take_of_length_le (by omega)] at e
    have h1 := nC
    rw [e] at h1
    exact h1.last
  simp only [NV, Nat.reduceEqDiff, reduceCtorEq]
  repeat refine zR ?_
  simp only [NV, Nat.reduceEqDiff, reduceCtorEq]
  refine EC_for (α := Nat) (fun s => [(0, .slice a1 A.length c1), (1, .slice a2 C.length c2), (8, .int .u64 (s : Int))]) (fun s h' n' w' => h = h' ∧ n = n' ∧ w' = [] ∧ s < 32 ∧ top * 2 ^ s < 4294967296) (fun s => 32 - s) 0 ⟨rfl, rfl, rfl, trivial⟩ ⟨rfl, rfl, rfl, by decide, by show top * 2 ^ 0 < _; omega⟩ (by show 32 - 0 < LL; decide) ?_
  rintro s t2 _ _ _ ⟨rfl, rfl, rfl, hs, hts⟩
  simp only [NV, Nat.reduceEqDiff, reduceCtorEq]
  repeat refine zR ?_
  refine st_at (j := m + 1) rfl rfl rfl rfl rfl rfl rfl hC rfl (by omega) htop (fun _ => rfl) rfl rfl rfl rfl fun _ => ?_
  refine zM ?_
  refine st_shl_u32 (a := top) (s := s) rfl rfl rfl rfl rfl rfl (by omega) ?_
  rw [Nat.mod_eq_of_lt hts]
  by_cases hbig : top * 2 ^ s < 2147483648
  · have h2 : top * 2 ^ (s + 1) = top * 2 ^ s * 2 := by rw [Nat.pow_succ, Nat.mul_assoc]
    have hs1 : s + 1 < 32 := by
      apply Classical.byContradiction
      intro hn
      have h31 : s = 31 := by omega
      subst h31
      have : 1 * 2 ^ 31 ≤ top * 2 ^ 31 := Nat.mul_le_mul_right _ (by omega)
      omega
    repeat refine zR ?_
    simp only [NV, Nat.reduceEqDiff, reduceCtorEq]
    rw [EC_cond_true rfl]
    simp only [NV, Nat.reduceEqDiff, reduceCtorEq]
    refine zM ?_
    refine st_add_u64 (a := s) (b := 1) rfl rfl rfl rfl rfl rfl (by omega) ?_
    repeat refine zR ?_
    simp only [NV, Nat.reduceEqDiff, reduceCtorEq]
    exact goOn (s + 1) (by show 32 - (s + 1) < 32 - s; omega) ⟨rfl, rfl, rfl, trivial⟩ ⟨rfl, rfl, rfl, hs1, by show top * 2 ^ (s + 1) < _; omega⟩
  repeat refine zR ?_
  simp only [NV, Nat.reduceEqDiff, reduceCtorEq]
  rw [EC_cond_false rfl]
  simp only [NV, Nat.reduceEqDiff, reduceCtorEq]
  have hbig' : 2147483648 ≤ top * 2 ^ s := by omega
  have hp : 0 < 2 ^ s := Nat.pow_pos (by omega)
  have hp31 : 2 ^ s ≤ 2147483648 := show 2 ^ s ≤ 2 ^ 31 from Nat.pow_le_pow_right (by omega) (by omega)
  repeat refine zR ?_
  refine st_call _ rfl rfl rfl rfl rfl (shiftLeft_ok (k + 1) hC nC.1 (by omega) hs) ?_
  rintro _ h1 _ _ ⟨rfl, rfl, hx1, L, e1, rfl, hr1, hL1, dL, vL⟩
  obtain ⟨v1, v2, eT, hv1, hv2, b1, b1', b2, vV⟩ := shifted hCl nC.1 htop hbig' hts hs hL1 dL vL
  have htr := trim_ok (k + 1) (l := L) (h := h1) (n := n + 1) (by omega) (Sl.own hr1 (by omega) hL1 (Nat.le_refl _))
  rw [eT] at htr
  refine st_call _ rfl rfl rfl rfl rfl htr ?_
  rintro _ _ _ _ ⟨e2, e3, rfl, rfl, hsV⟩
  subst e2 e3
  have hVl : (L.take (m + 2)).length = m + 2 := by rw [List.length_take]; omega
  have dV : Dig (L.take (m + 2)) := fun d hd => dL d (List.mem_of_mem_take hd)
  generalize L.take (m + 2) = V at *
  repeat refine zR ?_
  simp only [NV, Nat.reduceEqDiff, reduceCtorEq]
  repeat refine zR ?_
  refine st_call _ rfl rfl rfl rfl rfl (shiftLeft_ok (k + 1) (hA.ext hx1 (Nat.le_succ n)) nA.1 (by omega) hs) ?_
  rintro _ h2 _ _ ⟨rfl, rfl, hx2, U0, e4, rfl, hr2, hL2, dU0, vU⟩
  repeat refine zR ?_
  simp only [NV, Nat.reduceEqDiff, reduceCtorEq]
  repeat refine zR ?_
  simp only [NV, Nat.reduceEqDiff, reduceCtorEq]
  repeat refine zR ?_
  simp only [NV, Nat.reduceEqDiff, reduceCtorEq]
  obtain ⟨M, hM⟩ : ∃ M, M = A.length - C.length := ⟨_, rfl⟩
  repeat refine zR ?_
  refine st_make (len := M + 1) (cap := M + 1) rfl rfl rfl rfl rfl rfl (by show Value.int .i64 _ = Value.int .i64 _; congr 1; omega) (by show Value.int .i64 _ = Value.int .i64 _; congr 1; omega) rfl (by omega) ?_
  rw [show vcells (Value.int .u32 0) = [Value.int .u32 0] from rfl, rep_zero]
  repeat refine zR ?_
  simp only [EC_seq, EC_region, EC_skip, EO_nil, after_normal]
  repeat refine zR ?_
  simp only [EC_seq, EC_region, EC_skip, EO_nil, after_normal]
  have hU0l : U0.length = A.length + 1 := hL2
  have hstart : dv 4294967296 (U0.drop (M + 1)) < dv 4294967296 V := by
    obtain ⟨tt, htt⟩ : ∃ x, U0[A.length]? = some x := ⟨U0[A.length]'(by omega), List.getElem?_eq_getElem (by omega)⟩
    have p1 := dv_take_succ (B := 4294967296) htt
    rw [List.take_of_length_le (by omega)] at p1
    have p2 := dv_lt (B := 4294967296) nA.1
    have p3 : tt < 2 ^ s := by
      have q1 : tt * 4294967296 ^ A.length < 2 ^ s * 4294967296 ^ A.length := by
        have q2 : dv 4294967296 A * 2 ^ s < 4294967296 ^ A.length * 2 ^ s := Nat.mul_lt_mul_of_pos_right p2 hp
        rw [Nat.mul_comm (4294967296 ^ A.length) (2 ^ s)] at q2
        rw [Nat.mul_comm tt]
        omega
      exact mul_lt_cancel q1
    have hxl : (U0.drop (M + 1)).length = m + 2 := by rw [List.length_drop]; omega
    have hx1' : (U0.drop (M + 1))[m + 1]? = some tt := by rw [List.getElem?_drop, show M + 1 + (m + 1) = A.length from by omega]; exact htt
    have p4 := dv_take_succ (B := 4294967296) hx1'
    rw [List.take_of_length_le (by omega)] at p4
    have p5 : dv 4294967296 ((U0.drop (M + 1)).take (m + 1)) < 4294967296 ^ (m + 1) := dv_take_lt (fun d hd => dU0 d (List.mem_of_mem_drop hd)) (by omega)
    have p6 := dv_take_succ (B := 4294967296) hv1
    rw [List.take_of_length_le (by omega)] at p6
    have p7 : (tt + 1) * 4294967296 ^ (m + 1) ≤ v1 * 4294967296 ^ (m + 1) := Nat.mul_le_mul_right _ (by omega)
    rw [Nat.add_mul, Nat.one_mul] at p7
    rw [p4, p6, Nat.mul_comm _ tt, Nat.mul_comm _ v1]
    omega
  have hV3 : Sl (upd h2 (3 * (n + 1 + 1) + 2) (some (.row (u32s (List.replicate (M + 1) 0)) 210))) (n + 1 + 1 + 1) 1 (.slice (some ⟨3 * n + 2, 0, none⟩) V.length (C.length + 1)) (u32s V) := (hsV.ext hx2 (Nat.le_succ _)).ext (Ext.upd (by omega)) (Nat.le_succ _)
  refine div_main (sv := .int .u64 (s : Int)) (bv := 3 * n + 2) (bu := 3 * (n + 1) + 2) (bq := 3 * (n + 1 + 1) + 2) (V := V) (U0 := U0) (m := m) (M := M) hV3 (by omega) (by omega) ((upd_ne (by omega)).trans hr2) (upd_same _ _ _) dV dU0 hVl (by omega) (by omega) hv1 hv2 ⟨b1, b1'⟩ b2 hstart rfl ⟨rfl, rfl, by rw [hU0l]; rfl, rfl, rfl, by show Value.int .i64 _ = Value.int .i64 _; congr 1; omega, trivial⟩ ?_
  rintro U Qd t4 h4 hl4 hoth hru hrq dU dQ hUl hQl hval hlt
  rw [← chain_self hl4]
  clear hl4
  have hVub := dv_lt (B := 4294967296) dV
  rw [hVl] at hVub
  obtain ⟨_, htk⟩ := dv_high (l := U) (n := m + 2) (by omega) (show dv 4294967296 U < 4294967296 ^ (m + 2) by omega)
  have hCpos : 0 < dv 4294967296 C := by rw [← val_dv]; exact nC.pos (by intro e; rw [e] at hCl; simp at hCl)
  obtain ⟨hq, hrem⟩ := div_shift (a := dv 4294967296 A) (b := dv 4294967296 C) (q := dv 4294967296 Qd) (r := dv 4294967296 U) hp hCpos (by rw [← vV, hval, vU]) (by rw [← vV]; exact hlt)
  have hUs : Sl h4 (n + 1 + 1 + 1) 1 (.slice (some ⟨3 * (n + 1) + 2, 0, none⟩) U0.length U0.length) (u32s U) := Sl.own hru (by omega) hUl (Nat.le_refl _)
  have hUt := hUs.take V.length (by omega)
  rw [Nat.mul_one, show (u32s U).take V.length = u32s (U.take (m + 2)) from by rw [u32s, u32s, List.map_take, hVl]] at hUt
  have hext4 : Ext n h h4 := fun b hb => by rw [hoth b (by omega) (by omega), upd_ne (by omega), hx2 b (by omega), hx1 b hb]
  simp only [EC_seq, EC_region, EC_skip, EO_nil, after_normal]
  repeat refine zR ?_
  refine st_sliceHi V.length rfl rfl rfl rfl rfl rfl rfl rfl rfl (by omega) ?_
  have htr2 := trim_ok (k + 1) (l := U.take (m + 2)) (by rw [List.length_take]; omega) hUt
  refine st_call _ rfl rfl rfl rfl rfl htr2 ?_
  rintro _ _ _ _ ⟨e5, e6, rfl, rfl, hsR⟩
  subst e5 e6
  have hRt : trimL (U.take (m + 2)) = U.take (trimL (U.take (m + 2))).length := by
    have q1 := trimL_take (U.take (m + 2))
    have q2 := trimL_len (U.take (m + 2))
    rw [List.length_take] at q2
    rw [List.take_take, Nat.min_eq_left (by omega)] at q1
    exact q1.symm
  have hRv : dv 4294967296 (trimL (U.take (m + 2))) = dv 4294967296 U := by rw [← val_dv, trimL_val, val_dv, htk]
  have hRl := trimL_len (U.take (m + 2))
  rw [List.length_take] at hRl
  have dR : Dig (trimL (U.take (m + 2))) := trimL_dig _ fun d hd => dU d (List.mem_of_mem_take hd)
  generalize hR : trimL (U.take (m + 2)) = R at *
  have hUR : U = R ++ U.drop R.length := by
    conv => lhs; rw [← List.take_append_drop R.length U]
    rw [← hRt]
  rw [hUR] at hru
  repeat refine zR ?_
  simp only [EC_seq, EC_region, EC_skip, EO_nil, after_normal]
  repeat refine zR ?_
  simp only [EC_seq, EC_region, EC_skip, EO_nil, after_normal]
  refine div_back (qv := .slice (some ⟨3 * (n + 1 + 1) + 2, 0, none⟩) (M + 1) (M + 1)) (bu := 3 * (n + 1) + 2) (R := R) (T := U.drop R.length) (s := s) (by omega) hru dR (by omega) hs rfl ⟨rfl, rfl, rfl, rfl, trivial⟩ ?_
  rintro D t5 h5 hl5 hbut5 hrow5 dD hDl hDv
  rw [← chain_self hl5]
  clear hl5
  have hR0 : (R[0]?).getD 0 % 2 ^ s = 0 := by
    have q1 : dv 4294967296 R % 2 ^ s = 0 := by rw [hRv, hrem]; exact Nat.mul_mod_left _ _
    cases hR' : R with
    | nil => simp
    | cons x r =>
      rw [hR'] at q1
      simp only [dv] at q1
      rw [← pow_split (show s ≤ 32 by omega), Nat.mul_assoc, Nat.add_mul_mod_self_left] at q1
      simpa using q1
  rw [hR0, Nat.add_zero, hRv, hrem] at hDv
  have hDv' : dv 4294967296 D = dv 4294967296 A % dv 4294967296 C := Nat.eq_of_mul_eq_mul_right hp hDv
  have hrq5 : h5 (3 * (n + 1 + 1) + 2) = some (.row (u32s Qd) _) := (hbut5 _ (by omega)).trans hrq
  have htq := trim_ok (k + 1) (l := Qd) (h := h5) (n := n + 1 + 1 + 1) (by omega) (Sl.own hrq5 (by omega) hQl (Nat.le_refl _))
  have htd := trim_ok (k + 1) (l := D) (h := h5) (n := n + 1 + 1 + 1) (by omega) (Sl.pre hrow5 (by omega) hDl (show R.length ≤ U0.length by omega))
  simp only [EC_seq, EC_region, EC_skip, EO_nil, after_normal]
  repeat refine zR ?_
  refine st_call _ rfl rfl rfl rfl rfl htq ?_
  rintro _ _ _ _ ⟨e7, e8, rfl, rfl, hsq⟩
  subst e7 e8
  repeat refine zR ?_
  refine st_call _ rfl rfl rfl rfl rfl htd ?_
  rintro _ _ _ _ ⟨e9, e10, rfl, rfl, hsd⟩
  subst e9 e10
  repeat refine zR ?_
  simp only [NV, Nat.reduceEqDiff, reduceCtorEq]
  refine retH [.slice (some ⟨3 * (n + 1 + 1) + 2, 0, none⟩) (trimL Qd).length (M + 1), .slice (some ⟨3 * (n + 1) + 2, 0, none⟩) (trimL D).length U0.length] rfl rfl rfl ⟨rfl, by show n ≤ n + 1 + 1 + 1; omega, fun b hb => (hbut5 b (by omega)).trans (hext4 b hb), _, _, trimL Qd, _, _, trimL D, rfl, hsq, hsd, Norm.trim dQ, Norm.trim dD, ?_, ?_, by show 3 * n ≤ 3 * (n + 1 + 1) + 2; omega, by show 3 * n ≤ 3 * (n + 1) + 2; omega⟩
  · rw [trimL_val, val_dv, val_dv, val_dv]; exact hq
  · rw [trimL_val, val_dv, val_dv, val_dv]; exact hDv'
end
end Go.Proofs.YtokfihhdllmbmaaGreatDoor
namespace Go.Proofs.YtokfihhdllmbmaaGreatDoor
open Go Go.GL
theorem gro_mk2 (n : Nat) : gro (3 * n + 2) = false := by
  unfold gro
  rw [show (3 * n + 2) % 3 = 2 from by omega]
  rfl
theorem append_new {E : Env} {h : HF} {n : Nat} {sT e : TypeId} {size bytes m b : Nat} {z x : Value} {new : List Value} (hu : E.und sT = some (.slice e)) (hi : E.inf e = some (size, bytes, z)) (hz : (vcells z).length = size) (h1 : 1 ≤ size ∧ 1 ≤ bytes) (hx : argS h size x m new) (hb : m * bytes ≤ 1099511627776) (hg : gro b = false) (hl : new.length = m * size) :
    ∃ v' h' n', appendF E h n sT (.slice (some ⟨b, 0, none⟩) 0 0) x = some (.val v' h' n' []) ∧ n ≤ n' ∧ Ext n h h' ∧ (b < 3 * n → Sl h' n' size v' new) ∧ (∀ lo, lo ≤ n → 3 * lo ≤ b → Fresh lo v') ∧ ∃ a, v' = .slice a m m := by
  obtain ⟨hl', hc⟩ := hx
  have c1 : Nat.ble (m * bytes) 1099511627776 = true := Nat.ble_eq_true_of_le hb
  have c2 : Nat.beq (vcells z).length size = true := by rw [hz]; exact Nat.beq_refl _
  have c3 : Nat.ble 1 size = true := Nat.ble_eq_true_of_le h1.1
  have c4 : Nat.ble 1 bytes = true := Nat.ble_eq_true_of_le h1.2
  by_cases hm : m = 0
  · subst hm
    have hn0 : new = [] := List.length_eq_zero_iff.1 (by rw [hl]; simp)
    subst hn0
    refine ⟨.slice (some ⟨b, 0, none⟩) 0 0, h, n, ?_, Nat.le_refl _, Ext.refl _ _, fun hb => .nil (.inr ⟨_, _, _, rfl, hb⟩), fun lo _ hlo => hlo, _, rfl⟩
    simp only [appendF, hu, hi, hl', hc, Nat.zero_add, c1, c2, c3, c4, Bool.and_self, show Nat.ble 0 0 = true from rfl, inPlaceF]
  · have c5 : Nat.ble m 0 = false := by
      cases hb : Nat.ble m 0 with
      | false => rfl
      | true => have := Nat.le_of_ble_eq_true hb; omega
    have c6 : argCellsF h size 0 (.slice (some ⟨b, 0, none⟩) 0 0) = some [] := by simp [argCellsF]
    refine ⟨.slice (some ⟨3 * n + 1, 0, none⟩) m m, _, n + 1, ?_, Nat.le_succ _, Ext.upd (b := 3 * n + 1) (x := some (.row new e)) (by omega), fun _ => .at_ (by omega) (upd_same _ _ _) rfl (Nat.le_refl _) (by omega) (by rw [List.drop_zero, List.take_of_length_le (by omega)]), fun lo hlo _ => by show 3 * lo ≤ 3 * n + 1; omega, _, rfl⟩
    simp only [appendF, hu, hi, hl', hc, Nat.zero_add, c1, c2, c3, c4, c5, c6, Bool.and_self, growF, hg, List.nil_append]
set_option maxHeartbeats 1000000
set_option maxRecDepth 100000
theorem divMag_ok (k : Nat) {h : HF} {n : Nat} {a1 a2 : Option Addr} {l1 c1 l2 c2 : Nat} {A C : List Nat} (hA : Sl h n 1 (.slice a1 l1 c1) (u32s A)) (hC : Sl h n 1 (.slice a2 l2 c2) (u32s C)) (nA : Norm A) (nC : Norm C) (hC0 : C ≠ []) (hb : A.length < 1000000000) :
    CF (cal (k + 3)) 195 [.slice a1 l1 c1, .slice a2 l2 c2] h n (DivR n h A C) := by
  refine CF_heap (fn := Tryz.f195) rfl rfl rfl rfl ?_
  have e1 := hA.lenU
  have e2 := hC.lenU
  subst e1 e2
  have hCpos := nC.pos hC0
  simp only [NV, Nat.reduceEqDiff, reduceCtorEq]
  repeat refine zR ?_
  simp only [NV, Nat.reduceEqDiff, reduceCtorEq]
  repeat refine zR ?_
  refine st_vf _ rfl rfl rfl rfl rfl (cmpMag_ok (k + 1) hA hC nA nC (by omega)) ?_
  rintro _ rfl
  by_cases hlt : val A < val C
  · rw [cmpZ_lt hlt]
    repeat refine zR ?_
    simp only [NV, Nat.reduceEqDiff, reduceCtorEq]
    rw [EC_cond_true rfl]
    simp only [NV, Nat.reduceEqDiff, reduceCtorEq]
    refine st_mks (cs := []) rfl rfl rfl rfl rfl ?_
    repeat refine zR ?_
    obtain ⟨v', h', n', g1, g2, g3, g4, g5, a', rfl⟩ := append_new (E := env) (h := upd h (3 * n + 2) (some (.row [] 210))) (n := n + 1) (sT := 54) (b := 3 * n + 2) rfl rfl rfl (by decide) (argS_sl (hA.ext (Ext.upd (by omega)) (Nat.le_succ n))) (by omega) (gro_mk2 n) (by rw [u32s_len, Nat.mul_one])
    refine st_append rfl rfl rfl rfl rfl g1 ?_
    repeat refine zR ?_
    simp only [NV, Nat.reduceEqDiff, reduceCtorEq]
    refine retH [.slice none 0 0, .slice a' A.length A.length] rfl rfl rfl ⟨rfl, by show n ≤ n'; omega, (Ext.upd (by omega)).trans g3 (Nat.le_succ n), none, 0, [], a', _, A, rfl, .nil (.inl rfl), g4 (by omega), Norm.nil, nA, ?_, ?_, trivial, g5 n (Nat.le_succ n) (by omega)⟩
    · rw [Nat.div_eq_of_lt hlt]; rfl
    · rw [Nat.mod_eq_of_lt hlt]
  have hz : 0 ≤ cmpZ (val A) (val C) := by
    unfold cmpZ
    rw [if_neg hlt]
    split <;> decide
  generalize cmpZ (val A) (val C) = cz at hz
  repeat refine zR ?_
  simp only [NV, Nat.reduceEqDiff, reduceCtorEq]
  rw [EC_cond_false rfl]
  simp only [NV, Nat.reduceEqDiff, reduceCtorEq]
  by_cases hone : C.length = 1
  · obtain ⟨d, rfl⟩ : ∃ d, C = [d] := List.length_eq_one_iff.1 hone
    have hd0 : d ≠ 0 := nC.last (l := [])
    have hdB : d < 4294967296 := nC.1 d (by simp)
    have hvC : val [d] = d := by simp [val]
    repeat refine zR ?_
    simp only [NV, Nat.reduceEqDiff, reduceCtorEq]
    rw [EC_cond_true rfl]
    simp only [NV, Nat.reduceEqDiff, reduceCtorEq]
    repeat refine zR ?_
    refine st_at (j := 0) (dv := d) rfl rfl rfl rfl rfl rfl rfl hC rfl rfl rfl (fun _ => rfl) rfl rfl rfl rfl fun _ => ?_
    refine st_call _ rfl rfl rfl rfl rfl (smallDiv_ok k (d := d) (by omega) nA.1 (by omega) hA) ?_
    rintro _ h1 n1 _ ⟨rfl, hn1, hx1, a', c', L, rfl, hsL, nL, hvL, hfL, _⟩
    repeat refine zR ?_
    simp only [NV, Nat.reduceEqDiff, reduceCtorEq]
    repeat refine zR ?_
    refine st_mks (cs := [.int .u32 ((val A % d : Nat) : Int)]) rfl rfl rfl rfl rfl ?_
    have htr := trim_ok (k + 1) (l := [val A % d]) (h := upd h1 (3 * n1 + 2) (some (.row [.int .u32 ((val A % d : Nat) : Int)] 210))) (n := n1 + 1) (by simp) (Sl.own (O := [val A % d]) (upd_same _ _ _) (by omega) rfl (Nat.le_refl _))
    refine st_call _ rfl rfl rfl rfl rfl htr ?_
    rintro _ _ _ _ ⟨e5, e6, rfl, rfl, hsR⟩
    subst e5 e6
    repeat refine zR ?_
    simp only [NV, Nat.reduceEqDiff, reduceCtorEq]
    have hmod : val A % d < d := Nat.mod_lt _ (by omega)
    refine retH [.slice a' L.length c', .slice (some ⟨3 * n1 + 2, 0, none⟩) (trimL [val A % d]).length 1] rfl rfl rfl ⟨rfl, by show n ≤ n1 + 1; omega, hx1.trans (Ext.upd (by omega)) hn1, a', c', L, _, _, trimL [val A % d], rfl, hsL.ext (Ext.upd (by omega)) (Nat.le_succ _), hsR, nL, Norm.trim (fun x hx => by simp at hx; omega), by rw [hvL, hvC], ?_, hfL, by show 3 * n ≤ 3 * n1 + 2; omega⟩
    rw [trimL_val, hvC]
    simp [val]
  have hlen0 : C.length ≠ 0 := fun e => hC0 (List.length_eq_zero_iff.1 e)
  obtain ⟨m, hm⟩ : ∃ m, C.length = m + 2 := ⟨C.length - 2, by omega⟩
  repeat refine zR ?_
  simp only [EC_skip, EO_nil, after_normal, EC_seq]
  rw [EC_cond_false rfl]
  simp only [EC_skip, after_normal]
  exact div_gen hA hC nA nC hm hb (by omega) rfl ⟨rfl, rfl, trivial⟩
end Go.Proofs.YtokfihhdllmbmaaGreatDoor
namespace Go.Proofs.YtokfihhdllmbmaaGreatDoor
open Go Go.GL
section
variable {X : CtxF} {ops r : List Oper} {t : TF} {h : HF} {n : Nat} {w : List Nat} {Q : SV → Prop} {o : Oper} {d : Tmp}
theorem st_mul {ty ty' : TypeId} {x y : Operand} {a b : Int} (hw : wantsF ops t o = true) (hd : o.dst = some d) (hn : dstOk X.nt (some d) = true) (ho : o.op = .binOp .mul ty x y ty') (hx : evF t x = .int .i64 a) (hy : evF t y = .int .i64 b) (hr : -9223372036854775808 ≤ a * b ∧ a * b < 9223372036854775808)
    (k : EO X ops r ⟨upd t d (.int .i64 (a * b)), h, n, w⟩ Q) : EO X ops (o :: r) ⟨t, h, n, w⟩ Q := by
  refine st_val hw hd hn (by rw [ho]; rfl) ?_ k
  rw [ho]
  show binE X.E .mul ty (evF t x) (evF t y) = _
  rw [hx, hy]
  show some (Value.int .i64 (IntKind.wrap .i64 (a * b))) = _
  rw [wrap_i64 hr]
end
set_option maxHeartbeats 1000000
theorem bits_ok (k : Nat) {h : HF} {n : Nat} {c1 c2 : Value} {x : Int} {l : List Nat} (hi : IntR h n c1 c2 x l) (hb : l.length < 1000000000) : VF (cal (k + 1)) 155 [.agg #[c1, c2]] h n fun v => ∃ b : Nat, v = .int .i64 (b : Int) ∧ (b = 0 ↔ x.natAbs = 0) ∧ (b = 1 ↔ x.natAbs = 1) := by
  refine CF_flat (fn := Tryz.f155) rfl rfl rfl rfl ?_
  obtain ⟨rfl, hsl, hnorm, hval⟩ := hi
  obtain ⟨a, len, cap, rfl, _⟩ := hsl.len
  have e1 := hsl.lenU
  subst e1
  simp only [NV, Nat.reduceEqDiff, reduceCtorEq]
  refine st_mkp (cs := [.bool (decide (x < 0)), .slice a l.length cap]) rfl rfl rfl rfl rfl ?_
  repeat refine zR ?_
  simp only [NV, Nat.reduceEqDiff, reduceCtorEq]
  repeat refine zR ?_
  refine st_load1 rfl rfl rfl rfl rfl rfl (upd_same _ _ _) rfl (v := .slice a l.length cap) rfl ?_
  by_cases h0 : l = []
  · subst h0
    repeat refine zR ?_
    simp only [NV, Nat.reduceEqDiff, reduceCtorEq]
    rw [EC_cond_true rfl]
    simp only [NV, Nat.reduceEqDiff, reduceCtorEq]
    repeat refine zR ?_
    simp only [NV, Nat.reduceEqDiff, reduceCtorEq]
    refine retF _ rfl (resF_tmp rfl) rfl rfl ⟨0, rfl, ?_, ?_⟩ <;> rw [← hval] <;> simp [val]
  obtain ⟨i, top, rfl⟩ := snoc h0
  have ht0 : top ≠ 0 := hnorm.last
  have htB : top < 4294967296 := hnorm.1 top (by simp)
  have hll : (i ++ [top]).length = i.length + 1 := by simp
  rw [hll] at hb hsl
  simp only [hll]
  have hsl1 := hsl.ext (Ext.upd (b := 3 * n + 2) (x := some (.row [.bool (decide (x < 0)), .slice a (i.length + 1) cap] 56)) (by omega)) (Nat.le_succ n)
  repeat refine zR ?_
  simp only [NV, Nat.reduceEqDiff, reduceCtorEq]
  rw [EC_cond_false rfl]
  simp only [NV, Nat.reduceEqDiff, reduceCtorEq]
  repeat refine zR ?_
  refine st_load1 rfl rfl rfl rfl rfl rfl (upd_same _ _ _) rfl (v := .slice a (i.length + 1) cap) rfl ?_
  refine zM ?_
  refine st_sub rfl rfl rfl rfl rfl rfl (by omega) ?_
  refine st_mul rfl rfl rfl rfl rfl rfl (by omega) ?_
  repeat refine zR ?_
  simp only [NV, Nat.reduceEqDiff, reduceCtorEq]
  repeat refine zR ?_
  refine st_load1 rfl rfl rfl rfl rfl rfl (upd_same _ _ _) rfl (v := .slice a (i.length + 1) cap) rfl ?_
  repeat refine zR ?_
  refine st_load1 rfl rfl rfl rfl rfl rfl (upd_same _ _ _) rfl (v := .slice a (i.length + 1) cap) rfl ?_
  repeat refine zR ?_
  refine st_at (j := i.length) (dv := top) rfl rfl rfl rfl rfl rfl rfl hsl1 rfl (by omega) (by simp) (fun _ => rfl) rfl rfl rfl rfl fun _ => ?_
  repeat refine zR ?_
  simp only [NV, Nat.reduceEqDiff, reduceCtorEq]
  generalize hh1 : upd h (3 * n + 2) _ = h1
  refine EC_for (α := Nat × Nat) (fun z => [(3, .int .i64 ((32 * i.length + z.1 : Nat) : Int)), (4, .int .u32 (z.2 : Int))]) (fun z h' n' w' => n' = n + 1 ∧ w' = [] ∧ z.2 = top / 2 ^ z.1 ∧ (z.1 = 0 ∨ top / 2 ^ (z.1 - 1) ≠ 0) ∧ z.1 ≤ 32) (fun z => 33 - z.1) (0, top) ⟨by show Value.int .i64 _ = Value.int .i64 _; congr 1; omega, rfl, trivial⟩ ⟨rfl, rfl, by simp, .inl rfl, Nat.zero_le _⟩ (by show 33 - 0 < LL; decide) ?_
  rintro ⟨c, tv⟩ t2 h2 _ _ ⟨rfl, rfl, htv, hmin, hc⟩
  simp only at htv hmin hc
  subst htv
  simp only [NV, Nat.reduceEqDiff, reduceCtorEq]
  by_cases hz : top / 2 ^ c = 0
  · repeat refine zR ?_
    simp only [NV, Nat.reduceEqDiff, reduceCtorEq]
    rw [EC_cond_false rfl]
    simp only [NV, Nat.reduceEqDiff, reduceCtorEq]
    repeat refine zR ?_
    simp only [NV, Nat.reduceEqDiff, reduceCtorEq]
    have hc0 : c ≠ 0 := fun e => by rw [e, Nat.pow_zero, Nat.div_one] at hz; exact ht0 hz
    have hvv : x.natAbs = val i + 4294967296 ^ i.length * top := by rw [← hval, val_append]; simp [val]
    refine retF _ rfl (resF_tmp rfl) rfl rfl ⟨32 * i.length + c, rfl, ?_, ?_⟩
    · have hpos : 0 < 4294967296 ^ i.length * top := Nat.mul_pos (Nat.pow_pos (by omega)) (by omega)
      omega
    · have hpos : 0 < 4294967296 ^ i.length * top := Nat.mul_pos (Nat.pow_pos (by omega)) (by omega)
      by_cases hi0 : i.length = 0
      · rw [List.length_eq_zero_iff.1 hi0] at hvv ⊢
        simp only [val, List.length_nil, Nat.pow_zero, Nat.one_mul, Nat.zero_add, Nat.mul_zero] at hvv ⊢
        rw [hvv]
        constructor
        · rintro rfl
          rw [Nat.pow_one] at hz
          omega
        · rintro rfl
          rcases hmin with hm | hm
          · exact absurd hm hc0
          · apply Classical.byContradiction
            intro hn
            apply hm
            exact Nat.div_eq_of_lt (Nat.one_lt_two_pow (by omega))
      · have h32 : 4294967296 ^ 1 * 1 ≤ 4294967296 ^ i.length * top := Nat.mul_le_mul (Nat.pow_le_pow_right (by omega) (by omega)) (by omega)
        omega
  · have hc32 : c + 1 ≤ 32 := by
      apply Classical.byContradiction
      intro hn
      have : c = 32 := by omega
      subst this
      exact hz (Nat.div_eq_of_lt htB)
    have hle : top / 2 ^ c ≤ top := Nat.div_le_self _ _
    generalize htv : top / 2 ^ c = tv at hz hle ⊢
    repeat refine zR ?_
    simp only [NV, Nat.reduceEqDiff, reduceCtorEq]
    rw [EC_cond_true rfl]
    simp only [NV, Nat.reduceEqDiff, reduceCtorEq]
    repeat refine zR ?_
    simp only [NV, Nat.reduceEqDiff, reduceCtorEq]
    refine zM ?_
    refine st_shr_u32 (a := tv) (s := 1) rfl rfl rfl rfl rfl rfl (by omega) ?_
    repeat refine zR ?_
    simp only [NV, Nat.reduceEqDiff, reduceCtorEq]
    refine goOn (c + 1, tv / 2 ^ 1) (by show 33 - (c + 1) < 33 - c; omega) ⟨by show Value.int .i64 _ = Value.int .i64 _; congr 1, rfl, trivial⟩ ⟨rfl, rfl, ?_, .inr (by show top / 2 ^ (c + 1 - 1) ≠ 0; rw [Nat.add_sub_cancel, htv]; exact hz), hc32⟩
    show tv / 2 ^ 1 = top / 2 ^ (c + 1)
    rw [← htv, Nat.div_div_eq_div_mul, ← Nat.pow_add]
end Go.Proofs.YtokfihhdllmbmaaGreatDoor
namespace Go.Proofs.YtokfihhdllmbmaaGreatDoor
open Go Go.GL
theorem mk1_int {h : HF} {n : Nat} {a : Option Addr} {c : Nat} {L : List Nat} {x : Int} {neg : Bool} (hs : Sl h n 1 (.slice a L.length c) (u32s L)) (hn : Norm L) (hv : val L = x.natAbs) (hneg : x ≠ 0 → neg = decide (x < 0)) : IntR h n (.bool (neg && decide (0 < L.length))) (.slice a L.length c) x L := by
  refine ⟨?_, hs, hn, hv⟩
  have h0 := hn.zero
  rw [← List.length_eq_zero_iff] at h0
  by_cases hx : x = 0
  · have : ¬ 0 < L.length := by omega
    rw [decide_eq_false this, hx, Bool.and_false]
    rfl
  · have : 0 < L.length := by omega
    rw [decide_eq_true this, Bool.and_true, hneg hx]
set_option maxHeartbeats 1000000
theorem neg_ok (k : Nat) {h : HF} {n : Nat} {c1 c2 : Value} {x : Int} {l : List Nat} (hi : IntR h n c1 c2 x l) : CF (cal (k + 2)) 152 [.agg #[c1, c2]] h n fun v h' n' w => w = [] ∧ n ≤ n' ∧ Ext n h h' ∧ ∃ c1', v = .agg #[c1', c2] ∧ IntR h' n' c1' c2 (-x) l := by
  refine CF_heap (fn := Tryz.f152) rfl rfl rfl rfl ?_
  obtain ⟨rfl, hsl, hnorm, hval⟩ := hi
  obtain ⟨a, len, cap, rfl, _⟩ := hsl.len
  have e1 := hsl.lenU
  subst e1
  simp only [NV, Nat.reduceEqDiff, reduceCtorEq]
  refine st_mkp (cs := [.bool (decide (x < 0)), .slice a l.length cap]) rfl rfl rfl rfl rfl ?_
  refine st_alloc rfl rfl rfl rfl rfl ?_
  simp only [NV, Nat.reduceEqDiff, reduceCtorEq]
  generalize hh : upd (upd h (3 * n + 2) _) (3 * (n + 1) + 2) _ = h1
  have hp : ∃ e, h1 (3 * n + 2) = some (.row [.bool (decide (x < 0)), .slice a l.length cap] e) := ⟨_, by rw [← hh, upd_ne (by omega), upd_same]⟩
  have hr : ∃ e, h1 (3 * (n + 1) + 2) = some (.row [.bool false, .slice none 0 0] e) := ⟨_, by rw [← hh, upd_same]; rfl⟩
  have hx1 : Ext n h h1 := by rw [← hh]; intro b hb; rw [upd_ne (by omega), upd_ne (by omega)]
  obtain ⟨ty1, hp⟩ := hp
  obtain ⟨ty2, hr⟩ := hr
  repeat refine zR ?_
  refine st_load1 rfl rfl rfl rfl rfl rfl hp rfl (v := .bool (decide (x < 0))) rfl ?_
  repeat refine zR ?_
  refine st_load1 rfl rfl rfl rfl rfl rfl hp rfl (v := .slice a l.length cap) rfl ?_
  refine st_call _ rfl rfl rfl rfl rfl (make1_ok k _ _ (!decide (x < 0)) a l.length cap) ?_
  rintro _ h2 n2 _ ⟨rfl, rfl, rfl, hx2⟩
  refine st_storeW [.bool (!decide (x < 0) && decide (0 < l.length)), .slice a l.length cap] rfl rfl rfl rfl rfl rfl rfl rfl (by rw [hx2 _ (by omega)]; exact hr) rfl (by show 3 * n ≤ _; omega) ?_
  simp only [NV, Nat.reduceEqDiff, reduceCtorEq]
  have hext : Ext n h (upd h2 (3 * (n + 1) + 2) (some (.row [.bool (!decide (x < 0) && decide (0 < l.length)), .slice a l.length cap] ty2))) := fun b hb => by rw [upd_ne (by omega), hx2 b (by omega)]; exact hx1 b hb
  refine retCell rfl rfl rfl rfl rfl (upd_same _ _ _) rfl ⟨rfl, by show n ≤ n + 1 + 1 + 1; omega, hext, _, rfl, mk1_int (hsl.ext hext (by omega)) hnorm (by rw [hval]; omega) (fun hx0 => ?_)⟩
  by_cases hx : x < 0
  · rw [decide_eq_true hx, decide_eq_false (by omega)]; rfl
  · rw [decide_eq_false hx, decide_eq_true (by omega)]; rfl
theorem retCell2 {fn : Func} {P : Value → HF → Nat → List Nat → Prop} {e : Ex} {t : TF} {h : HF} {n : Nat} {w : List Nat} {a a2 : Tmp} {ty ty2 e1 e2 : TypeId} {b b2 sz sz2 bt bt2 : Nat} {z z2 : Value} {cs cs2 : List Value} (he : isEnd e = true) (hr : fn.results.toList = [.cell a ty, .cell a2 ty2]) (ha : t a = .pointer (some ⟨b, 0, none⟩)) (ha2 : t a2 = .pointer (some ⟨b2, 0, none⟩)) (hg : GL.isAgg env ty = some true) (hg2 : GL.isAgg env ty2 = some true) (hi : env.inf ty = some (sz, bt, z)) (hi2 : env.inf ty2 = some (sz2, bt2, z2)) (hb : h b = some (.row cs e1)) (hb2 : h b2 = some (.row cs2 e2)) (hl : cs.length = sz) (hl2 : cs2.length = sz2) (hp : P (.tuple #[.agg cs.toArray, .agg cs2.toArray]) h n w) : RetH fn P e ⟨t, h, n, w⟩ := by
  refine retH [.agg cs.toArray, .agg cs2.toArray] he ?_ rfl hp
  rw [hr]
  have l1 := loadn_eq hg hi hb rfl (show 0 + sz ≤ cs.length by omega) (show (cs.drop 0).take sz = cs by rw [List.drop_zero, List.take_of_length_le (by omega)])
  have l2 := loadn_eq hg2 hi2 hb2 rfl (show 0 + sz2 ≤ cs2.length by omega) (show (cs2.drop 0).take sz2 = cs2 by rw [List.drop_zero, List.take_of_length_le (by omega)])
  simp only [resF, ha, ha2, l1, l2]
theorem quoRem_ok (k : Nat) {h : HF} {n : Nat} {c1 c2 d1 d2 : Value} {x y : Int} {A C : List Nat} (hx : IntR h n c1 c2 x A) (hy : IntR h n d1 d2 y C) (hy0 : y ≠ 0) (hb : A.length < 1000000000) :
    CF (cal (k + 4)) 156 [.agg #[c1, c2], .agg #[d1, d2]] h n fun v h' n' w => w = [] ∧ n ≤ n' ∧ Ext n h h' ∧ ∃ q1 q2 r1 r2 Lq Lr, v = .tuple #[.agg #[q1, q2], .agg #[r1, r2]] ∧ IntR h' n' q1 q2 (x.tdiv y) Lq ∧ IntR h' n' r1 r2 (x.tmod y) Lr ∧ Fresh n q2 ∧ Fresh n r2 := by
  refine CF_heap (fn := Tryz.f156) rfl rfl rfl rfl ?_
  obtain ⟨rfl, hA, nA, vA⟩ := hx
  obtain ⟨rfl, hC, nC, vC⟩ := hy
  obtain ⟨a, la, ca, rfl, _⟩ := hA.len
  obtain ⟨c, lc, cc, rfl, _⟩ := hC.len
  have e1 := hA.lenU
  have e2 := hC.lenU
  subst e1 e2
  have hC0 : C ≠ [] := fun e => hy0 (by have := nC.zero.2 e; omega)
  simp only [NV, Nat.reduceEqDiff, reduceCtorEq]
  refine st_mkp (cs := [.bool (decide (x < 0)), .slice a A.length ca]) rfl rfl rfl rfl rfl ?_
  refine st_mkp (cs := [.bool (decide (y < 0)), .slice c C.length cc]) rfl rfl rfl rfl rfl ?_
  refine st_alloc rfl rfl rfl rfl rfl ?_
  refine st_alloc rfl rfl rfl rfl rfl ?_
  simp only [NV, Nat.reduceEqDiff, reduceCtorEq]
  generalize hh : upd (upd (upd (upd h (3 * n + 2) _) (3 * (n + 1) + 2) _) (3 * (n + 1 + 1) + 2) _) (3 * (n + 1 + 1 + 1) + 2) _ = h1
  have hp1 : ∃ e, h1 (3 * n + 2) = some (.row [.bool (decide (x < 0)), .slice a A.length ca] e) := ⟨_, by rw [← hh, upd_ne (by omega), upd_ne (by omega), upd_ne (by omega), upd_same]⟩
  have hp2 : ∃ e, h1 (3 * (n + 1) + 2) = some (.row [.bool (decide (y < 0)), .slice c C.length cc] e) := ⟨_, by rw [← hh, upd_ne (by omega), upd_ne (by omega), upd_same]⟩
  have hr1 : ∃ e, h1 (3 * (n + 1 + 1) + 2) = some (.row [.bool false, .slice none 0 0] e) := ⟨_, by rw [← hh, upd_ne (by omega), upd_same]; rfl⟩
  have hr2 : ∃ e, h1 (3 * (n + 1 + 1 + 1) + 2) = some (.row [.bool false, .slice none 0 0] e) := ⟨_, by rw [← hh, upd_same]; rfl⟩
  have hx1 : Ext n h h1 := by rw [← hh]; intro b hb; rw [upd_ne (by omega), upd_ne (by omega), upd_ne (by omega), upd_ne (by omega)]
  obtain ⟨t1, hp1⟩ := hp1
  obtain ⟨t2, hp2⟩ := hp2
  obtain ⟨t3, hr1⟩ := hr1
  obtain ⟨t4, hr2⟩ := hr2
  repeat refine zR ?_
  refine st_load1 rfl rfl rfl rfl rfl rfl hp1 rfl (v := .slice a A.length ca) rfl ?_
  repeat refine zR ?_
  refine st_load1 rfl rfl rfl rfl rfl rfl hp2 rfl (v := .slice c C.length cc) rfl ?_
  refine st_call _ rfl rfl rfl rfl rfl (divMag_ok k (hA.ext hx1 (show n ≤ n + 1 + 1 + 1 + 1 by omega)) (hC.ext hx1 (show n ≤ n + 1 + 1 + 1 + 1 by omega)) nA nC hC0 hb) ?_
  rintro _ h2 n2 _ ⟨rfl, hn2, hx2, aq, cq, Lq, ar, cr, Lr, rfl, hsq, hsr, nq, nr, vq, vr, fq, fr⟩
  repeat refine zR ?_
  simp only [NV, Nat.reduceEqDiff, reduceCtorEq]
  refine EC_draw [0, 1, 0, 4, 15, 0, 63, 0, 128, 0, 1023, 2047, 4095] rfl ?_
  have hp1' : h2 (3 * n + 2) = _ := (hx2 _ (by omega)).trans hp1
  have hp2' : h2 (3 * (n + 1) + 2) = _ := (hx2 _ (by omega)).trans hp2
  repeat refine zD ?_
  refine dr_load rfl rfl rfl rfl rfl rfl (load1_eq rfl hp1' rfl (v := .bool (decide (x < 0))) rfl) rfl rfl ?_
  repeat refine zD ?_
  refine dr_load rfl rfl rfl rfl rfl rfl (load1_eq rfl hp2' rfl (v := .bool (decide (y < 0))) rfl) rfl rfl ?_
  refine dr_B (a := decide (x < 0) != decide (y < 0)) rfl rfl rfl rfl rfl ?_
  repeat refine zD ?_
  refine dr_call _ rfl rfl rfl rfl rfl rfl rfl (make1_ok (k + 2) _ _ (decide (x < 0) != decide (y < 0)) aq Lq.length cq) ?_
  rintro _ h3 n3 _ ⟨rfl, rfl, rfl, hx3⟩
  refine ⟨rfl, by omega, ?_⟩
  repeat refine zD ?_
  refine dr_load rfl rfl rfl rfl rfl rfl (load1_eq rfl hp1' rfl (v := .bool (decide (x < 0))) rfl) (okEffsF_nil (by simp)) rfl ?_
  repeat refine zD ?_
  refine dr_call _ rfl rfl rfl rfl rfl rfl rfl (make1_ok (k + 2) _ _ (decide (x < 0)) ar Lr.length cr) ?_
  rintro _ h4 n4 _ ⟨rfl, rfl, rfl, hx4⟩
  refine ⟨rfl, by omega, ?_⟩
  have hr1' : h4 (3 * (n + 1 + 1) + 2) = _ := (hx4 _ (by omega)).trans ((hx3 _ (by omega)).trans ((hx2 _ (by omega)).trans hr1))
  have hr2' : h4 (3 * (n + 1 + 1 + 1) + 2) = _ := (hx4 _ (by omega)).trans ((hx3 _ (by omega)).trans ((hx2 _ (by omega)).trans hr2))
  refine dr_storeN (cs := [.bool ((decide (x < 0) != decide (y < 0)) && decide (0 < Lq.length)), .slice aq Lq.length cq]) rfl rfl rfl rfl rfl rfl rfl rfl hr1' (Nat.le_of_ble_eq_true rfl) (by show 3 * n ≤ _; omega) rfl rfl rfl ?_
  refine dr_storeN (cs := [.bool (decide (x < 0) && decide (0 < Lr.length)), .slice ar Lr.length cr]) rfl rfl rfl rfl rfl rfl rfl rfl ((upd_ne (by omega)).trans hr2') (Nat.le_of_ble_eq_true rfl) (by show 3 * n ≤ _; omega) rfl rfl rfl ?_
  simp only [NV, Nat.reduceEqDiff, reduceCtorEq]
  have hext : Ext n h (upd (upd h4 (3 * (n + 1 + 1) + 2) (some (.row [.bool ((decide (x < 0) != decide (y < 0)) && decide (0 < Lq.length)), .slice aq Lq.length cq] t3))) (3 * (n + 1 + 1 + 1) + 2) (some (.row [.bool (decide (x < 0) && decide (0 < Lr.length)), .slice ar Lr.length cr] t4))) := fun b hb => by
    rw [upd_ne (by omega), upd_ne (by omega), hx4 b (by omega), hx3 b (by omega), hx2 b (by omega)]; exact hx1 b hb
  refine retCell2 rfl rfl rfl rfl rfl rfl rfl rfl ((upd_ne (by omega)).trans (upd_same _ _ _)) (upd_same _ _ _) rfl rfl ⟨rfl, by show n ≤ n2 + 1 + 1; omega, hext, _, _, _, _, Lq, Lr, rfl, ?_, ?_, ?_, ?_⟩
  · refine mk1_int (((((hsq.ext hx3 (Nat.le_succ _)).ext hx4 (Nat.le_succ _)).old fq (by omega)).old fq (by omega))) nq ?_ fun h0 => ?_
    · rw [vq, vA, vC, Int.natAbs_tdiv]; rfl
    · by_cases hx0 : x < 0 <;> by_cases hy0 : y < 0
      · rw [decide_eq_true hx0, decide_eq_true hy0, decide_eq_false (by have := Int.tdiv_nonneg_of_nonpos_of_nonpos (a := x) (b := y) (by omega) (by omega); omega)]; rfl
      · have h1 := Int.tdiv_nonneg (a := -x) (b := y) (by omega) (by omega)
        rw [Int.neg_tdiv] at h1
        rw [decide_eq_true hx0, decide_eq_false hy0, decide_eq_true (by omega)]; rfl
      · have h1 := Int.tdiv_nonneg (a := x) (b := -y) (by omega) (by omega)
        rw [Int.tdiv_neg] at h1
        rw [decide_eq_false hx0, decide_eq_true hy0, decide_eq_true (by omega)]; rfl
      · rw [decide_eq_false hx0, decide_eq_false hy0, decide_eq_false (by have := Int.tdiv_nonneg (a := x) (b := y) (by omega) (by omega); omega)]; rfl
  · refine mk1_int (((((hsr.ext hx3 (Nat.le_succ _)).ext hx4 (Nat.le_succ _)).old fr (by omega)).old fr (by omega))) nr ?_ fun h0 => ?_
    · rw [vr, vA, vC, Int.natAbs_tmod]
    · by_cases hx0 : x < 0
      · have h1 := Int.tmod_nonneg (a := -x) y (by omega)
        rw [Int.neg_tmod] at h1
        rw [decide_eq_true hx0, decide_eq_true (by omega)]
      · rw [decide_eq_false hx0, decide_eq_false (by have := Int.tmod_nonneg (a := x) y (by omega); omega)]
  · exact fq.mono (by omega)
  · exact fr.mono (by omega)
end Go.Proofs.YtokfihhdllmbmaaGreatDoor
namespace Go.Proofs.YtokfihhdllmbmaaGreatDoor
open Go Go.GL
def EuI (m x y : Nat) : Prop := if m % 2 = 0 then y < 2 ^ (m / 2) else x < 2 ^ (m / 2 + 1) ∧ y < x
theorem EuI.pos {m x y : Nat} (h : EuI m x y) (hy : 0 < y) : 0 < m := by
  apply Classical.byContradiction
  intro hm
  have : m = 0 := by omega
  subst this
  unfold EuI at h
  simp at h
  omega
theorem mod_half {x y : Nat} (hy : 0 < y) (h : y < x) : 2 * (x % y) < x := by
  have h1 := Nat.mod_lt x hy
  have h2 := Nat.div_add_mod x y
  have h3 : 1 ≤ x / y := (Nat.le_div_iff_mul_le hy).2 (by omega)
  have h4 : y * 1 ≤ y * (x / y) := Nat.mul_le_mul_left y h3
  omega
theorem EuI.next {m x y : Nat} (h : EuI (m + 1) x y) (hy : 0 < y) : EuI m y (x % y) := by
  unfold EuI at h ⊢
  by_cases hm : (m + 1) % 2 = 0
  · rw [if_pos hm] at h
    rw [if_neg (by omega)]
    rw [show m / 2 + 1 = (m + 1) / 2 from by omega]
    exact ⟨h, Nat.mod_lt x hy⟩
  · rw [if_neg hm] at h
    rw [if_pos (by omega)]
    have h1 := mod_half hy h.2
    rw [show (m + 1) / 2 + 1 = m / 2 + 1 from by omega, Nat.pow_succ] at h
    omega
def Off (b : Nat) : Value → Prop
  | .slice (some a) _ _ => a.block ≠ b
  | _ => True
theorem Sl.off {h : HF} {n sz b : Nat} {v : Value} {c : List Value} {x : Option BF} (s : Sl h n sz v c) (ho : Off b v) : Sl (upd h b x) n sz v c :=
  s.keep (fun a l cap e => by subst e; exact upd_ne ho) (Nat.le_refl _)
theorem Below.off {m b : Nat} {v : Value} (h : Below m v) (hb : 3 * m ≤ b) : Off b v := by
  unfold Below at h
  unfold Off
  split <;> simp_all
  omega
theorem Fresh.off {m b : Nat} {v : Value} (h : Fresh m v) (hb : b < 3 * m) : Off b v := by
  unfold Fresh at h
  unfold Off
  split <;> simp_all
  omega
set_option maxHeartbeats 1000000
theorem gcd_ok (k : Nat) {h : HF} {n : Nat} {c1 c2 d1 d2 : Value} {x y : Int} {A C : List Nat} (hx : IntR h n c1 c2 x A) (hy : IntR h n d1 d2 y C) (hb : A.length < 1000000000 ∧ C.length < 1000000000) :
    CF (cal (k + 4)) 154 [.agg #[c1, c2], .agg #[d1, d2]] h n fun v h' n' w => w = [] ∧ n ≤ n' ∧ Ext n h h' ∧ ∃ g1 g2 L, v = .agg #[g1, g2] ∧ IntR h' n' g1 g2 ((Nat.gcd x.natAbs y.natAbs : Nat) : Int) L ∧ L.length < 1000000000 ∧ ∀ b, b < 3 * n → Off b c2 → Off b d2 → Off b g2 := by
  refine CF_heap (fn := Tryz.f154) rfl rfl rfl rfl ?_
  obtain ⟨rfl, hA, nA, vA⟩ := hx
  obtain ⟨rfl, hC, nC, vC⟩ := hy
  obtain ⟨a, la, ca, rfl, _⟩ := hA.len
  obtain ⟨c, lc, cc, rfl, _⟩ := hC.len
  have e1 := hA.lenU
  have e2 := hC.lenU
  subst e1 e2
  simp only [NV, Nat.reduceEqDiff, reduceCtorEq]
  refine st_mkp (cs := [.bool (decide (x < 0)), .slice a A.length ca]) rfl rfl rfl rfl rfl ?_
  refine st_mkp (cs := [.bool (decide (y < 0)), .slice c C.length cc]) rfl rfl rfl rfl rfl ?_
  refine st_alloc rfl rfl rfl rfl rfl ?_
  simp only [NV, Nat.reduceEqDiff, reduceCtorEq]
  generalize hh : upd (upd (upd h (3 * n + 2) _) (3 * (n + 1) + 2) _) (3 * (n + 1 + 1) + 2) _ = h1
  have hp1 : ∃ e, h1 (3 * n + 2) = some (.row [.bool (decide (x < 0)), .slice a A.length ca] e) := ⟨_, by rw [← hh, upd_ne (by omega), upd_ne (by omega), upd_same]⟩
  have hp2 : ∃ e, h1 (3 * (n + 1) + 2) = some (.row [.bool (decide (y < 0)), .slice c C.length cc] e) := ⟨_, by rw [← hh, upd_ne (by omega), upd_same]⟩
  have hr1 : ∃ e, h1 (3 * (n + 1 + 1) + 2) = some (.row [.bool false, .slice none 0 0] e) := ⟨_, by rw [← hh, upd_same]; rfl⟩
  have hx1 : Ext n h h1 := by rw [← hh]; intro b hb; rw [upd_ne (by omega), upd_ne (by omega), upd_ne (by omega)]
  obtain ⟨t1, hp1⟩ := hp1
  obtain ⟨t2, hp2⟩ := hp2
  obtain ⟨t3, hr1⟩ := hr1
  rw [EC_quietC rfl]
  repeat refine zR ?_
  refine st_load1 rfl rfl rfl rfl rfl rfl hp1 rfl (v := .slice a A.length ca) rfl ?_
  repeat refine zR ?_
  refine st_load1 rfl rfl rfl rfl rfl rfl hp2 rfl (v := .slice c C.length cc) rfl ?_
  repeat refine zR ?_
  simp only [NV, Nat.reduceEqDiff, reduceCtorEq]
  refine EC_for (α := (Option Addr × Nat × List Nat) × (Option Addr × Nat × List Nat) × Nat) (fun z => [(4, .pointer (some ⟨3 * (n + 1 + 1) + 2, 0, none⟩)), (5, .slice z.1.1 z.1.2.2.length z.1.2.1), (6, .slice z.2.1.1 z.2.1.2.2.length z.2.1.2.1)])
    (fun z h' n' w' => n + 1 + 1 + 1 ≤ n' ∧ w' = [] ∧ Ext (n + 1 + 1 + 1) h1 h' ∧ Sl h' n' 1 (.slice z.1.1 z.1.2.2.length z.1.2.1) (u32s z.1.2.2) ∧ Sl h' n' 1 (.slice z.2.1.1 z.2.1.2.2.length z.2.1.2.1) (u32s z.2.1.2.2) ∧ Norm z.1.2.2 ∧ Norm z.2.1.2.2 ∧ z.1.2.2.length < 1000000000 ∧ z.2.1.2.2.length < 1000000000 ∧ EuI z.2.2 (val z.1.2.2) (val z.2.1.2.2) ∧ Nat.gcd (val z.1.2.2) (val z.2.1.2.2) = Nat.gcd x.natAbs y.natAbs ∧ (∀ b, b < 3 * (n + 1 + 1 + 1) → Off b (.slice a A.length ca) → Off b (.slice c C.length cc) → Off b (.slice z.1.1 z.1.2.2.length z.1.2.1)) ∧ (∀ b, b < 3 * (n + 1 + 1 + 1) → Off b (.slice a A.length ca) → Off b (.slice c C.length cc) → Off b (.slice z.2.1.1 z.2.1.2.2.length z.2.1.2.1))) (fun z => z.2.2)
    ((a, ca, A), (c, cc, C), 2 * (32 * C.length)) ⟨rfl, rfl, rfl, trivial⟩ ⟨by show n + 1 + 1 + 1 ≤ n + 1 + 1 + 1; omega, rfl, Ext.refl _ _, hA.ext hx1 (show n ≤ n + 1 + 1 + 1 by omega), hC.ext hx1 (show n ≤ n + 1 + 1 + 1 by omega), nA, nC, hb.1, hb.2, ?_, by rw [vA, vC], fun _ _ h1 _ => h1, fun _ _ _ h2 => h2⟩ (by show 2 * (32 * C.length) < LL; unfold LL; omega) ?_
  · show EuI (2 * (32 * C.length)) (val A) (val C)
    unfold EuI
    rw [if_pos (by omega), show 2 * (32 * C.length) / 2 = 32 * C.length from by omega, Nat.pow_mul]
    exact val_lt nC.1
  rintro ⟨⟨a', ca', A'⟩, ⟨c', cc', C'⟩, m⟩ t h2 n2 _ ⟨hn2, rfl, hx2, hA', hC', nA', nC', bA', bC', hm, hg, oA, oC⟩
  simp only at hA' hC' nA' nC' bA' bC' hm hg oA oC
  simp only [NV, Nat.reduceEqDiff, reduceCtorEq]
  by_cases hC0 : C' = []
  · subst hC0
    repeat refine zR ?_
    simp only [NV, Nat.reduceEqDiff, reduceCtorEq]
    rw [EC_cond_false rfl]
    simp only [NV, Nat.reduceEqDiff, reduceCtorEq]
    repeat refine zR ?_
    refine st_call _ rfl rfl rfl rfl rfl (make1_ok (k + 2) _ _ false a' A'.length ca') ?_
    rintro _ h3 n3 _ ⟨rfl, rfl, rfl, hx3⟩
    refine st_storeW [.bool (false && decide (0 < A'.length)), .slice a' A'.length ca'] rfl rfl rfl rfl rfl rfl rfl rfl (by rw [hx3 _ (by omega), hx2 _ (by omega)]; exact hr1) rfl (by show 3 * n ≤ _; omega) ?_
    simp only [NV, Nat.reduceEqDiff, reduceCtorEq]
    have hext : Ext n h (upd h3 (3 * (n + 1 + 1) + 2) (some (.row [.bool (false && decide (0 < A'.length)), .slice a' A'.length ca'] t3))) := fun b hb => by rw [upd_ne (by omega), hx3 b (by omega), hx2 b (by omega)]; exact hx1 b hb
    refine retCell rfl rfl rfl rfl rfl (upd_same _ _ _) rfl ⟨rfl, by show n ≤ n2 + 1; omega, hext, _, _, A', rfl, mk1_int ((hA'.ext hx3 (Nat.le_succ _)).off (oA _ (by omega) (hA.below.off (by omega)) (hC.below.off (by omega)))) nA' ?_ (fun h0 => ?_), bA', fun b hb => oA b (by omega)⟩
    · rw [← hg]; simp [val]
    · rw [decide_eq_false (by omega)]
  · have hl0 : 0 < C'.length := List.length_pos_iff.2 hC0
    have hpos := nC'.pos hC0
    repeat refine zR ?_
    simp only [NV, Nat.reduceEqDiff, reduceCtorEq]
    rw [EC_cond_true rfl]
    simp only [NV, Nat.reduceEqDiff, reduceCtorEq]
    repeat refine zR ?_
    refine st_call _ rfl rfl rfl rfl rfl (divMag_ok k hA' hC' nA' nC' hC0 bA') ?_
    rintro _ h3 n3 _ ⟨rfl, hn3, hx3, aq, cq, Lq, ar, cr, Lr, rfl, hsq, hsr, nq, nr, vq, vr, fq, fr⟩
    repeat refine zR ?_
    simp only [NV, Nat.reduceEqDiff, reduceCtorEq]
    repeat refine zR ?_
    simp only [NV, Nat.reduceEqDiff, reduceCtorEq]
    have hm0 := hm.pos hpos
    obtain ⟨m', rfl⟩ : ∃ m', m = m' + 1 := ⟨m - 1, by omega⟩
    have hlr : Lr.length ≤ C'.length := nC'.len_le nr (by rw [vr]; exact Nat.le_of_lt (Nat.mod_lt _ hpos))
    refine goOn ((c', cc', C'), (ar, cr, Lr), m') (by show m' < m' + 1; omega) ⟨rfl, rfl, rfl, trivial⟩ ⟨by show n + 1 + 1 + 1 ≤ n3; omega, rfl, hx2.trans hx3 hn2, hC'.ext hx3 hn3, hsr, nC', nr, bC', by show Lr.length < 1000000000; omega, ?_, ?_, oC, fun b hb _ _ => fr.off (by omega)⟩
    · show EuI m' (val C') (val Lr)
      rw [vr]
      exact hm.next hpos
    · show Nat.gcd (val C') (val Lr) = _
      rw [vr, ← hg, Nat.gcd_comm (val C'), ← Nat.gcd_rec, Nat.gcd_comm]
end Go.Proofs.YtokfihhdllmbmaaGreatDoor
namespace Go.Proofs.YtokfihhdllmbmaaGreatDoor
open Go Go.GL
theorem IntR.off {h : HF} {n b : Nat} {c1 c2 : Value} {x : Int} {l : List Nat} {y : Option BF} (r : IntR h n c1 c2 x l) (ho : Off b c2) : IntR (upd h b y) n c1 c2 x l := ⟨r.neg, r.sl.off ho, r.norm, r.val⟩
theorem IntR.len_le {h h' : HF} {n n' : Nat} {c1 c2 d1 d2 : Value} {x y : Int} {l l' : List Nat} (r : IntR h n c1 c2 x l) (r' : IntR h' n' d1 d2 y l') (hle : y.natAbs ≤ x.natAbs) : l'.length ≤ l.length := r.norm.len_le r'.norm (by rw [r.val, r'.val]; exact hle)
theorem IntR.ones {h : HF} {n : Nat} {c1 c2 : Value} {x : Int} {l : List Nat} (r : IntR h n c1 c2 x l) : ones [c1, c2] = true := by
  rw [r.neg]
  show GL.ones (c2 :: _) = true
  rw [r.sl.ones]
  rfl
def Away (n : Nat) (c0 v : Value) : Prop := (v = c0 ∧ Below n v) ∨ Fresh (n + 1 + 1 + 1) v
theorem Away.off {n b : Nat} {c0 v : Value} (h : Away n c0 v) (h1 : 3 * n ≤ b) (h2 : b < 3 * (n + 1 + 1 + 1)) : Off b v := by
  rcases h with h | h
  · exact h.2.off h1
  · exact h.off h2
theorem Away.or {n : Nat} {c0 v : Value} (h : Away n c0 v) : v = c0 ∨ Fresh n v := by
  rcases h with h | h
  · exact .inl h.1
  · exact .inr (h.mono (by omega))
structure FrS (n : Nat) (c0 d0 : Value) (h h' : HF) (n' : Nat) (c1 c2 d1 d2 : Value) (x y : Int) (A C : List Nat) : Prop where
  n3 : n + 1 + 1 + 1 ≤ n'
  ext : Ext n h h'
  b2 : ∃ e, h' (3 * n + 2) = some (.row [c1, c2] e)
  b3 : ∃ e, h' (3 * (n + 1) + 2) = some (.row [d1, d2] e)
  b4 : ∃ e, h' (3 * (n + 1 + 1) + 2) = some (.row [.bool false, .slice none 0 0, .bool false, .slice none 0 0] e)
  ix : IntR h' n' c1 c2 x A
  iy : IntR h' n' d1 d2 y C
  ox : Away n c0 c2
  oy : Away n d0 d2
theorem FrS.exts {n : Nat} {c0 d0 : Value} {h h' h'' : HF} {n' n'' : Nat} {c1 c2 d1 d2 : Value} {x y : Int} {A C : List Nat} (s : FrS n c0 d0 h h' n' c1 c2 d1 d2 x y A C) (hx : Ext n' h' h'') (hn : n' ≤ n'') : FrS n c0 d0 h h'' n'' c1 c2 d1 d2 x y A C := by
  obtain ⟨n3, ext, ⟨e2, b2⟩, ⟨e3, b3⟩, ⟨e4, b4⟩, ix, iy, ox, oy⟩ := s
  exact ⟨by omega, ext.trans hx (by omega), ⟨e2, by rw [hx _ (by omega)]; exact b2⟩, ⟨e3, by rw [hx _ (by omega)]; exact b3⟩, ⟨e4, by rw [hx _ (by omega)]; exact b4⟩, ix.ext hx hn, iy.ext hx hn, ox, oy⟩
theorem FrS.putx {n : Nat} {c0 d0 : Value} {h h' : HF} {n' : Nat} {c1 c2 d1 d2 : Value} {x y : Int} {A C : List Nat} (s : FrS n c0 d0 h h' n' c1 c2 d1 d2 x y A C) {u1 u2 : Value} {x' : Int} {A' : List Nat} (i : IntR h' n' u1 u2 x' A') (o : Away n c0 u2) (e : TypeId) : FrS n c0 d0 h (upd h' (3 * n + 2) (some (.row [u1, u2] e))) n' u1 u2 d1 d2 x' y A' C := by
  obtain ⟨n3, ext, ⟨e2, b2⟩, ⟨e3, b3⟩, ⟨e4, b4⟩, ix, iy, ox, oy⟩ := s
  exact ⟨by omega, fun b hb => by rw [upd_ne (by omega)]; exact ext b hb, ⟨e, upd_same _ _ _⟩, ⟨e3, by rw [upd_ne (by omega)]; exact b3⟩, ⟨e4, by rw [upd_ne (by omega)]; exact b4⟩, i.off (o.off (by omega) (by omega)), iy.off (oy.off (by omega) (by omega)), o, oy⟩
theorem FrS.puty {n : Nat} {c0 d0 : Value} {h h' : HF} {n' : Nat} {c1 c2 d1 d2 : Value} {x y : Int} {A C : List Nat} (s : FrS n c0 d0 h h' n' c1 c2 d1 d2 x y A C) {u1 u2 : Value} {y' : Int} {C' : List Nat} (i : IntR h' n' u1 u2 y' C') (o : Away n d0 u2) (e : TypeId) : FrS n c0 d0 h (upd h' (3 * (n + 1) + 2) (some (.row [u1, u2] e))) n' c1 c2 u1 u2 x y' A C' := by
  obtain ⟨n3, ext, ⟨e2, b2⟩, ⟨e3, b3⟩, ⟨e4, b4⟩, ix, iy, ox, oy⟩ := s
  exact ⟨by omega, fun b hb => by rw [upd_ne (by omega)]; exact ext b hb, ⟨e2, by rw [upd_ne (by omega)]; exact b2⟩, ⟨e, upd_same _ _ _⟩, ⟨e4, by rw [upd_ne (by omega)]; exact b4⟩, ix.off (ox.off (by omega) (by omega)), i.off (o.off (by omega) (by omega)), ox, o⟩
theorem fr_num {x y : Int} (hy : 0 < y) : (Rat.divInt x y).num = x / ((Nat.gcd x.natAbs y.natAbs : Nat) : Int) := by
  rw [Rat.num_divInt, Int.sign_eq_one_of_pos hy, Int.one_mul]
  unfold Int.gcd
  rw [Nat.gcd_comm]
theorem fr_den {x y : Int} (hy : 0 < y) : (Rat.divInt x y).den = y.natAbs / Nat.gcd x.natAbs y.natAbs := by
  rw [Rat.den_divInt, if_neg (by omega)]
  unfold Int.gcd
  rw [Nat.gcd_comm]
theorem gcd_tdiv {x : Int} {g : Nat} (h : g ∣ x.natAbs) : x.tdiv (g : Int) = x / (g : Int) := Int.tdiv_eq_ediv_of_dvd (Int.ofNat_dvd_left.2 h)
theorem ediv_abs {y : Int} (h : 0 < y) (g : Nat) : y / (g : Int) = ((y.natAbs / g : Nat) : Int) := by
  obtain ⟨m, rfl⟩ : ∃ m : Nat, y = m := ⟨y.natAbs, by omega⟩
  rw [Int.natAbs_natCast]
  rfl
structure DenR (h : HF) (n : Nat) (d1 d2 : Value) (q : Nat) (ld : List Nat) : Prop where
  neg : d1 = .bool false
  sl : Sl h n 1 d2 (u32s ld)
  norm : Norm ld
  val : val ld = if q = 1 then 0 else q
set_option maxHeartbeats 1000000
theorem frac_ok (k : Nat) {h : HF} {n : Nat} {c1 c2 d1 d2 : Value} {x y : Int} {A C : List Nat} (hx : IntR h n c1 c2 x A) (hy : IntR h n d1 d2 y C) (hy0 : y ≠ 0) (hb : A.length < 1000000000 ∧ C.length < 1000000000) :
    CF (cal (k + 5)) 101 [.agg #[c1, c2], .agg #[d1, d2]] h n fun v h' n' w => w = [] ∧ n ≤ n' ∧ Ext n h h' ∧ ∃ u1 u2 e1 e2 ln ld, v = .agg #[u1, u2, e1, e2] ∧ RatR h' n' u1 u2 e1 e2 (Rat.divInt x y) ln ld ∧ ln.length ≤ A.length ∧ ld.length ≤ C.length ∧ (u2 = c2 ∨ Fresh n u2) ∧ (e2 = d2 ∨ Fresh n e2) := by
  refine CF_heap (fn := Tryz.f101) rfl rfl rfl rfl ?_
  obtain ⟨q, hq⟩ : ∃ q, q = Rat.divInt x y := ⟨_, rfl⟩
  rw [← hq]
  simp only [NV, Nat.reduceEqDiff, reduceCtorEq]
  refine st_mkp (cs := [c1, c2]) rfl rfl rfl rfl rfl ?_
  refine st_mkp (cs := [d1, d2]) rfl rfl rfl rfl rfl ?_
  refine st_alloc rfl rfl rfl rfl rfl ?_
  simp only [NV, Nat.reduceEqDiff, reduceCtorEq]
  generalize hh : upd (upd (upd h (3 * n + 2) _) (3 * (n + 1) + 2) _) (3 * (n + 1 + 1) + 2) _ = h1
  have hx1 : Ext n h h1 := by rw [← hh]; intro b hb; rw [upd_ne (by omega), upd_ne (by omega), upd_ne (by omega)]
  have S1 : FrS n c2 d2 h h1 (n + 1 + 1 + 1) c1 c2 d1 d2 x y A C := ⟨Nat.le_refl _, hx1, ⟨_, by rw [← hh, upd_ne (by omega), upd_ne (by omega), upd_same]⟩, ⟨_, by rw [← hh, upd_ne (by omega), upd_same]⟩, ⟨_, by rw [← hh, upd_same]; rfl⟩, hx.ext hx1 (by omega), hy.ext hx1 (by omega), .inl ⟨rfl, hx.sl.below⟩, .inl ⟨rfl, hy.sl.below⟩⟩
  clear hh
  obtain ⟨ty2, hp2⟩ := S1.b2
  obtain ⟨ty3, hp3⟩ := S1.b3
  repeat refine zR ?_
  refine st_load1 rfl rfl rfl rfl rfl rfl hp3 rfl (v := d1) rfl ?_
  simp only [NV, Nat.reduceEqDiff, reduceCtorEq]
  refine EC_cutx (α := (Value × Value) × Int × Int) (fun _ => [(2, .pointer (some ⟨3 * n + 2, 0, none⟩)), (3, .pointer (some ⟨3 * (n + 1) + 2, 0, none⟩)), (4, .pointer (some ⟨3 * (n + 1 + 1) + 2, 0, none⟩))]) (fun z h' n' w => w = [] ∧ FrS n c2 d2 h h' n' z.1.1 c2 z.1.2 d2 z.2.1 z.2.2 A C ∧ 0 < z.2.2 ∧ Rat.divInt z.2.1 z.2.2 = q) ?_ ?_
  · by_cases hn : y < 0
    · rw [EC_cond_true (by show d1 = _; rw [hy.neg, decide_eq_true hn])]
      refine EC_draw [0, 1, 0, 7, 15, 31] rfl ?_
      refine dr_load (v := .agg #[c1, c2]) rfl rfl rfl rfl rfl rfl (loadn_eq rfl rfl hp2 rfl (Nat.le_of_ble_eq_true rfl) rfl) rfl rfl ?_
      refine dr_call _ rfl rfl rfl rfl rfl rfl rfl (neg_ok (k + 2) S1.ix) ?_
      rintro _ h2 n2 _ ⟨rfl, hn2, hx2, u1, rfl, i1⟩
      refine ⟨rfl, hn2, ?_⟩
      refine dr_load (v := .agg #[d1, d2]) rfl rfl rfl rfl rfl rfl (loadn_eq rfl rfl hp3 rfl (Nat.le_of_ble_eq_true rfl) rfl) (okEffsF_nil (by simp)) rfl ?_
      refine dr_call _ rfl rfl rfl rfl rfl rfl rfl (neg_ok (k + 2) (S1.iy.ext hx2 hn2)) ?_
      rintro _ h3 n3 _ ⟨rfl, hn3, hx3, v1, rfl, i2⟩
      refine ⟨rfl, hn3, ?_⟩
      have S3 := (S1.exts hx2 hn2).exts hx3 hn3
      have i1' := i1.ext hx3 hn3
      obtain ⟨e2, hq2⟩ := S3.b2
      refine dr_storeN (cs := [u1, c2]) rfl rfl rfl rfl rfl rfl rfl i1.ones hq2 (Nat.le_of_ble_eq_true rfl) (by show 3 * n ≤ _; omega) rfl rfl rfl ?_
      have S4 := S3.putx i1' S3.ox e2
      obtain ⟨e3, hq3⟩ := S4.b3
      refine dr_storeN (cs := [v1, d2]) rfl rfl rfl rfl rfl rfl rfl i2.ones hq3 (Nat.le_of_ble_eq_true rfl) (by show 3 * n ≤ _; omega) rfl rfl rfl ?_
      have S5 := S4.puty (i2.off (S4.oy.off (by omega) (by omega))) S4.oy e3
      simp only [NV, Nat.reduceEqDiff, reduceCtorEq]
      exact ⟨((u1, v1), -x, -y), ⟨rfl, rfl, rfl, trivial⟩, rfl, S5, by show 0 < -y; omega, by show Rat.divInt (-x) (-y) = q; rw [Rat.divInt_neg', Int.neg_neg, hq]⟩
    · rw [EC_cond_false (by show d1 = _; rw [hy.neg, decide_eq_false hn])]
      simp only [NV, Nat.reduceEqDiff, reduceCtorEq]
      exact ⟨((c1, d1), x, y), ⟨rfl, rfl, rfl, trivial⟩, rfl, S1, by show 0 < y; omega, hq.symm⟩
  clear hp2 hp3 S1 hx1 h1
  rintro ⟨⟨u1, v1⟩, x', y'⟩ t h1 n1 _ ⟨rfl, S, hy', hq'⟩
  simp only at S hy' hq'
  have hqn := fr_num (x := x') hy'
  have hqd := fr_den (x := x') hy'
  rw [hq'] at hqn hqd
  simp only [NV, Nat.reduceEqDiff, reduceCtorEq]
  obtain ⟨ty2, hp2⟩ := S.b2
  obtain ⟨ty3, hp3⟩ := S.b3
  refine st_load (v := .agg #[u1, c2]) rfl rfl rfl rfl rfl (loadn_eq rfl rfl hp2 rfl (Nat.le_of_ble_eq_true rfl) rfl) ?_
  refine st_load (v := .agg #[v1, d2]) rfl rfl rfl rfl rfl (loadn_eq rfl rfl hp3 rfl (Nat.le_of_ble_eq_true rfl) rfl) ?_
  refine st_call _ rfl rfl rfl rfl rfl (gcd_ok k S.ix S.iy hb) ?_
  rintro _ h2 n2 _ ⟨rfl, hn2, hx2, g1, g2, G, rfl, ig, bG, og⟩
  generalize hg : Nat.gcd x'.natAbs y'.natAbs = g at *
  refine st_alloc rfl rfl rfl rfl rfl ?_
  refine st_storeW [g1, g2] rfl rfl rfl rfl rfl rfl rfl ig.ones (upd_same _ _ _) rfl (by show 3 * n ≤ _; have := S.n3; omega) ?_
  rw [upd_upd]
  have S2 := S.exts hx2 hn2
  generalize hh : upd h2 (3 * n2 + 2) _ = h3
  have hx3 : Ext n2 h2 h3 := by rw [← hh]; exact Ext.upd (by omega)
  have hpg : ∃ e, h3 (3 * n2 + 2) = some (.row [g1, g2] e) := ⟨_, by rw [← hh, upd_same]⟩
  clear hh
  obtain ⟨tg, hpg⟩ := hpg
  have S3 := S2.exts hx3 (Nat.le_succ _)
  have ig3 := ig.ext hx3 (Nat.le_succ _)
  simp only [NV, Nat.reduceEqDiff, reduceCtorEq]
  refine st_load (v := .agg #[g1, g2]) rfl rfl rfl rfl rfl (loadn_eq rfl rfl hpg rfl (Nat.le_of_ble_eq_true rfl) rfl) ?_
  refine st_vf _ rfl rfl rfl rfl rfl (bits_ok (k + 3) ig3 bG) ?_
  rintro _ ⟨b, rfl, hb0, hb1⟩
  rw [Int.natAbs_natCast] at hb0 hb1
  have hgpos : 0 < g := by rw [← hg]; exact Nat.gcd_pos_of_pos_right _ (by omega)
  have hgx : g ∣ x'.natAbs := by rw [← hg]; exact Nat.gcd_dvd_left _ _
  have hgy : g ∣ y'.natAbs := by rw [← hg]; exact Nat.gcd_dvd_right _ _
  refine st_gt rfl rfl rfl rfl rfl rfl ?_
  simp only [NV, Nat.reduceEqDiff, reduceCtorEq]
  have hn3 := S3.n3
  refine EC_cutx (α := (Value × Value × Value × Value) × List Nat × List Nat) (fun _ => [(2, .pointer (some ⟨3 * n + 2, 0, none⟩)), (3, .pointer (some ⟨3 * (n + 1) + 2, 0, none⟩)), (4, .pointer (some ⟨3 * (n + 1 + 1) + 2, 0, none⟩))]) (fun z h' n' w => w = [] ∧ FrS n c2 d2 h h' n' z.1.1 z.1.2.1 z.1.2.2.1 z.1.2.2.2 q.num (q.den : Int) z.2.1 z.2.2 ∧ z.2.1.length ≤ A.length ∧ z.2.2.length ≤ C.length) ?_ ?_
  · by_cases hgt : (1 : Int) < (b : Int)
    · rw [EC_cond_true (by show Value.bool (decide ((1 : Int) < (b : Int))) = _; rw [decide_eq_true hgt])]
      simp only [NV, Nat.reduceEqDiff, reduceCtorEq]
      obtain ⟨e2, hq2⟩ := S3.b2
      refine st_load (v := .agg #[u1, c2]) rfl rfl rfl rfl rfl (loadn_eq rfl rfl hq2 rfl (Nat.le_of_ble_eq_true rfl) rfl) ?_
      refine st_load (v := .agg #[g1, g2]) rfl rfl rfl rfl rfl (loadn_eq rfl rfl hpg rfl (Nat.le_of_ble_eq_true rfl) rfl) ?_
      refine st_call _ rfl rfl rfl rfl rfl (quoRem_ok k S3.ix ig3 (by omega) hb.1) ?_
      rintro _ h4 n4 _ ⟨rfl, hn4, hx4, q1, q2, r1, r2, Lq, Lr, rfl, iq, ir, fq, fr⟩
      repeat refine zR ?_
      have S4 := S3.exts hx4 hn4
      obtain ⟨e4, hq4⟩ := S4.b2
      refine st_storeW [q1, q2] rfl rfl rfl rfl rfl rfl rfl iq.ones hq4 rfl (by show 3 * n ≤ _; omega) ?_
      have S5 := S4.putx iq (.inr (fq.mono (by omega))) e4
      simp only [NV, Nat.reduceEqDiff, reduceCtorEq]
      obtain ⟨e5, hq5⟩ := S5.b3
      have hpg5 := (upd_ne (f := h4) (i := 3 * n + 2) (v := some (.row [q1, q2] e4)) (j := 3 * n2 + 2) (by omega)).trans ((hx4 _ (by omega)).trans hpg)
      refine st_load (v := .agg #[v1, d2]) rfl rfl rfl rfl rfl (loadn_eq rfl rfl hq5 rfl (Nat.le_of_ble_eq_true rfl) rfl) ?_
      refine st_load (v := .agg #[g1, g2]) rfl rfl rfl rfl rfl (loadn_eq rfl rfl hpg5 rfl (Nat.le_of_ble_eq_true rfl) rfl) ?_
      have og2 : Off (3 * n + 2) g2 := og _ (by have := S.n3; omega) (S.ox.off (by omega) (by omega)) (S.oy.off (by omega) (by omega))
      refine st_call _ rfl rfl rfl rfl rfl (quoRem_ok k S5.iy ((ig3.ext hx4 hn4).off og2) (by omega) hb.2) ?_
      rintro _ h6 n6 _ ⟨rfl, hn6, hx6, p1, p2, s1, s2, Lp, Ls, rfl, ip, is, fp, fs⟩
      repeat refine zR ?_
      have S6 := S5.exts hx6 hn6
      obtain ⟨e6, hq6⟩ := S6.b3
      refine st_storeW [p1, p2] rfl rfl rfl rfl rfl rfl rfl ip.ones hq6 rfl (by show 3 * n ≤ _; omega) ?_
      have S7 := S6.puty ip (.inr (fp.mono (by omega))) e6
      simp only [NV, Nat.reduceEqDiff, reduceCtorEq]
      rw [gcd_tdiv hgx, ← hqn, gcd_tdiv hgy, show y' / (g : Int) = (q.den : Int) from by rw [hqd]; exact ediv_abs hy' g] at S7
      refine cutx_mk ((q1, q2, p1, p2), Lq, Lp) ⟨rfl, rfl, rfl, trivial⟩ ⟨rfl, S7, S3.ix.len_le iq ?_, S3.iy.len_le ip ?_⟩
      · rw [Int.natAbs_tdiv]; exact Nat.div_le_self _ _
      · rw [Int.natAbs_tdiv]; exact Nat.div_le_self _ _
    · rw [EC_cond_false (by show Value.bool (decide ((1 : Int) < (b : Int))) = _; rw [decide_eq_false hgt])]
      simp only [NV, Nat.reduceEqDiff, reduceCtorEq]
      have hg1 : g = 1 := by omega
      subst hg1
      rw [show ((1 : Nat) : Int) = 1 from rfl, Int.ediv_one] at hqn
      rw [Nat.div_one] at hqd
      refine cutx_mk ((u1, c2, v1, d2), A, C) ⟨rfl, rfl, rfl, trivial⟩ ⟨rfl, ?_, Nat.le_refl _, Nat.le_refl _⟩
      show FrS n c2 d2 h h3 (n2 + 1) u1 c2 v1 d2 q.num (q.den : Int) A C
      rw [hqn, hqd, show ((y'.natAbs : Nat) : Int) = y' from by omega]
      exact S3
  clear hqn hqd hgx hgy hgpos hb0 hb1 ig3 S3 hpg hx3 S2 ig hp2 hp3 S hx2 hn2 hn3 og
  rintro ⟨⟨u1, u2, v1, v2⟩, L1, L2⟩ t h5 n5 _ ⟨rfl, S, hl1, hl2⟩
  simp only at S hl1 hl2
  simp only [NV, Nat.reduceEqDiff, reduceCtorEq]
  obtain ⟨ty3, hp3⟩ := S.b3
  refine st_load (v := .agg #[v1, v2]) rfl rfl rfl rfl rfl (loadn_eq rfl rfl hp3 rfl (Nat.le_of_ble_eq_true rfl) rfl) ?_
  refine st_vf _ rfl rfl rfl rfl rfl (bits_ok (k + 3) S.iy (by omega)) ?_
  rintro _ ⟨b, rfl, hb0, hb1⟩
  rw [Int.natAbs_natCast] at hb0 hb1
  refine st_eq rfl rfl rfl rfl rfl rfl ?_
  simp only [NV, Nat.reduceEqDiff, reduceCtorEq]
  refine EC_cutx (α := (Value × Value) × List Nat) (fun _ => [(2, .pointer (some ⟨3 * n + 2, 0, none⟩)), (3, .pointer (some ⟨3 * (n + 1) + 2, 0, none⟩)), (4, .pointer (some ⟨3 * (n + 1 + 1) + 2, 0, none⟩))]) (fun z h' n' w => w = [] ∧ n + 1 + 1 + 1 ≤ n' ∧ Ext n h h' ∧ (∃ e, h' (3 * n + 2) = some (.row [u1, u2] e)) ∧ (∃ e, h' (3 * (n + 1) + 2) = some (.row [z.1.1, z.1.2] e)) ∧ (∃ e, h' (3 * (n + 1 + 1) + 2) = some (.row [.bool false, .slice none 0 0, .bool false, .slice none 0 0] e)) ∧ IntR h' n' u1 u2 q.num L1 ∧ DenR h' n' z.1.1 z.1.2 q.den z.2 ∧ Away n c2 u2 ∧ Away n d2 z.1.2 ∧ z.2.length ≤ C.length) ?_ ?_
  · by_cases hd : (b : Int) = 1
    · rw [EC_cond_true (by show Value.bool (decide ((b : Int) = 1)) = _; rw [decide_eq_true hd])]
      simp only [NV, Nat.reduceEqDiff, reduceCtorEq]
      refine st_val (v := .agg #[.bool false, .slice none 0 0]) rfl rfl rfl rfl rfl ?_
      refine st_storeW [.bool false, .slice none 0 0] rfl rfl rfl rfl rfl rfl rfl rfl hp3 rfl (by show 3 * n ≤ _; omega) ?_
      simp only [NV, Nat.reduceEqDiff, reduceCtorEq]
      have hden : q.den = 1 := hb1.1 (by omega)
      obtain ⟨n3, ext, ⟨e2, b2⟩, _, ⟨e4, b4⟩, ix, iy, ox, oy⟩ := S
      exact cutx_mk ((.bool false, .slice none 0 0), []) ⟨rfl, rfl, rfl, trivial⟩ ⟨rfl, n3, fun b hb => (upd_ne (by omega)).trans (ext b hb), ⟨e2, (upd_ne (by omega)).trans b2⟩, ⟨_, upd_same _ _ _⟩, ⟨e4, (upd_ne (by omega)).trans b4⟩, ix.off (ox.off (by omega) (by omega)), ⟨rfl, .nil (.inl rfl), Norm.nil, by rw [if_pos hden]; rfl⟩, ox, .inr trivial, Nat.zero_le _⟩
    · rw [EC_cond_false (by show Value.bool (decide ((b : Int) = 1)) = _; rw [decide_eq_false hd])]
      simp only [NV, Nat.reduceEqDiff, reduceCtorEq]
      have hden : q.den ≠ 1 := fun e => hd (by have := hb1.2 e; omega)
      obtain ⟨n3, ext, b2, b3, b4, ix, iy, ox, oy⟩ := S
      exact cutx_mk ((v1, v2), L2) ⟨rfl, rfl, rfl, trivial⟩ ⟨rfl, n3, ext, b2, b3, b4, ix, ⟨by rw [iy.neg]; simp, iy.sl, iy.norm, by rw [if_neg hden, iy.val, Int.natAbs_natCast]⟩, ox, oy, hl2⟩
  clear hp3 S hb0 hb1 hl2
  rintro ⟨⟨v1, v2⟩, L2⟩ t h6 n6 _ ⟨rfl, n3, ext, ⟨e2, b2⟩, ⟨e3, b3⟩, ⟨e4, b4⟩, ix, id, ox, oy, hl2⟩
  simp only at b2 b3 b4 ix id ox oy hl2
  simp only [NV, Nat.reduceEqDiff, reduceCtorEq]
  refine st_load (v := .agg #[u1, u2]) rfl rfl rfl rfl rfl (loadn_eq rfl rfl b2 rfl (Nat.le_of_ble_eq_true rfl) rfl) ?_
  refine st_load (v := .agg #[v1, v2]) rfl rfl rfl rfl rfl (loadn_eq rfl rfl b3 rfl (Nat.le_of_ble_eq_true rfl) rfl) ?_
  refine st_val (v := .agg #[u1, u2, v1, v2]) rfl rfl rfl rfl rfl ?_
  have hon : ones [u1, u2, v1, v2] = true := by
    rw [ix.neg]
    show GL.ones (u2 :: _) = true
    rw [ix.sl.ones, id.neg]
    show GL.ones (v2 :: _) = true
    rw [id.sl.ones]
    rfl
  refine st_storeW [u1, u2, v1, v2] rfl rfl rfl rfl rfl rfl rfl hon b4 rfl (by show 3 * n ≤ _; omega) ?_
  simp only [NV, Nat.reduceEqDiff, reduceCtorEq]
  refine retCell rfl rfl rfl rfl rfl (upd_same _ _ _) rfl ⟨rfl, by show n ≤ n6; omega, fun b hb => (upd_ne (by omega)).trans (ext b hb), _, _, _, _, L1, L2, rfl, ⟨ix.off (ox.off (by omega) (by omega)), id.neg, id.sl.off (oy.off (by omega) (by omega)), id.norm, id.val⟩, hl1, hl2, ox.or, oy.or⟩
end Go.Proofs.YtokfihhdllmbmaaGreatDoor
namespace Go.Proofs.YtokfihhdllmbmaaGreatDoor
open Go Go.GL
def AllD (s : List UInt8) : Prop := ∀ b ∈ s, 48 ≤ b.toNat ∧ b.toNat ≤ 57
def dval : List UInt8 → Nat := List.foldl (fun v b => 10 * v + (b.toNat - 48)) 0
theorem dval_fold (s : List UInt8) : ∀ v, List.foldl (fun v b => 10 * v + (b.toNat - 48)) v s = v * 10 ^ s.length + dval s := by
  induction s with
  | nil => intro v; simp [dval]
  | cons b s ih =>
    intro v
    unfold dval
    rw [List.foldl_cons, List.foldl_cons, ih, ih (10 * 0 + _), List.length_cons, Nat.pow_succ, Nat.add_mul, Nat.add_mul]
    rw [show 10 * v * 10 ^ s.length = v * (10 ^ s.length * 10) from by rw [Nat.mul_comm 10 v, Nat.mul_assoc, Nat.mul_comm 10]]
    omega
theorem dval_append (a b : List UInt8) : dval (a ++ b) = dval a * 10 ^ b.length + dval b := by
  conv => lhs; unfold dval
  rw [List.foldl_append]
  exact dval_fold b (dval a)
theorem dval_snoc (a : List UInt8) (b : UInt8) : dval (a ++ [b]) = 10 * dval a + (b.toNat - 48) := by
  rw [dval_append]
  simp [dval]
  omega
theorem dval_lt {s : List UInt8} (h : AllD s) : dval s < 10 ^ s.length := by
  induction s with
  | nil => simp [dval]
  | cons b s ih =>
    have h1 := h b (by simp)
    have h2 := ih fun x hx => h x (by simp [hx])
    rw [show b :: s = [b] ++ s from rfl, dval_append]
    simp only [List.length_append, List.length_singleton]
    rw [Nat.add_comm 1, Nat.pow_succ]
    have h3 : dval [b] ≤ 9 := by simp [dval]; omega
    have h4 : dval [b] * 10 ^ s.length ≤ 9 * 10 ^ s.length := Nat.mul_le_mul_right _ h3
    omega
theorem Norm.len_pow {L : List Nat} {i : Nat} (h : Norm L) (hv : val L < 10 ^ i) : L.length ≤ i := by
  apply Classical.byContradiction
  intro hn
  obtain ⟨j, d, rfl⟩ := snoc (l := L) (by intro e; rw [e] at hn; simp at hn)
  have hd := h.last
  rw [val_append] at hv
  have h1 : 4294967296 ^ j.length * 1 ≤ 4294967296 ^ j.length * YtokfihhdllmbmaaGreatDoor.val [d] := Nat.mul_le_mul_left _ (by simp [YtokfihhdllmbmaaGreatDoor.val]; omega)
  have h2 : 4294967296 ^ i ≤ 4294967296 ^ j.length := Nat.pow_le_pow_right (by omega) (by simp at hn; omega)
  have h3 : 10 ^ i ≤ 4294967296 ^ i := Nat.pow_le_pow_left (by omega) _
  omega
theorem AllD.take_succ {s : List UInt8} {i : Nat} {b : UInt8} (h : AllD (s.take i)) (hb : s[i]? = some b) (hd : 48 ≤ b.toNat ∧ b.toNat ≤ 57) : AllD (s.take (i + 1)) := by
  obtain ⟨hlt, rfl⟩ := List.getElem?_eq_some_iff.1 hb
  rw [List.take_succ_eq_append_getElem hlt]
  intro x hx
  rcases List.mem_append.1 hx with hx | hx
  · exact h x hx
  · rw [List.mem_singleton.1 hx]; exact hd
theorem take_snoc8 {s : List UInt8} {i : Nat} {b : UInt8} (hb : s[i]? = some b) : s.take (i + 1) = s.take i ++ [b] := by
  obtain ⟨hlt, rfl⟩ := List.getElem?_eq_some_iff.1 hb
  rw [List.take_succ_eq_append_getElem hlt]
section
variable {X : CtxF} {ops r : List Oper} {t : TF} {h : HF} {n : Nat} {w : List Nat} {Q : SV → Prop} {o : Oper} {d : Tmp}
theorem st_byte {ty : TypeId} {x i : Operand} {s : List UInt8} {j : Nat} {ji : Int} {ik : IntKind} {b : UInt8} (hw : wantsF ops t o = true) (hd : o.dst = some d) (hn : dstOk X.nt (some d) = true) (ho : o.op = .index ty x i) (hu : X.E.und ty = some .string) (hx : evF t x = .string ⟨⟨s⟩⟩) (hj : evF t i = .int ik ji) (hji : ji = (j : Int)) (hb : s[j]? = some b)
    (k : EO X ops r ⟨upd t d (.int .u8 (b.toNat : Int)), h, n, w⟩ Q) : EO X ops (o :: r) ⟨t, h, n, w⟩ Q := by
  subst hji
  refine st_val hw hd hn (by rw [ho]; rfl) ?_ k
  rw [ho]
  show indexE X.E ty (evF t x) (evF t i) = _
  rw [hx, hj]
  simp only [indexE, hu, Int.toNat_natCast, hb, if_pos (Int.natCast_nonneg j)]
end
def FdR (n : Nat) (h : HF) (s : List UInt8) (v : Value) (h' : HF) (n' : Nat) (w : List Nat) : Prop := w = [] ∧ n ≤ n' ∧ Ext n h h' ∧ ∃ c1 c2 L ok, ∃ x : Nat, v = .tuple #[.agg #[c1, c2], .bool ok] ∧ IntR h' n' c1 c2 (x : Int) L ∧ L.length ≤ s.length ∧ Fresh n c2 ∧ (AllD s ∧ s ≠ [] → ok = true ∧ x = dval s) ∧ (ok = true → AllD s ∧ s ≠ [])
theorem retCellT {fn : Func} {P : Value → HF → Nat → List Nat → Prop} {e : Ex} {t : TF} {h : HF} {n : Nat} {w : List Nat} {a a2 : Tmp} {ty e1 : TypeId} {b sz bt : Nat} {z u : Value} {cs : List Value} (he : isEnd e = true) (hr : fn.results.toList = [.cell a ty, .tmp a2]) (ha : t a = .pointer (some ⟨b, 0, none⟩)) (ha2 : t a2 = u) (hg : GL.isAgg env ty = some true) (hi : env.inf ty = some (sz, bt, z)) (hb : h b = some (.row cs e1)) (hl : cs.length = sz) (hf : flats [.agg cs.toArray, u] = false) (hp : P (.tuple #[.agg cs.toArray, u]) h n w) : RetH fn P e ⟨t, h, n, w⟩ := by
  refine retH [.agg cs.toArray, u] he ?_ hf hp
  rw [hr]
  have l1 := loadn_eq hg hi hb rfl (show 0 + sz ≤ cs.length by omega) (show (cs.drop 0).take sz = cs by rw [List.drop_zero, List.take_of_length_le (by omega)])
  simp only [resF, ha, ha2, l1]
set_option maxHeartbeats 1000000
theorem fromDigits_ok (k : Nat) (h : HF) (n : Nat) (s : List UInt8) (hs : s.length < 1000000) : CF (cal (k + 3)) 145 [.string ⟨⟨s⟩⟩] h n (FdR n h s) := by
  refine CF_heap (fn := Tryz.f145) rfl rfl rfl rfl ?_
  simp only [NV, Nat.reduceEqDiff, reduceCtorEq]
  refine st_alloc rfl rfl rfl rfl rfl ?_
  repeat refine zR ?_
  simp only [NV, Nat.reduceEqDiff, reduceCtorEq]
  repeat refine zR ?_
  simp only [NV, Nat.reduceEqDiff, reduceCtorEq]
  repeat refine zR ?_
  simp only [NV, Nat.reduceEqDiff, reduceCtorEq]
  generalize hh : upd h (3 * n + 2) _ = h1
  have hr1 : ∃ e, h1 (3 * n + 2) = some (.row [.bool false, .slice none 0 0] e) := ⟨_, by rw [← hh, upd_same]; rfl⟩
  have hx1 : Ext n h h1 := by rw [← hh]; exact Ext.upd (by omega)
  clear hh
  refine EC_for (α := Nat × Option Addr × Nat × List Nat) (fun z => [(0, .string ⟨⟨s⟩⟩), (2, .pointer (some ⟨3 * n + 2, 0, none⟩)), (4, .slice z.2.1 z.2.2.2.length z.2.2.1), (5, .int .i64 (z.1 : Int))])
    (fun z h' n' w' => w' = [] ∧ n + 1 ≤ n' ∧ Ext n h h' ∧ (∃ e, h' (3 * n + 2) = some (.row [.bool false, .slice none 0 0] e)) ∧ z.1 ≤ s.length ∧ AllD (s.take z.1) ∧ Sl h' n' 1 (.slice z.2.1 z.2.2.2.length z.2.2.1) (u32s z.2.2.2) ∧ Norm z.2.2.2 ∧ val z.2.2.2 = dval (s.take z.1) ∧ Fresh (n + 1) (.slice z.2.1 z.2.2.2.length z.2.2.1)) (fun z => s.length - z.1)
    (0, none, 0, []) ⟨rfl, rfl, rfl, rfl, trivial⟩ ⟨rfl, Nat.le_refl _, hx1, hr1, Nat.zero_le _, fun b hb => absurd hb (by simp), .nil (.inl rfl), Norm.nil, rfl, trivial⟩ (by show s.length - 0 < LL; unfold LL; omega) ?_
  rintro ⟨i, a, c, L⟩ t h2 n2 _ ⟨rfl, hn2, hx2, ⟨e2, hr2⟩, hi, hall, hsl, hnorm, hval, hfr⟩
  simp only at hi hall hsl hnorm hval hfr
  have hLl : L.length ≤ i := hnorm.len_pow (by rw [hval]; have := dval_lt hall; rw [List.length_take, Nat.min_eq_left hi] at this; exact this)
  simp only [NV, Nat.reduceEqDiff, reduceCtorEq]
  by_cases hie : i = s.length
  · have hts : s.take i = s := by rw [hie, List.take_length]
    rw [hts] at hall hval
    refine zM ?_
    refine zM ?_
    refine st_I (ik := .i64) (a := (s.length : Int)) rfl rfl rfl rfl rfl ?_
    repeat refine zR ?_
    simp only [NV, Nat.reduceEqDiff, reduceCtorEq]
    rw [EC_cond_false rfl]
    simp only [NV, Nat.reduceEqDiff, reduceCtorEq]
    repeat refine zR ?_
    refine st_call _ rfl rfl rfl rfl rfl (make1_ok (k + 1) _ _ false a L.length c) ?_
    rintro _ h3 n3 _ ⟨rfl, rfl, rfl, hx3⟩
    refine zM ?_
    refine st_B (a := !(s == [])) rfl rfl rfl rfl rfl ?_
    refine st_storeW [.bool (false && decide (0 < L.length)), .slice a L.length c] rfl rfl rfl rfl rfl rfl rfl rfl (by rw [hx3 _ (by omega)]; exact hr2) rfl (by show 3 * n ≤ _; omega) ?_
    repeat refine zR ?_
    simp only [NV, Nat.reduceEqDiff, reduceCtorEq]
    refine retCellT rfl rfl rfl rfl rfl rfl (upd_same _ _ _) rfl rfl ⟨rfl, by show n ≤ n2 + 1; omega, fun b hb => (upd_ne (by omega)).trans ((hx3 b (by omega)).trans (hx2 b hb)), _, _, L, _, dval s, rfl, mk1_int ((hsl.ext hx3 (Nat.le_succ _)).off (hfr.off (by omega))) hnorm (by rw [hval]; simp) (fun _ => by rw [decide_eq_false (by omega)]), by omega, hfr.mono (by omega), fun hd => ⟨by simpa using hd.2, rfl⟩, fun hd => ⟨hall, by simpa using hd⟩⟩
  have hilt : i < s.length := by omega
  refine zM ?_
  refine zM ?_
  refine st_I (ik := .i64) (a := (s.length : Int)) rfl rfl rfl rfl rfl ?_
  repeat refine zR ?_
  simp only [NV, Nat.reduceEqDiff, reduceCtorEq]
  rw [EC_cond_true rfl]
  simp only [NV, Nat.reduceEqDiff, reduceCtorEq]
  repeat refine zR ?_
  simp only [NV, Nat.reduceEqDiff, reduceCtorEq]
  repeat refine zR ?_
  simp only [EC_skip, EO_nil, after_normal, EC_seq]
  refine EC_cutx (α := Nat) (fun z => [(0, .string ⟨⟨s⟩⟩), (2, .pointer (some ⟨3 * n + 2, 0, none⟩)), (4, .slice a L.length c), (5, .int .i64 ((i + z : Nat) : Int)), (6, .int .u32 ((dval ((s.drop i).take z) : Nat) : Int)), (7, .int .u32 ((10 ^ z : Nat) : Int))])
    (fun z h' n' w' => h2 = h' ∧ n' = n2 ∧ w' = [] ∧ 1 ≤ z ∧ z ≤ 9 ∧ i + z ≤ s.length ∧ AllD (s.take (i + z))) ?_ ?_
  · simp only [NV, Nat.reduceEqDiff, reduceCtorEq]
    refine EC_for (α := Nat) (fun z => [(0, .string ⟨⟨s⟩⟩), (2, .pointer (some ⟨3 * n + 2, 0, none⟩)), (4, .slice a L.length c), (5, .int .i64 ((i + z : Nat) : Int)), (6, .int .u32 ((dval ((s.drop i).take z) : Nat) : Int)), (7, .int .u32 ((10 ^ z : Nat) : Int)), (8, .int .i64 (z : Int))])
      (fun z h' n' w' => h2 = h' ∧ n' = n2 ∧ w' = [] ∧ z ≤ 9 ∧ i + z ≤ s.length ∧ AllD (s.take (i + z))) (fun z => 9 - z) 0 ⟨rfl, rfl, rfl, rfl, rfl, rfl, rfl, trivial⟩ ⟨rfl, rfl, rfl, Nat.zero_le _, by show i + 0 ≤ s.length; omega, hall⟩ (by show 9 - 0 < LL; decide) ?_
    rintro z t h3 n3 _ ⟨rfl, rfl, rfl, hz9, hiz, hallz⟩
    simp only [NV, Nat.reduceEqDiff, reduceCtorEq]
    by_cases hz : z = 9
    · subst hz
      repeat refine zR ?_
      simp only [NV, Nat.reduceEqDiff, reduceCtorEq]
      rw [EC_cond_false rfl]
      simp only [NV, Nat.reduceEqDiff, reduceCtorEq]
      exact cutx_mk 9 ⟨rfl, rfl, rfl, rfl, rfl, rfl, trivial⟩ ⟨rfl, rfl, rfl, by decide, by decide, hiz, hallz⟩
    have hz8 : z ≤ 8 := by omega
    by_cases hie2 : i + z = s.length
    · refine zM ?_
      refine st_ltT rfl rfl rfl rfl rfl rfl (by omega) ?_
      refine zM ?_
      refine zM ?_
      refine zM ?_
      refine st_I (ik := .i64) (a := (s.length : Int)) rfl rfl rfl rfl rfl ?_
      repeat refine zR ?_
      simp only [NV, Nat.reduceEqDiff, reduceCtorEq]
      rw [EC_cond_false rfl]
      simp only [NV, Nat.reduceEqDiff, reduceCtorEq]
      exact cutx_mk z ⟨rfl, rfl, rfl, rfl, rfl, rfl, trivial⟩ ⟨rfl, rfl, rfl, by omega, hz9, hiz, hallz⟩
    have hizlt : i + z < s.length := by omega
    obtain ⟨b, hb⟩ : ∃ b, s[i + z]? = some b := ⟨s[i + z], List.getElem?_eq_getElem hizlt⟩
    refine zM ?_
    refine st_ltT rfl rfl rfl rfl rfl rfl (by omega) ?_
    refine zM ?_
    refine zM ?_
    refine zM ?_
    refine st_I (ik := .i64) (a := (s.length : Int)) rfl rfl rfl rfl rfl ?_
    repeat refine zR ?_
    simp only [NV, Nat.reduceEqDiff, reduceCtorEq]
    rw [EC_cond_true rfl]
    simp only [NV, Nat.reduceEqDiff, reduceCtorEq]
    refine zM ?_
    refine zM ?_
    refine st_byte (j := i + z) rfl rfl rfl rfl rfl rfl rfl rfl hb ?_
    have hmem : b ∈ s := List.mem_of_getElem? hb
    by_cases hb1 : b.toNat < 48
    · repeat refine zR ?_
      simp only [NV, Nat.reduceEqDiff, reduceCtorEq]
      rw [EC_cond_true rfl]
      simp only [NV, Nat.reduceEqDiff, reduceCtorEq]
      refine st_val (v := .agg #[.bool false, .slice none 0 0]) rfl rfl rfl rfl rfl ?_
      refine st_storeW [.bool false, .slice none 0 0] rfl rfl rfl rfl rfl rfl rfl rfl hr2 rfl (by show 3 * n ≤ _; omega) ?_
      repeat refine zR ?_
      simp only [NV, Nat.reduceEqDiff, reduceCtorEq]
      refine retCellT rfl rfl rfl rfl rfl rfl (upd_same _ _ _) rfl rfl ⟨rfl, by show n ≤ n3; omega, fun b hb => (upd_ne (by omega)).trans (hx2 b hb), _, _, [], false, 0, rfl, ⟨rfl, .nil (.inl rfl), Norm.nil, rfl⟩, Nat.zero_le _, trivial, fun hd => by have := hd.1 b hmem; omega, fun hd => by cases hd⟩
    repeat refine zR ?_
    refine st_byte (j := i + z) rfl rfl rfl rfl rfl rfl rfl rfl hb ?_
    by_cases hb2 : 57 < b.toNat
    · repeat refine zR ?_
      simp only [NV, Nat.reduceEqDiff, reduceCtorEq]
      rw [EC_cond_true rfl]
      simp only [NV, Nat.reduceEqDiff, reduceCtorEq]
      refine st_val (v := .agg #[.bool false, .slice none 0 0]) rfl rfl rfl rfl rfl ?_
      refine st_storeW [.bool false, .slice none 0 0] rfl rfl rfl rfl rfl rfl rfl rfl hr2 rfl (by show 3 * n ≤ _; omega) ?_
      repeat refine zR ?_
      simp only [NV, Nat.reduceEqDiff, reduceCtorEq]
      refine retCellT rfl rfl rfl rfl rfl rfl (upd_same _ _ _) rfl rfl ⟨rfl, by show n ≤ n3; omega, fun b hb => (upd_ne (by omega)).trans (hx2 b hb), _, _, [], false, 0, rfl, ⟨rfl, .nil (.inl rfl), Norm.nil, rfl⟩, Nat.zero_le _, trivial, fun hd => by have := hd.1 b hmem; omega, fun hd => by cases hd⟩
    repeat refine zR ?_
    simp only [NV, Nat.reduceEqDiff, reduceCtorEq]
    rw [EC_cond_false rfl]
    simp only [NV, Nat.reduceEqDiff, reduceCtorEq]
    have hsub : AllD ((s.drop i).take z) := fun x hx => hallz x (by rw [List.take_add]; exact List.mem_append.2 (.inr hx))
    have hvlt := dval_lt hsub
    have hlen : ((s.drop i).take z).length = z := by rw [List.length_take, List.length_drop]; omega
    rw [hlen] at hvlt
    have hp8 : 10 ^ z ≤ 10 ^ 8 := Nat.pow_le_pow_right (by omega) hz8
    have hnext : (s.drop i).take (z + 1) = (s.drop i).take z ++ [b] := take_snoc8 (by rw [List.getElem?_drop]; exact hb)
    have hdn : dval ((s.drop i).take (z + 1)) = dval ((s.drop i).take z) * 10 + (b.toNat - 48) := by rw [hnext, dval_snoc]; omega
    have hpn : 10 ^ (z + 1) = 10 ^ z * 10 := Nat.pow_succ _ _
    generalize hV : dval ((s.drop i).take z) = V at hvlt hdn
    generalize hF : 10 ^ z = F at hvlt hp8 hpn
    rw [show (10 : Nat) ^ 8 = 100000000 from rfl] at hp8
    refine zM ?_
    refine st_mul_u32 (a := V) (b := 10) rfl rfl rfl rfl rfl rfl (by omega) ?_
    refine zM ?_
    refine zM ?_
    refine st_byte (j := i + z) rfl rfl rfl rfl rfl rfl rfl rfl hb ?_
    refine st_sub_u8 (a := b.toNat) (b := 48) rfl rfl rfl rfl rfl rfl (by omega) ?_
    refine st_cv32 (c := b.toNat - 48) rfl rfl rfl rfl rfl rfl rfl (by omega) ?_
    refine st_add_u32 (a := V * 10) (b := b.toNat - 48) rfl rfl rfl rfl rfl rfl (by omega) ?_
    refine zM ?_
    refine st_mul_u32 (a := F) (b := 10) rfl rfl rfl rfl rfl rfl (by omega) ?_
    repeat refine zR ?_
    simp only [NV, Nat.reduceEqDiff, reduceCtorEq]
    repeat refine zR ?_
    simp only [NV, Nat.reduceEqDiff, reduceCtorEq]
    repeat refine zR ?_
    simp only [NV, Nat.reduceEqDiff, reduceCtorEq]
    refine goOn (z + 1) (by show 9 - (z + 1) < 9 - z; omega) ⟨rfl, rfl, rfl, by show Value.int .i64 _ = Value.int .i64 _; congr 1, by show Value.int .u32 _ = Value.int .u32 _; rw [hdn], by show Value.int .u32 _ = Value.int .u32 _; rw [hpn], by show Value.int .i64 _ = Value.int .i64 _; congr 1, trivial⟩ ⟨rfl, rfl, rfl, by show z + 1 ≤ 9; omega, by show i + (z + 1) ≤ s.length; omega, AllD.take_succ hallz hb (by omega)⟩
  rintro z t _ n2 _ ⟨rfl, rfl, rfl, hz1, hz9, hiz, hallz⟩
  have hsub : AllD ((s.drop i).take z) := fun x hx => hallz x (by rw [List.take_add]; exact List.mem_append.2 (.inr hx))
  have hvlt := dval_lt hsub
  have hlen : ((s.drop i).take z).length = z := by rw [List.length_take, List.length_drop]; omega
  have hfull : dval (s.take (i + z)) = dval (s.take i) * 10 ^ z + dval ((s.drop i).take z) := by rw [List.take_add, dval_append, hlen]
  rw [hlen] at hvlt
  have hp9 : 10 ^ z ≤ 10 ^ 9 := Nat.pow_le_pow_right (by omega) hz9
  generalize hV : dval ((s.drop i).take z) = V at hvlt hfull
  generalize hF : 10 ^ z = F at hvlt hp9 hfull
  rw [show (10 : Nat) ^ 9 = 1000000000 from rfl] at hp9
  simp only [NV, Nat.reduceEqDiff, reduceCtorEq]
  refine zM ?_
  refine zM ?_
  refine st_mks (cs := [.int .u32 (F : Int)]) rfl rfl rfl rfl rfl ?_
  have hmul := mulMag_ok k (h := upd h2 (3 * n2 + 2) (some (.row [.int .u32 (F : Int)] 210))) (n := n2 + 1) (A := L) (C := [F]) (hsl.ext (Ext.upd (by omega)) (Nat.le_succ n2)) (Sl.own (O := [F]) (len := 1) (cap := 1) (upd_same _ _ _) (by omega) rfl (Nat.le_refl _)) hnorm.1 (fun x hx => by simp at hx; omega) (by simp; omega)
  refine st_call _ rfl rfl rfl rfl rfl hmul ?_
  rintro v4 h4 n4 w4 ⟨L4, ⟨rfl, hn4, hx4, a4, c4, rfl, hs4, hnorm4, hf4⟩, hv4⟩
  refine zM ?_
  refine st_mks (cs := [.int .u32 (V : Int)]) rfl rfl rfl rfl rfl ?_
  have htr := trim_ok (k + 1) (l := [V]) (h := upd h4 (3 * n4 + 2) (some (.row [.int .u32 (V : Int)] 210))) (n := n4 + 1) (by simp) (Sl.own (O := [V]) (len := 1) (cap := 1) (upd_same _ _ _) (by omega) rfl (Nat.le_refl _))
  refine st_call _ rfl rfl rfl rfl rfl htr ?_
  rintro _ _ _ _ ⟨e5, e6, rfl, rfl, hs5⟩
  subst e5 e6
  have hvF : val [F] = F := by simp [val]
  rw [hvF] at hv4
  have hL4 : L4.length < 1000000000 := by
    have h1 := dval_lt hall
    rw [List.length_take, Nat.min_eq_left hi] at h1
    have h2 := hnorm4.len_pow (i := i + z) (by rw [hv4, hval, Nat.pow_add, hF]; exact Nat.mul_lt_mul_of_pos_right h1 (by rw [← hF]; exact Nat.pow_pos (by omega)))
    omega
  have hadd := addMag_ok k (h := upd h4 (3 * n4 + 2) (some (.row [.int .u32 (V : Int)] 210))) (n := n4 + 1) (A := L4) (C := trimL [V]) (hs4.ext (Ext.upd (by omega)) (Nat.le_succ n4)) hs5 hnorm4.1 (trimL_dig _ (fun x hx => by simp at hx; omega)) ⟨hL4, by have := trimL_len [V]; simp at this; omega⟩
  refine st_call _ rfl rfl rfl rfl rfl hadd ?_
  rintro v6 h6 n6 w6 ⟨L6, ⟨rfl, hn6, hx6, a6, c6, rfl, hs6, hnorm6, hf6⟩, hv6⟩
  repeat refine zR ?_
  simp only [NV, Nat.reduceEqDiff, reduceCtorEq]
  refine goOn (i + z, a6, c6, L6) (by show s.length - (i + z) < s.length - i; omega) ⟨rfl, rfl, rfl, rfl, trivial⟩ ⟨rfl, by show n + 1 ≤ n6; omega, fun b hb => ?_, ⟨e2, ?_⟩, hiz, hallz, hs6, hnorm6, ?_, hf6.mono (by omega)⟩
  · exact (hx6 b (by omega)).trans ((upd_ne (by omega)).trans ((hx4 b (by omega)).trans ((upd_ne (by omega)).trans (hx2 b hb))))
  · exact (hx6 _ (by omega)).trans ((upd_ne (by omega)).trans ((hx4 _ (by omega)).trans ((upd_ne (by omega)).trans hr2)))
  · show val L6 = dval (s.take (i + z))
    rw [hv6, hv4, hval, hfull, trimL_val]
    simp [val]
end Go.Proofs.YtokfihhdllmbmaaGreatDoor
namespace Go.Proofs.YtokfihhdllmbmaaGreatDoor
open Go Go.GL
theorem ofNat_digit {c : Nat} (h : c < 10) : (UInt8.ofNat (48 + c)).toNat = 48 + c := by
  rw [UInt8.toNat_ofNat', Nat.mod_eq_of_lt (by omega)]
theorem decB_all : ∀ V, AllD ((decB V).map UInt8.ofNat) ∧ dval ((decB V).map UInt8.ofNat) = V := by
  intro V
  induction V using Nat.strongRecOn with
  | ind V ih =>
    by_cases h0 : V = 0
    · subst h0
      unfold decB
      rw [decD_zero]
      exact ⟨fun b hb => absurd hb (by simp), rfl⟩
    · have e : decB V = decB (V / 10) ++ [48 + V % 10] := by
        unfold decB
        rw [decD_pos h0]
        simp
      obtain ⟨h1, h2⟩ := ih (V / 10) (by omega)
      have h3 := ofNat_digit (c := V % 10) (by omega)
      rw [e, List.map_append, List.map_cons, List.map_nil]
      refine ⟨fun b hb => ?_, ?_⟩
      · rcases List.mem_append.1 hb with hb | hb
        · exact h1 b hb
        · rw [List.mem_singleton.1 hb, h3]; omega
      · rw [dval_snoc, h2, h3]; omega
theorem decT_all (V : Nat) : AllD (decT V) ∧ dval (decT V) = V ∧ decT V ≠ [] := by
  unfold decT
  by_cases h0 : V = 0
  · rw [if_pos h0, h0]
    exact ⟨fun b hb => by rw [List.mem_singleton.1 hb]; decide, rfl, by simp⟩
  · rw [if_neg h0]
    refine ⟨(decB_all V).1, (decB_all V).2, fun e => ?_⟩
    have := (decB_all V).2
    rw [e] at this
    exact h0 this.symm
def Slash (t : List UInt8) (j : Nat) : Prop := j ≤ t.length ∧ (∀ i, i < j → t[i]? ≠ some 47) ∧ (j = t.length ∨ t[j]? = some 47)
theorem AllD.slash {a : List UInt8} {i : Nat} (h : AllD a) : a[i]? ≠ some 47 := fun e => by
  have := h 47 (List.mem_of_getElem? e)
  have e2 : (47 : UInt8).toNat = 47 := rfl
  omega
theorem Slash.uniq {a r : List UInt8} {j : Nat} (ha : AllD a) (hr : r = [] ∨ ∃ r', r = 47 :: r') (h : Slash (a ++ r) j) : j = a.length := by
  obtain ⟨h1, h2, h3⟩ := h
  rcases Nat.lt_trichotomy j a.length with hlt | rfl | hgt
  · exfalso
    rcases h3 with h3 | h3
    · rw [List.length_append] at h3; omega
    · rw [List.getElem?_append_left hlt] at h3
      exact ha.slash h3
  · rfl
  · exfalso
    rcases hr with rfl | ⟨r', rfl⟩
    · simp at h1; omega
    · refine h2 a.length hgt ?_
      rw [List.getElem?_append_right (Nat.le_refl _), Nat.sub_self]
      rfl
def isNum (s : List UInt8) : Prop := ∃ q : Rat, ratT q = s
def hasMinus (s : List UInt8) : Bool := s[0]? == some 45
def bodyOf (s : List UInt8) : List UInt8 := if hasMinus s then s.drop 1 else s
theorem ratT_minus (q : Rat) : hasMinus (ratT q) = decide (q.num < 0) ∧ bodyOf (ratT q) = decT q.num.natAbs ++ (if q.den = 1 then [] else 47 :: decT q.den) := by
  have hm : hasMinus (ratT q) = decide (q.num < 0) := by
    unfold hasMinus ratT
    by_cases hn : q.num < 0
    · rw [if_pos hn, decide_eq_true hn]; rfl
    · rw [if_neg hn, decide_eq_false hn, List.nil_append]
      obtain ⟨h1, _, h3⟩ := decT_all q.num.natAbs
      rw [List.getElem?_append_left (List.length_pos_iff.2 h3)]
      cases hd : (decT q.num.natAbs)[0]? with
      | none => rfl
      | some b =>
        have := h1 b (List.mem_of_getElem? hd)
        show (some b == some 45) = false
        have hne : b ≠ 45 := fun e => by subst e; have e2 : (45 : UInt8).toNat = 45 := rfl; omega
        simpa using hne
  refine ⟨hm, ?_⟩
  unfold bodyOf
  rw [hm]
  by_cases hn : q.num < 0
  · rw [if_pos (decide_eq_true hn)]
    unfold ratT
    rw [if_pos hn]
    rfl
  · rw [if_neg (by simpa using hn)]
    unfold ratT
    rw [if_neg hn]
    rfl
theorem ratT_parts {q : Rat} {s : List UInt8} {j : Nat} (hs : ratT q = s) (hj : Slash (bodyOf s) j) : hasMinus s = decide (q.num < 0) ∧ (bodyOf s).take j = decT q.num.natAbs ∧ (q.den = 1 → j = (bodyOf s).length) ∧ (q.den ≠ 1 → j < (bodyOf s).length ∧ (bodyOf s).drop (j + 1) = decT q.den) := by
  subst hs
  obtain ⟨h1, h2⟩ := ratT_minus q
  rw [h2] at hj ⊢
  have hu := hj.uniq (decT_all _).1 (by by_cases hd : q.den = 1 <;> simp [hd])
  subst hu
  refine ⟨h1, List.take_left' rfl, fun hd => by rw [if_pos hd]; simp, fun hd => ?_⟩
  rw [if_neg hd]
  refine ⟨by simp, ?_⟩
  rw [← List.drop_drop, List.drop_left' rfl]
  rfl
theorem bodyOf_len (s : List UInt8) : (bodyOf s).length ≤ s.length := by
  unfold bodyOf
  split
  · rw [List.length_drop]; omega
  · exact Nat.le_refl _
end Go.Proofs.YtokfihhdllmbmaaGreatDoor
namespace Go.Proofs.YtokfihhdllmbmaaGreatDoor
open Go Go.GL
section
variable {X : CtxF} {ops r : List Oper} {t : TF} {h : HF} {n : Nat} {w : List Nat} {Q : SV → Prop} {o : Oper} {d : Tmp}
theorem st_strLo {ty : TypeId} {x i : Operand} {s : List UInt8} {j : Nat} {ji : Int} {ik : IntKind} (hw : wantsF ops t o = true) (hd : o.dst = some d) (hn : dstOk X.nt (some d) = true) (ho : o.op = .slice ty x (some i) none none) (hu : X.E.und ty = some .string) (hx : evF t x = .string ⟨⟨s⟩⟩) (hj : evF t i = .int ik ji) (hji : ji = (j : Int)) (hl : j ≤ s.length)
    (k : EO X ops r ⟨upd t d (.string ⟨⟨s.drop j⟩⟩), h, n, w⟩ Q) : EO X ops (o :: r) ⟨t, h, n, w⟩ Q := by
  subst hji
  refine st_val hw hd hn (by rw [ho]; rfl) ?_ k
  rw [ho]
  show sliceE X.E ty (evF t x) (some (evF t i)) none = _
  rw [hx, hj]
  have h1 : (0 : Int) ≤ (j : Int) ∧ (j : Int) ≤ (s.length : Int) := by omega
  simp only [sliceE, hu, bnd, if_pos h1, Int.toNat_natCast]
  rw [List.take_of_length_le (by rw [List.length_drop]; exact Nat.le_refl _)]
theorem st_strHi {ty : TypeId} {x i : Operand} {s : List UInt8} {j : Nat} {ji : Int} {ik : IntKind} (hw : wantsF ops t o = true) (hd : o.dst = some d) (hn : dstOk X.nt (some d) = true) (ho : o.op = .slice ty x none (some i) none) (hu : X.E.und ty = some .string) (hx : evF t x = .string ⟨⟨s⟩⟩) (hj : evF t i = .int ik ji) (hji : ji = (j : Int)) (hl : j ≤ s.length)
    (k : EO X ops r ⟨upd t d (.string ⟨⟨s.take j⟩⟩), h, n, w⟩ Q) : EO X ops (o :: r) ⟨t, h, n, w⟩ Q := by
  subst hji
  refine st_val hw hd hn (by rw [ho]; rfl) ?_ k
  rw [ho]
  show sliceE X.E ty (evF t x) none (some (evF t i)) = _
  rw [hx, hj]
  have h1 : (0 : Int) ≤ (j : Int) ∧ (j : Int) ≤ (s.length : Int) := by omega
  simp only [sliceE, hu, bnd, if_pos h1, Int.toNat_natCast, List.drop_zero, Nat.sub_zero]
end
theorem RatR.off {h : HF} {n b : Nat} {n1 n2 d1 d2 : Value} {q : Rat} {ln ld : List Nat} {y : Option BF} (r : RatR h n n1 n2 d1 d2 q ln ld) (h1 : Off b n2) (h2 : Off b d2) : RatR (upd h b y) n n1 n2 d1 d2 q ln ld := ⟨r.num.off h1, r.neg, r.sl.off h2, r.norm, r.val⟩
theorem RatR.ones {h : HF} {n : Nat} {n1 n2 d1 d2 : Value} {q : Rat} {ln ld : List Nat} (r : RatR h n n1 n2 d1 d2 q ln ld) : ones [n1, n2, d1, d2] = true := by
  rw [r.num.neg]
  show GL.ones (n2 :: _) = true
  rw [r.num.sl.ones, r.neg]
  show GL.ones (d2 :: _) = true
  rw [r.sl.ones]
  rfl
theorem RatR.zero (h : HF) (n : Nat) : RatR h n (.bool false) (.slice none 0 0) (.bool false) (.slice none 0 0) 0 [] [] := ⟨⟨rfl, .nil (.inl rfl), Norm.nil, rfl⟩, rfl, .nil (.inl rfl), Norm.nil, rfl⟩
theorem rat_whole {q : Rat} (h : q.den = 1) : q = ((q.num : Int) : Rat) := by
  apply Rat.ext
  · rw [Rat.num_intCast]
  · rw [Rat.den_intCast, h]
theorem RatR.whole {h : HF} {n : Nat} {c1 c2 : Value} {x : Int} {l : List Nat} (r : IntR h n c1 c2 x l) : RatR h n c1 c2 (.bool false) (.slice none 0 0) (x : Rat) l [] := ⟨by rw [Rat.num_intCast]; exact r, rfl, .nil (.inl rfl), Norm.nil, by rw [Rat.den_intCast]; rfl⟩
def RdR (n : Nat) (h : HF) (s : List UInt8) (v : Value) (h' : HF) (n' : Nat) (w : List Nat) : Prop := w = [] ∧ n ≤ n' ∧ Ext n h h' ∧ ∃ n1 n2 d1 d2 q ln ld ok, v = .tuple #[.agg #[n1, n2, d1, d2], .bool ok] ∧ RatR h' n' n1 n2 d1 d2 q ln ld ∧ ln.length ≤ s.length ∧ ld.length ≤ s.length ∧ Fresh n n2 ∧ Fresh n d2 ∧ (ok = true → ratT q = s) ∧ (isNum s → ok = true)
set_option maxHeartbeats 1000000
theorem read_ok (k : Nat) (h : HF) (n : Nat) (s : List UInt8) (hs : s.length < 1000000) : CF (cal (k + 6)) 78 [.string ⟨⟨s⟩⟩] h n (RdR n h s) := by
  refine CF_heap (fn := Tryz.f78) rfl rfl rfl rfl ?_
  simp only [NV, Nat.reduceEqDiff, reduceCtorEq]
  refine st_alloc rfl rfl rfl rfl rfl ?_
  repeat refine zR ?_
  simp only [NV, Nat.reduceEqDiff, reduceCtorEq]
  repeat refine zR ?_
  simp only [EC_skip, EO_nil, after_normal, EC_seq]
  generalize hh : upd h (3 * n + 2) _ = h1
  have hr1 : ∃ e, h1 (3 * n + 2) = some (.row [.bool false, .slice none 0 0, .bool false, .slice none 0 0] e) := ⟨_, by rw [← hh, upd_same]; rfl⟩
  have hx1 : Ext n h h1 := by rw [← hh]; exact Ext.upd (by omega)
  clear hh
  obtain ⟨e1, hr1⟩ := hr1
  have hbl := bodyOf_len s
  refine EC_cut [(0, .string ⟨⟨s⟩⟩), (2, .pointer (some ⟨3 * n + 2, 0, none⟩)), (4, .string ⟨⟨s⟩⟩), (5, .bool (hasMinus s))] (fun h' n' w => h1 = h' ∧ n' = n + 1 ∧ w = []) ?_ ?_
  · simp only [NV, Nat.reduceEqDiff, reduceCtorEq]
    refine zM ?_
    refine st_I (ik := .i64) (a := (s.length : Int)) rfl rfl rfl rfl rfl ?_
    by_cases hs0 : s.length = 0
    · repeat refine zR ?_
      simp only [NV, Nat.reduceEqDiff, reduceCtorEq]
      exact cut_mk ⟨rfl, rfl, rfl, by rw [List.length_eq_zero_iff.1 hs0]; rfl, trivial⟩ ⟨rfl, rfl, rfl⟩
    · obtain ⟨b, hb⟩ : ∃ b, s[0]? = some b := ⟨s[0]'(by omega), List.getElem?_eq_getElem (by omega)⟩
      refine st_gtT rfl rfl rfl rfl rfl rfl (by omega) ?_
      repeat refine zR ?_
      refine st_byte (j := 0) rfl rfl rfl rfl rfl rfl rfl rfl hb ?_
      have hm : hasMinus s = decide (b.toNat = 45) := by
        unfold hasMinus
        rw [hb]
        by_cases h45 : b = 45
        · subst h45; rfl
        · rw [show decide (b.toNat = 45) = false from decide_eq_false (fun e => h45 (UInt8.toNat_inj.1 e))]
          simpa using h45
      by_cases h45 : b.toNat = 45
      · repeat refine zR ?_
        simp only [NV, Nat.reduceEqDiff, reduceCtorEq]
        exact cut_mk ⟨rfl, rfl, rfl, by rw [hm, decide_eq_true h45]; rfl, trivial⟩ ⟨rfl, rfl, rfl⟩
      · repeat refine zR ?_
        simp only [NV, Nat.reduceEqDiff, reduceCtorEq]
        exact cut_mk ⟨rfl, rfl, rfl, by rw [hm, decide_eq_false h45]; rfl, trivial⟩ ⟨rfl, rfl, rfl⟩
  rintro t _ _ _ ⟨rfl, rfl, rfl⟩
  simp only [NV, Nat.reduceEqDiff, reduceCtorEq]
  repeat refine zR ?_
  simp only [NV, Nat.reduceEqDiff, reduceCtorEq]
  refine EC_cut [(0, .string ⟨⟨s⟩⟩), (2, .pointer (some ⟨3 * n + 2, 0, none⟩)), (4, .string ⟨⟨bodyOf s⟩⟩), (5, .bool (hasMinus s))] (fun h' n' w => h1 = h' ∧ n' = n + 1 ∧ w = []) ?_ ?_
  · by_cases hm : hasMinus s = true
    · rw [EC_cond_true (by show Value.bool (hasMinus s) = _; rw [hm])]
      simp only [NV, Nat.reduceEqDiff, reduceCtorEq]
      refine zM ?_
      have hs1 : 1 ≤ s.length := by
        unfold hasMinus at hm
        cases s with
        | nil => simp at hm
        | cons => simp
      refine st_strLo (j := 1) rfl rfl rfl rfl rfl rfl rfl rfl hs1 ?_
      repeat refine zR ?_
      simp only [NV, Nat.reduceEqDiff, reduceCtorEq]
      exact cut_mk ⟨rfl, rfl, by unfold bodyOf; rw [if_pos hm]; rfl, rfl, trivial⟩ ⟨rfl, rfl, rfl⟩
    · rw [EC_cond_false (by show Value.bool (hasMinus s) = _; rw [Bool.eq_false_iff.2 hm])]
      simp only [NV, Nat.reduceEqDiff, reduceCtorEq]
      exact cut_mk ⟨rfl, rfl, by unfold bodyOf; rw [if_neg hm]; rfl, rfl, trivial⟩ ⟨rfl, rfl, rfl⟩
  rintro t _ _ _ ⟨rfl, rfl, rfl⟩
  generalize hT : bodyOf s = T at hbl
  simp only [NV, Nat.reduceEqDiff, reduceCtorEq]
  refine zM ?_
  refine st_I (ik := .i64) (a := (T.length : Int)) rfl rfl rfl rfl rfl ?_
  repeat refine zR ?_
  simp only [NV, Nat.reduceEqDiff, reduceCtorEq]
  repeat refine zR ?_
  simp only [EC_skip, EO_nil, after_normal, EC_seq]
  refine EC_cutx (α := Nat) (fun z => [(0, .string ⟨⟨s⟩⟩), (2, .pointer (some ⟨3 * n + 2, 0, none⟩)), (4, .string ⟨⟨T⟩⟩), (5, .bool (hasMinus s)), (6, .int .i64 (z : Int))]) (fun z h' n' w => h1 = h' ∧ n' = n + 1 ∧ w = [] ∧ Slash T z) ?_ ?_
  · simp only [NV, Nat.reduceEqDiff, reduceCtorEq]
    refine EC_for (α := Nat) (fun z => [(0, .string ⟨⟨s⟩⟩), (2, .pointer (some ⟨3 * n + 2, 0, none⟩)), (4, .string ⟨⟨T⟩⟩), (5, .bool (hasMinus s)), (6, .int .i64 (T.length : Int)), (7, .int .i64 (z : Int))]) (fun z h' n' w => h1 = h' ∧ n' = n + 1 ∧ w = [] ∧ z ≤ T.length ∧ ∀ i, i < z → T[i]? ≠ some 47) (fun z => T.length - z) 0 ⟨rfl, rfl, rfl, rfl, rfl, rfl, trivial⟩ ⟨rfl, rfl, rfl, Nat.zero_le _, fun i hi => absurd hi (Nat.not_lt_zero i)⟩ (by show T.length - 0 < LL; unfold LL; omega) ?_
    rintro z t _ _ _ ⟨rfl, rfl, rfl, hz, hno⟩
    simp only [NV, Nat.reduceEqDiff, reduceCtorEq]
    refine zM ?_
    refine zM ?_
    refine st_I (ik := .i64) (a := (T.length : Int)) rfl rfl rfl rfl rfl ?_
    by_cases hze : z = T.length
    · repeat refine zR ?_
      simp only [NV, Nat.reduceEqDiff, reduceCtorEq]
      rw [EC_cond_false rfl]
      simp only [NV, Nat.reduceEqDiff, reduceCtorEq]
      exact cutx_mk T.length ⟨rfl, rfl, rfl, rfl, rfl, trivial⟩ ⟨rfl, rfl, rfl, Nat.le_refl _, by rw [← hze]; exact hno, .inl rfl⟩
    obtain ⟨b, hb⟩ : ∃ b, T[z]? = some b := ⟨T[z]'(by omega), List.getElem?_eq_getElem (by omega)⟩
    repeat refine zR ?_
    simp only [NV, Nat.reduceEqDiff, reduceCtorEq]
    rw [EC_cond_true rfl]
    simp only [NV, Nat.reduceEqDiff, reduceCtorEq]
    refine zM ?_
    refine zM ?_
    refine st_byte (j := z) rfl rfl rfl rfl rfl rfl rfl rfl hb ?_
    by_cases h47 : b.toNat = 47
    · have hb47 : b = 47 := UInt8.toNat_inj.1 h47
      subst hb47
      repeat refine zR ?_
      simp only [NV, Nat.reduceEqDiff, reduceCtorEq]
      rw [EC_cond_true rfl]
      simp only [NV, Nat.reduceEqDiff, reduceCtorEq]
      repeat refine zR ?_
      simp only [NV, Nat.reduceEqDiff, reduceCtorEq]
      exact cutx_mk z ⟨rfl, rfl, rfl, rfl, rfl, trivial⟩ ⟨rfl, rfl, rfl, hz, hno, .inr hb⟩
    · repeat refine zR ?_
      simp only [NV, Nat.reduceEqDiff, reduceCtorEq]
      rw [EC_cond_false rfl]
      simp only [NV, Nat.reduceEqDiff, reduceCtorEq]
      repeat refine zR ?_
      simp only [NV, Nat.reduceEqDiff, reduceCtorEq]
      refine goOn (z + 1) (by show T.length - (z + 1) < T.length - z; omega) ⟨rfl, rfl, rfl, rfl, rfl, by show Value.int .i64 _ = Value.int .i64 _; congr 1, trivial⟩ ⟨rfl, rfl, rfl, by show z + 1 ≤ T.length; omega, fun i hi => ?_⟩
      by_cases hiz : i < z
      · exact hno i hiz
      · have : i = z := by omega
        subst this
        rw [hb]
        intro e
        injection e with e
        subst e
        exact h47 rfl
  rintro z t _ _ _ ⟨rfl, rfl, rfl, hsl⟩
  simp only [NV, Nat.reduceEqDiff, reduceCtorEq]
  have hzl : z ≤ T.length := hsl.1
  have hparts : ∀ q0, ratT q0 = s → hasMinus s = decide (q0.num < 0) ∧ T.take z = decT q0.num.natAbs ∧ (q0.den = 1 → z = T.length) ∧ (q0.den ≠ 1 → z < T.length ∧ T.drop (z + 1) = decT q0.den) := by
    intro q0 hq0
    have := ratT_parts hq0 (j := z) (by rw [hT]; exact hsl)
    rw [hT] at this
    exact this
  refine zM ?_
  refine zM ?_
  refine st_strHi (j := z) rfl rfl rfl rfl rfl rfl rfl rfl hzl ?_
  have htl : (T.take z).length ≤ s.length := by rw [List.length_take]; omega
  refine st_call _ rfl rfl rfl rfl rfl (fromDigits_ok (k + 2) _ _ (T.take z) (by omega)) ?_
  rintro _ h2 n2 _ ⟨rfl, hn2, hx2, c1, c2, L, ok, x, rfl, ix, hLl, fx, hok1, hok2⟩
  repeat refine zR ?_
  refine st_alloc rfl rfl rfl rfl rfl ?_
  refine st_storeW [c1, c2] rfl rfl rfl rfl rfl rfl rfl ix.ones (upd_same _ _ _) rfl (by show 3 * n ≤ _; omega) ?_
  rw [upd_upd]
  generalize hh : upd h2 (3 * n2 + 2) _ = h3
  have hx3 : Ext n2 h2 h3 := by rw [← hh]; exact Ext.upd (by omega)
  have hp8 : ∃ e, h3 (3 * n2 + 2) = some (.row [c1, c2] e) := ⟨_, by rw [← hh, upd_same]⟩
  clear hh
  obtain ⟨e8, hp8⟩ := hp8
  have ix3 := ix.ext hx3 (Nat.le_succ _)
  have hr3 : h3 (3 * n + 2) = _ := (hx3 _ (by omega)).trans ((hx2 _ (by omega)).trans hr1)
  have hx13 : Ext n h h3 := fun b hb => (hx3 b (by omega)).trans ((hx2 b (by omega)).trans (hx1 b hb))
  repeat refine zR ?_
  simp only [NV, Nat.reduceEqDiff, reduceCtorEq]
  cases ok with
  | false =>
    repeat refine zR ?_
    simp only [NV, Nat.reduceEqDiff, reduceCtorEq]
    rw [EC_cond_true rfl]
    simp only [NV, Nat.reduceEqDiff, reduceCtorEq]
    refine st_val (v := .agg #[.bool false, .slice none 0 0, .bool false, .slice none 0 0]) rfl rfl rfl rfl rfl ?_
    refine st_storeW [.bool false, .slice none 0 0, .bool false, .slice none 0 0] rfl rfl rfl rfl rfl rfl rfl rfl hr3 rfl (by show 3 * n ≤ _; omega) ?_
    repeat refine zR ?_
    simp only [NV, Nat.reduceEqDiff, reduceCtorEq]
    refine retCellT rfl rfl rfl rfl rfl rfl (upd_same _ _ _) rfl rfl ⟨rfl, by show n ≤ n2 + 1; omega, fun b hb => (upd_ne (by omega)).trans (hx13 b hb), _, _, _, _, 0, [], [], false, rfl, RatR.zero _ _, Nat.zero_le _, Nat.zero_le _, trivial, trivial, fun h => absurd h (by simp), ?_⟩
    rintro ⟨q0, hq0⟩
    obtain ⟨_, p2, _, _⟩ := hparts q0 hq0
    have hd := decT_all q0.num.natAbs
    rw [← p2] at hd
    exact absurd (hok1 ⟨hd.1, hd.2.2⟩).1 (by simp)
  | true =>
  repeat refine zR ?_
  simp only [NV, Nat.reduceEqDiff, reduceCtorEq]
  rw [EC_cond_false rfl]
  simp only [NV, Nat.reduceEqDiff, reduceCtorEq]
  have hall := hok2 rfl
  have hxv := (hok1 hall).2
  obtain ⟨a, len, cap, rfl, _⟩ := ix3.sl.len
  have e1 := ix3.sl.lenU
  subst e1
  repeat refine zR ?_
  refine st_load1 rfl rfl rfl rfl rfl rfl hp8 rfl (v := .slice a L.length cap) rfl ?_
  refine st_call _ rfl rfl rfl rfl rfl (make1_ok (k + 4) _ _ (hasMinus s) a L.length cap) ?_
  rintro _ h4 n4 _ ⟨rfl, rfl, rfl, hx4⟩
  refine st_val (v := .agg #[.bool (hasMinus s && decide (0 < L.length)), .slice a L.length cap, .bool false, .slice none 0 0]) rfl rfl rfl rfl rfl ?_
  refine st_alloc rfl rfl rfl rfl rfl ?_
  refine st_storeW [.bool (hasMinus s && decide (0 < L.length)), .slice a L.length cap, .bool false, .slice none 0 0] rfl rfl rfl rfl rfl rfl rfl rfl (upd_same _ _ _) rfl (by show 3 * n ≤ _; omega) ?_
  rw [upd_upd]
  generalize hh : upd h4 (3 * (n2 + 1 + 1) + 2) _ = h5
  have hx5 : Ext (n2 + 1 + 1) h4 h5 := by rw [← hh]; exact Ext.upd (by omega)
  have hp10 : ∃ e, h5 (3 * (n2 + 1 + 1) + 2) = some (.row [.bool (hasMinus s && decide (0 < L.length)), .slice a L.length cap, .bool false, .slice none 0 0] e) := ⟨_, by rw [← hh, upd_same]⟩
  clear hh
  have hr5 : h5 (3 * n + 2) = _ := (hx5 _ (by omega)).trans ((hx4 _ (by omega)).trans hr3)
  have hx15 : Ext n h h5 := fun b hb => (hx5 b (by omega)).trans ((hx4 b (by omega)).trans (hx13 b hb))
  obtain ⟨x', hx'⟩ : ∃ x' : Int, x' = if hasMinus s then -(x : Int) else x := ⟨_, rfl⟩
  have iN : IntR h5 (n2 + 1 + 1 + 1) (.bool (hasMinus s && decide (0 < L.length))) (.slice a L.length cap) x' L := by
    refine mk1_int ((ix3.sl.ext hx4 (Nat.le_succ _)).ext hx5 (Nat.le_succ _)) ix3.norm ?_ fun h0 => ?_
    · rw [ix3.val, hx']; split <;> omega
    · rw [hx'] at h0 ⊢
      by_cases hm : hasMinus s = true
      · rw [if_pos hm] at h0 ⊢
        rw [hm, decide_eq_true (by omega)]
      · rw [if_neg hm, Bool.eq_false_iff.2 hm, decide_eq_false (by omega)]
  have hnum : ∀ q0, ratT q0 = s → x' = q0.num := by
    intro q0 hq0
    obtain ⟨p1, p2, _, _⟩ := hparts q0 hq0
    rw [hx', hxv, p2, (decT_all _).2.1, p1]
    by_cases hn : q0.num < 0
    · rw [if_pos (decide_eq_true hn)]; omega
    · rw [if_neg (by simpa using hn)]; omega
  clear hx'
  simp only [NV, Nat.reduceEqDiff, reduceCtorEq]
  refine zM ?_
  refine zM ?_
  refine st_I (ik := .i64) (a := (T.length : Int)) rfl rfl rfl rfl rfl ?_
  refine st_lt rfl rfl rfl rfl rfl rfl ?_
  simp only [NV, Nat.reduceEqDiff, reduceCtorEq]
  refine EC_cutx (α := (Value × Value × Value × Value) × Rat × List Nat × List Nat) (fun _ => [(0, .string ⟨⟨s⟩⟩), (2, .pointer (some ⟨3 * n + 2, 0, none⟩)), (10, .pointer (some ⟨3 * (n2 + 1 + 1) + 2, 0, none⟩))])
    (fun z h' n' w => w = [] ∧ n2 + 1 + 1 + 1 ≤ n' ∧ Ext n h h' ∧ h' (3 * n + 2) = some (.row [.bool false, .slice none 0 0, .bool false, .slice none 0 0] e1) ∧ (∃ e, h' (3 * (n2 + 1 + 1) + 2) = some (.row [z.1.1, z.1.2.1, z.1.2.2.1, z.1.2.2.2] e)) ∧ RatR h' n' z.1.1 z.1.2.1 z.1.2.2.1 z.1.2.2.2 z.2.1 z.2.2.1 z.2.2.2 ∧ z.2.2.1.length ≤ s.length ∧ z.2.2.2.length ≤ s.length ∧ Fresh (n + 1) z.1.2.1 ∧ Fresh (n + 1) z.1.2.2.2 ∧ ∀ q0, ratT q0 = s → z.2.1 = q0) ?_ ?_
  · by_cases hzT : (z : Int) < (T.length : Int)
    · rw [EC_cond_true (by show Value.bool (decide ((z : Int) < (T.length : Int))) = _; rw [decide_eq_true hzT])]
      simp only [NV, Nat.reduceEqDiff, reduceCtorEq]
      repeat refine zR ?_
      refine st_strLo (j := z + 1) rfl rfl rfl rfl rfl rfl rfl rfl (by omega) ?_
      have hdl : (T.drop (z + 1)).length ≤ s.length := by rw [List.length_drop]; omega
      refine st_call _ rfl rfl rfl rfl rfl (fromDigits_ok (k + 2) _ _ (T.drop (z + 1)) (by omega)) ?_
      rintro _ h6 n6 _ ⟨rfl, hn6, hx6, d1, d2, D, okd, y, rfl, iy, hDl, fy, hokd1, hokd2⟩
      repeat refine zR ?_
      refine st_alloc rfl rfl rfl rfl rfl ?_
      refine st_storeW [d1, d2] rfl rfl rfl rfl rfl rfl rfl iy.ones (upd_same _ _ _) rfl (by show 3 * n ≤ _; omega) ?_
      rw [upd_upd]
      generalize hh : upd h6 (3 * n6 + 2) _ = h7
      have hx7 : Ext n6 h6 h7 := by rw [← hh]; exact Ext.upd (by omega)
      have hp11 : ∃ e, h7 (3 * n6 + 2) = some (.row [d1, d2] e) := ⟨_, by rw [← hh, upd_same]⟩
      clear hh
      obtain ⟨e11, hp11⟩ := hp11
      have hr7 : h7 (3 * n + 2) = _ := (hx7 _ (by omega)).trans ((hx6 _ (by omega)).trans hr5)
      have hx17 : Ext n h h7 := fun b hb => (hx7 b (by omega)).trans ((hx6 b (by omega)).trans (hx15 b hb))
      have iy7 := iy.ext hx7 (Nat.le_succ _)
      have hden : ∀ q0, ratT q0 = s → okd = true ∧ y = q0.den := by
        intro q0 hq0
        obtain ⟨p1, p2, p3, p4⟩ := hparts q0 hq0
        have hd1 : q0.den ≠ 1 := fun e => by have := p3 e; omega
        have hd := decT_all q0.den
        rw [← (p4 hd1).2] at hd
        have := hokd1 ⟨hd.1, hd.2.2⟩
        rw [hd.2.1] at this
        exact this
      repeat refine zR ?_
      simp only [NV, Nat.reduceEqDiff, reduceCtorEq]
      by_cases hfine : okd = true ∧ y ≠ 0
      · obtain ⟨rfl, hy0⟩ := hfine
        repeat refine zR ?_
        refine st_load (v := .agg #[d1, d2]) rfl rfl rfl rfl rfl (loadn_eq rfl rfl hp11 rfl (Nat.le_of_ble_eq_true rfl) rfl) ?_
        refine st_vf _ rfl rfl rfl rfl rfl (sign_ok (k + 4) iy7) ?_
        rintro _ rfl
        rw [Int.sign_eq_one_of_pos (by omega)]
        repeat refine zR ?_
        simp only [NV, Nat.reduceEqDiff, reduceCtorEq]
        rw [EC_cond_false rfl]
        simp only [NV, Nat.reduceEqDiff, reduceCtorEq]
        obtain ⟨e10, hp10⟩ := hp10
        have hp10' : h7 (3 * (n2 + 1 + 1) + 2) = _ := (hx7 _ (by omega)).trans ((hx6 _ (by omega)).trans hp10)
        repeat refine zR ?_
        refine st_load (v := .agg #[.bool (hasMinus s && decide (0 < L.length)), .slice a L.length cap]) rfl rfl rfl rfl rfl (loadn_eq rfl rfl hp10' rfl (Nat.le_of_ble_eq_true rfl) rfl) ?_
        refine st_load (v := .agg #[d1, d2]) rfl rfl rfl rfl rfl (loadn_eq rfl rfl hp11 rfl (Nat.le_of_ble_eq_true rfl) rfl) ?_
        have iN7 := (iN.ext hx6 hn6).ext hx7 (Nat.le_succ _)
        refine st_call _ rfl rfl rfl rfl rfl (frac_ok k iN7 iy7 (by omega) (by omega)) ?_
        rintro _ h8 n8 _ ⟨rfl, hn8, hx8, u1, u2, v1, v2, ln, ld, rfl, rq, hl1, hl2, o1, o2⟩
        have hp10'' : h8 (3 * (n2 + 1 + 1) + 2) = _ := (hx8 _ (by omega)).trans hp10'
        refine st_storeW [u1, u2, v1, v2] rfl rfl rfl rfl rfl rfl rfl rq.ones hp10'' rfl (by show 3 * n ≤ _; omega) ?_
        simp only [NV, Nat.reduceEqDiff, reduceCtorEq]
        have f1 : Fresh (n + 1) u2 := by
          rcases o1 with rfl | o1
          · exact fx
          · exact o1.mono (by omega)
        have f2 : Fresh (n + 1) v2 := by
          rcases o2 with rfl | o2
          · exact fy.mono (by omega)
          · exact o2.mono (by omega)
        have g1 : Off (3 * (n2 + 1 + 1) + 2) u2 := by
          rcases o1 with rfl | o1
          · exact ix.sl.below.off (by omega)
          · exact o1.off (by omega)
        have g2 : Off (3 * (n2 + 1 + 1) + 2) v2 := by
          rcases o2 with rfl | o2
          · exact fy.off (by omega)
          · exact o2.off (by omega)
        refine cutx_mk ((u1, u2, v1, v2), Rat.divInt x' (y : Int), ln, ld) ⟨rfl, rfl, rfl, trivial⟩ ⟨rfl, by show n2 + 1 + 1 + 1 ≤ n8; omega, fun b hb => (upd_ne (by omega)).trans ((hx8 b (by omega)).trans (hx17 b hb)), (upd_ne (by omega)).trans ((hx8 _ (by omega)).trans hr7), ⟨_, upd_same _ _ _⟩, rq.off g1 g2, by show ln.length ≤ s.length; omega, by show ld.length ≤ s.length; omega, f1, f2, fun q0 hq0 => ?_⟩
        show Rat.divInt x' (y : Int) = q0
        rw [hnum q0 hq0, (hden q0 hq0).2]
        exact Rat.num_divInt_den q0
      · have hbad : ¬ isNum s := fun ⟨q0, hq0⟩ => hfine ⟨(hden q0 hq0).1, by rw [(hden q0 hq0).2]; exact q0.den_nz⟩
        cases okd with
        | false =>
          repeat refine zR ?_
          simp only [NV, Nat.reduceEqDiff, reduceCtorEq]
          rw [EC_cond_true rfl]
          simp only [NV, Nat.reduceEqDiff, reduceCtorEq]
          refine st_val (v := .agg #[.bool false, .slice none 0 0, .bool false, .slice none 0 0]) rfl rfl rfl rfl rfl ?_
          refine st_storeW [.bool false, .slice none 0 0, .bool false, .slice none 0 0] rfl rfl rfl rfl rfl rfl rfl rfl hr7 rfl (by show 3 * n ≤ _; omega) ?_
          repeat refine zR ?_
          simp only [NV, Nat.reduceEqDiff, reduceCtorEq]
          exact retCellT rfl rfl rfl rfl rfl rfl (upd_same _ _ _) rfl rfl ⟨rfl, by show n ≤ n6 + 1; omega, fun b hb => (upd_ne (by omega)).trans (hx17 b hb), _, _, _, _, 0, [], [], false, rfl, RatR.zero _ _, Nat.zero_le _, Nat.zero_le _, trivial, trivial, fun h => absurd h (by simp), fun hs => absurd hs hbad⟩
        | true =>
          have hy0 : y = 0 := Classical.byContradiction fun e => hfine ⟨rfl, e⟩
          subst hy0
          repeat refine zR ?_
          refine st_load (v := .agg #[d1, d2]) rfl rfl rfl rfl rfl (loadn_eq rfl rfl hp11 rfl (Nat.le_of_ble_eq_true rfl) rfl) ?_
          refine st_vf _ rfl rfl rfl rfl rfl (sign_ok (k + 4) iy7) ?_
          rintro _ rfl
          repeat refine zR ?_
          simp only [NV, Nat.reduceEqDiff, reduceCtorEq]
          rw [EC_cond_true rfl]
          simp only [NV, Nat.reduceEqDiff, reduceCtorEq]
          refine st_val (v := .agg #[.bool false, .slice none 0 0, .bool false, .slice none 0 0]) rfl rfl rfl rfl rfl ?_
          refine st_storeW [.bool false, .slice none 0 0, .bool false, .slice none 0 0] rfl rfl rfl rfl rfl rfl rfl rfl hr7 rfl (by show 3 * n ≤ _; omega) ?_
          repeat refine zR ?_
          simp only [NV, Nat.reduceEqDiff, reduceCtorEq]
          exact retCellT rfl rfl rfl rfl rfl rfl (upd_same _ _ _) rfl rfl ⟨rfl, by show n ≤ n6 + 1; omega, fun b hb => (upd_ne (by omega)).trans (hx17 b hb), _, _, _, _, 0, [], [], false, rfl, RatR.zero _ _, Nat.zero_le _, Nat.zero_le _, trivial, trivial, fun h => absurd h (by simp), fun hs => absurd hs hbad⟩
    · rw [EC_cond_false (by show Value.bool (decide ((z : Int) < (T.length : Int))) = _; rw [decide_eq_false hzT])]
      simp only [NV, Nat.reduceEqDiff, reduceCtorEq]
      refine cutx_mk ((.bool (hasMinus s && decide (0 < L.length)), .slice a L.length cap, .bool false, .slice none 0 0), (x' : Rat), L, []) ⟨rfl, rfl, rfl, trivial⟩ ⟨rfl, Nat.le_refl _, hx15, hr5, hp10, RatR.whole iN, by show L.length ≤ s.length; omega, Nat.zero_le _, fx, trivial, fun q0 hq0 => ?_⟩
      obtain ⟨p1, p2, p3, p4⟩ := hparts q0 hq0
      have hd : q0.den = 1 := Classical.byContradiction fun e => by have := (p4 e).1; omega
      show (x' : Rat) = q0
      rw [hnum q0 hq0]
      exact (rat_whole hd).symm
  clear hx15 hr5 hp10 iN hx5 hx4 hr3 hx13 hp8
  rintro ⟨⟨u1, u2, v1, v2⟩, q, ln, ld⟩ t h9 n9 _ ⟨rfl, hn9, hx9, hr9, ⟨e10, hp9⟩, rq, hl1, hl2, f1, f2, hq0⟩
  simp only at hp9 rq hl1 hl2 f1 f2 hq0
  simp only [NV, Nat.reduceEqDiff, reduceCtorEq]
  refine EC_draw [0, 0, 2, 0, 14, 7, 63] rfl ?_
  refine dr_load (v := .agg #[u1, u2, v1, v2]) rfl rfl rfl rfl rfl rfl (loadn_eq rfl rfl hp9 rfl (Nat.le_of_ble_eq_true rfl) rfl) rfl rfl ?_
  refine dr_load (v := .agg #[u1, u2, v1, v2]) rfl rfl rfl rfl rfl rfl (loadn_eq rfl rfl hp9 rfl (Nat.le_of_ble_eq_true rfl) rfl) rfl rfl ?_
  refine dr_vf _ rfl rfl rfl rfl rfl rfl rfl (text_ok (k + 1) rq (by omega)) ?_
  rintro _ rfl
  refine zE ?_
  refine dr_B (a := ratT q == s) rfl rfl rfl rfl rfl ?_
  refine dr_storeN (cs := [u1, u2, v1, v2]) rfl rfl rfl rfl rfl rfl rfl rq.ones hr9 (Nat.le_of_ble_eq_true rfl) (by show 3 * n ≤ _; omega) rfl rfl rfl ?_
  repeat refine zE ?_
  simp only [NV, Nat.reduceEqDiff, reduceCtorEq]
  exact retCellT rfl rfl rfl rfl rfl rfl (upd_same _ _ _) rfl rfl ⟨rfl, by show n ≤ n9; omega, fun b hb => (upd_ne (by omega)).trans (hx9 b hb), _, _, _, _, q, ln, ld, _, rfl, rq.off (f1.off (by omega)) (f2.off (by omega)), hl1, hl2, f1.mono (by omega), f2.mono (by omega), fun he => eq_of_beq he, fun ⟨q0, hq⟩ => by rw [hq0 q0 hq, hq]; exact beq_self_eq_true s⟩
end Go.Proofs.YtokfihhdllmbmaaGreatDoor
namespace Go.Proofs.YtokfihhdllmbmaaGreatDoor
open Go Go.GL
def i64s (l : List Int) : List Value := l.map (Value.int .i64)
structure TapeI where
  m : Nat
  bt : Nat
  a : Option Addr
  len : Nat
  cap : Nat
  L : List Int
structure Tp (h : HF) (T : TapeI) : Prop where
  bt : T.bt < 3 * T.m
  len : T.L.length = T.len
  le : T.len ≤ 400
  ne : ∀ x, T.a = some x → x.block ≠ T.bt
  sl : Sl h T.m 1 (.slice T.a T.len T.cap) (i64s T.L)
  row : ∃ (pos : Nat) (e : TypeId), h T.bt = some (.row [.slice T.a T.len T.cap, .int .i64 (pos : Int)] e) ∧ pos ≤ T.len
def ExtT (n bt : Nat) (h h' : HF) : Prop := ∀ b, b < 3 * n → b ≠ bt → h' b = h b
theorem ExtT.refl (n bt : Nat) (h : HF) : ExtT n bt h h := fun _ _ _ => rfl
theorem ExtT.trans {n n' bt : Nat} {a b c : HF} (h : ExtT n bt a b) (h' : ExtT n' bt b c) (hn : n ≤ n') : ExtT n bt a c := fun k hk hb => (h' k (by omega) hb).trans (h k hk hb)
theorem Ext.t {n bt : Nat} {h h' : HF} (e : Ext n h h') : ExtT n bt h h' := fun k hk _ => e k hk
theorem ExtT.mono {n n' bt : Nat} {h h' : HF} (e : ExtT n' bt h h') (hn : n ≤ n') : ExtT n bt h h' := fun k hk hb => e k (by omega) hb
theorem Tp.ext {h h' : HF} {T : TapeI} {n : Nat} (t : Tp h T) (e : Ext n h h') (hn : T.m ≤ n) : Tp h' T := by
  obtain ⟨pos, ty, h1, h2⟩ := t.row
  exact ⟨t.bt, t.len, t.le, t.ne, t.sl.ext (e.mono hn) (Nat.le_refl _), pos, ty, by rw [e _ (by have := t.bt; omega)]; exact h1, h2⟩
theorem Tp.upd {h : HF} {T : TapeI} {b : Nat} {x : Option BF} (t : Tp h T) (hb : 3 * T.m ≤ b) : Tp (GL.upd h b x) T := t.ext (n := T.m) (Ext.upd hb) (Nat.le_refl _)
set_option maxHeartbeats 1000000
theorem RatR.old {h : HF} {n m b : Nat} {n1 n2 d1 d2 : Value} {q : Rat} {ln ld : List Nat} {y : Option BF} (r : RatR h n n1 n2 d1 d2 q ln ld) (hf : Fresh m n2) (hf2 : Fresh m d2) (hb : b < 3 * m) : RatR (upd h b y) n n1 n2 d1 d2 q ln ld := ⟨r.num.old hf hb, r.neg, r.sl.old hf2 hb, r.norm, r.val⟩
end Go.Proofs.YtokfihhdllmbmaaGreatDoor
