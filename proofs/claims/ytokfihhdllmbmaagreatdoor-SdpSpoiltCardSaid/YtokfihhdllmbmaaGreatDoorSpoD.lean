import Derived.Test.YtokfihhdllmbmaaGreatDoorSpoC
set_option linter.unusedVariables false
set_option linter.unusedSimpArgs false
namespace Go.Proofs.YtokfihhdllmbmaaGreatDoor
open Go Go.GL
theorem gro_mk2 (n : Nat) : gro (3 * n + 2) = false := by
  unfold gro
  rw [show (3 * n + 2) % 3 = 2 from by omega]
  rfl
theorem append_new {E : Env} {h : HF} {n : Nat} {sT e : TypeId} {size bytes m b : Nat} {z x : Value} {new : List Value} (hu : E.und sT = some (.slice e)) (hi : E.inf e = some (size, bytes, z)) (hz : (vcells z).length = size) (h1 : 1 ≤ size ∧ 1 ≤ bytes) (hx : argS h size x m new) (hb : m * bytes ≤ 1099511627776) (hg : gro b = false) (hl : new.length = m * size) :
    ∃ v' h' n', appendF E h n sT (.slice (some ⟨b, 0, none⟩) 0 0) x = some (.val v' h' n' []) ∧ n ≤ n' ∧ Ext n h h' ∧ (b < 3 * n → Sl h' n' size v' new) ∧ (∀ lo, lo ≤ n → 3 * lo ≤ b → Fresh lo v') ∧ ∃ a, v' = .slice a m m := by
  obtain ⟨hl', hc⟩ := hx
  have c1 : Nat.ble (m * bytes) 1099511627776 = true := Nat.ble_eq_true_of_le hb
  have c2 : Nat.beq (vcells z).length size = true := by rw [hz]; exact Nat.beq_refl _
  have c3 : Nat.ble 1 size = true := Nat.ble_eq_true_of_le h1.1
  have c4 : Nat.ble 1 bytes = true := Nat.ble_eq_true_of_le h1.2
  by_cases hm : m = 0
  · subst hm
    have hn0 : new = [] := List.length_eq_zero_iff.1 (by rw [hl]; simp)
    subst hn0
    refine ⟨.slice (some ⟨b, 0, none⟩) 0 0, h, n, ?_, Nat.le_refl _, Ext.refl _ _, fun hb => .nil (.inr ⟨_, _, rfl, hb⟩), fun lo _ hlo => hlo, _, rfl⟩
    simp only [appendF, hu, hi, hl', hc, Nat.zero_add, c1, c2, c3, c4, Bool.and_self, show Nat.ble 0 0 = true from rfl, inPlaceF]
  · have c5 : Nat.ble m 0 = false := by
      cases hb : Nat.ble m 0 with
      | false => rfl
      | true => have := Nat.le_of_ble_eq_true hb; omega
    have c6 : argCellsF h size 0 (.slice (some ⟨b, 0, none⟩) 0 0) = some [] := by simp [argCellsF]
    refine ⟨.slice (some ⟨3 * n + 1, 0, none⟩) m m, _, n + 1, ?_, Nat.le_succ _, Ext.upd (b := 3 * n + 1) (x := some (.row new e)) (by omega), fun _ => .at_ (by omega) (upd_same _ _ _) rfl (Nat.le_refl _) (by omega) (by rw [List.drop_zero, List.take_of_length_le (by omega)]), fun lo hlo _ => by show 3 * lo ≤ 3 * n + 1; omega, _, rfl⟩
    simp only [appendF, hu, hi, hl', hc, Nat.zero_add, c1, c2, c3, c4, c5, c6, Bool.and_self, growF, hg, List.nil_append]
set_option maxHeartbeats 1000000
set_option maxRecDepth 100000
theorem divMag_ok (k : Nat) {h : HF} {n : Nat} {a1 a2 : Option Addr} {l1 c1 l2 c2 : Nat} {A C : List Nat} (hA : Sl h n 1 (.slice a1 l1 c1) (u32s A)) (hC : Sl h n 1 (.slice a2 l2 c2) (u32s C)) (nA : Norm A) (nC : Norm C) (hC0 : C ≠ []) (hb : A.length < 1000000000) :
    CF (cal (k + 3)) 195 [.slice a1 l1 c1, .slice a2 l2 c2] h n (DivR n h A C) := by
  refine CF_heap (fn := Tryz.f195) rfl rfl rfl rfl ?_
  have e1 := hA.lenU
  have e2 := hC.lenU
  subst e1 e2
  have hCpos := nC.pos hC0
  simp only [NV, reduceIte, Nat.reduceEqDiff, reduceCtorEq, Nat.one_ne_zero, Nat.zero_ne_one]
  repeat (first | refine st_ltT rfl rfl rfl rfl rfl rfl (by omega) ?_ | refine st_ltF rfl rfl rfl rfl rfl rfl (by omega) ?_ | refine st_eqT rfl rfl rfl rfl rfl rfl (by omega) ?_ | refine st_eqF rfl rfl rfl rfl rfl rfl (by omega) ?_ | refine st_I rfl rfl rfl rfl rfl ?_ | refine st_S rfl rfl rfl rfl rfl ?_ | refine st_U rfl rfl rfl rfl rfl ?_)
  simp only [NV, reduceIte, Nat.reduceEqDiff, reduceCtorEq, Nat.one_ne_zero, Nat.zero_ne_one]
  repeat (first | refine st_ltT rfl rfl rfl rfl rfl rfl (by omega) ?_ | refine st_ltF rfl rfl rfl rfl rfl rfl (by omega) ?_ | refine st_eqT rfl rfl rfl rfl rfl rfl (by omega) ?_ | refine st_eqF rfl rfl rfl rfl rfl rfl (by omega) ?_ | refine st_I rfl rfl rfl rfl rfl ?_ | refine st_S rfl rfl rfl rfl rfl ?_ | refine st_U rfl rfl rfl rfl rfl ?_)
  refine st_vf _ rfl rfl rfl rfl rfl (cmpMag_ok (k + 1) hA hC nA nC (by omega)) ?_
  rintro _ rfl
  by_cases hlt : val A < val C
  · rw [cmpZ_lt hlt]
    repeat (first | refine st_ltT rfl rfl rfl rfl rfl rfl (by omega) ?_ | refine st_ltF rfl rfl rfl rfl rfl rfl (by omega) ?_ | refine st_eqT rfl rfl rfl rfl rfl rfl (by omega) ?_ | refine st_eqF rfl rfl rfl rfl rfl rfl (by omega) ?_ | refine st_I rfl rfl rfl rfl rfl ?_ | refine st_S rfl rfl rfl rfl rfl ?_ | refine st_U rfl rfl rfl rfl rfl ?_)
    simp only [NV, reduceIte, Nat.reduceEqDiff, reduceCtorEq, Nat.one_ne_zero, Nat.zero_ne_one]
    rw [EC_cond_true rfl]
    simp only [NV, reduceIte, Nat.reduceEqDiff, reduceCtorEq, Nat.one_ne_zero, Nat.zero_ne_one]
    refine st_mks (cs := []) rfl rfl rfl rfl rfl ?_
    repeat (first | refine st_ltT rfl rfl rfl rfl rfl rfl (by omega) ?_ | refine st_ltF rfl rfl rfl rfl rfl rfl (by omega) ?_ | refine st_eqT rfl rfl rfl rfl rfl rfl (by omega) ?_ | refine st_eqF rfl rfl rfl rfl rfl rfl (by omega) ?_ | refine st_I rfl rfl rfl rfl rfl ?_ | refine st_S rfl rfl rfl rfl rfl ?_ | refine st_U rfl rfl rfl rfl rfl ?_)
    obtain ⟨v', h', n', g1, g2, g3, g4, g5, a', rfl⟩ := append_new (E := env) (h := upd h (3 * n + 2) (some (.row [] 210))) (n := n + 1) (sT := 54) (b := 3 * n + 2) rfl rfl rfl (by decide) (argS_sl (hA.ext (Ext.upd (by omega)) (Nat.le_succ n))) (by omega) (gro_mk2 n) (by rw [u32s_len, Nat.mul_one])
    refine st_append rfl rfl rfl rfl rfl g1 ?_
    repeat (first | refine st_ltT rfl rfl rfl rfl rfl rfl (by omega) ?_ | refine st_ltF rfl rfl rfl rfl rfl rfl (by omega) ?_ | refine st_eqT rfl rfl rfl rfl rfl rfl (by omega) ?_ | refine st_eqF rfl rfl rfl rfl rfl rfl (by omega) ?_ | refine st_I rfl rfl rfl rfl rfl ?_ | refine st_S rfl rfl rfl rfl rfl ?_ | refine st_U rfl rfl rfl rfl rfl ?_)
    simp only [NV, reduceIte, Nat.reduceEqDiff, reduceCtorEq, Nat.one_ne_zero, Nat.zero_ne_one]
    refine retH [.slice none 0 0, .slice a' A.length A.length] rfl rfl rfl ⟨rfl, by show n ≤ n'; omega, (Ext.upd (by omega)).trans g3 (Nat.le_succ n), none, 0, [], a', _, A, rfl, .nil (.inl rfl), g4 (by omega), Norm.nil, nA, ?_, ?_, trivial, g5 n (Nat.le_succ n) (by omega)⟩
    · rw [Nat.div_eq_of_lt hlt]; rfl
    · rw [Nat.mod_eq_of_lt hlt]
  have hz : 0 ≤ cmpZ (val A) (val C) := by
    unfold cmpZ
    rw [if_neg hlt]
    split <;> decide
  generalize cmpZ (val A) (val C) = cz at hz
  repeat (first | refine st_ltT rfl rfl rfl rfl rfl rfl (by omega) ?_ | refine st_ltF rfl rfl rfl rfl rfl rfl (by omega) ?_ | refine st_eqT rfl rfl rfl rfl rfl rfl (by omega) ?_ | refine st_eqF rfl rfl rfl rfl rfl rfl (by omega) ?_ | refine st_I rfl rfl rfl rfl rfl ?_ | refine st_S rfl rfl rfl rfl rfl ?_ | refine st_U rfl rfl rfl rfl rfl ?_)
  simp only [NV, reduceIte, Nat.reduceEqDiff, reduceCtorEq, Nat.one_ne_zero, Nat.zero_ne_one]
  rw [EC_cond_false rfl]
  simp only [NV, reduceIte, Nat.reduceEqDiff, reduceCtorEq, Nat.one_ne_zero, Nat.zero_ne_one]
  by_cases hone : C.length = 1
  · obtain ⟨d, rfl⟩ : ∃ d, C = [d] := List.length_eq_one_iff.1 hone
    have hd0 : d ≠ 0 := nC.last (l := [])
    have hdB : d < 4294967296 := nC.1 d (by simp)
    have hvC : val [d] = d := by simp [val]
    repeat (first | refine st_ltT rfl rfl rfl rfl rfl rfl (by omega) ?_ | refine st_ltF rfl rfl rfl rfl rfl rfl (by omega) ?_ | refine st_eqT rfl rfl rfl rfl rfl rfl (by omega) ?_ | refine st_eqF rfl rfl rfl rfl rfl rfl (by omega) ?_ | refine st_I rfl rfl rfl rfl rfl ?_ | refine st_S rfl rfl rfl rfl rfl ?_ | refine st_U rfl rfl rfl rfl rfl ?_)
    simp only [NV, reduceIte, Nat.reduceEqDiff, reduceCtorEq, Nat.one_ne_zero, Nat.zero_ne_one]
    rw [EC_cond_true rfl]
    simp only [NV, reduceIte, Nat.reduceEqDiff, reduceCtorEq, Nat.one_ne_zero, Nat.zero_ne_one]
    repeat (first | refine st_ltT rfl rfl rfl rfl rfl rfl (by omega) ?_ | refine st_ltF rfl rfl rfl rfl rfl rfl (by omega) ?_ | refine st_eqT rfl rfl rfl rfl rfl rfl (by omega) ?_ | refine st_eqF rfl rfl rfl rfl rfl rfl (by omega) ?_ | refine st_I rfl rfl rfl rfl rfl ?_ | refine st_S rfl rfl rfl rfl rfl ?_ | refine st_U rfl rfl rfl rfl rfl ?_)
    refine st_at (j := 0) (dv := d) rfl rfl rfl rfl rfl rfl rfl hC rfl rfl rfl (fun _ => rfl) rfl rfl rfl rfl fun _ => ?_
    refine st_call _ rfl rfl rfl rfl rfl (smallDiv_ok k (d := d) (by omega) nA.1 (by omega) hA) ?_
    rintro _ h1 n1 _ ⟨rfl, hn1, hx1, a', c', L, rfl, hsL, nL, hvL, hfL, _⟩
    repeat (first | refine st_ltT rfl rfl rfl rfl rfl rfl (by omega) ?_ | refine st_ltF rfl rfl rfl rfl rfl rfl (by omega) ?_ | refine st_eqT rfl rfl rfl rfl rfl rfl (by omega) ?_ | refine st_eqF rfl rfl rfl rfl rfl rfl (by omega) ?_ | refine st_I rfl rfl rfl rfl rfl ?_ | refine st_S rfl rfl rfl rfl rfl ?_ | refine st_U rfl rfl rfl rfl rfl ?_)
    simp only [NV, reduceIte, Nat.reduceEqDiff, reduceCtorEq, Nat.one_ne_zero, Nat.zero_ne_one]
    repeat (first | refine st_ltT rfl rfl rfl rfl rfl rfl (by omega) ?_ | refine st_ltF rfl rfl rfl rfl rfl rfl (by omega) ?_ | refine st_eqT rfl rfl rfl rfl rfl rfl (by omega) ?_ | refine st_eqF rfl rfl rfl rfl rfl rfl (by omega) ?_ | refine st_I rfl rfl rfl rfl rfl ?_ | refine st_S rfl rfl rfl rfl rfl ?_ | refine st_U rfl rfl rfl rfl rfl ?_)
    refine st_mks (cs := [.int .u32 ((val A % d : Nat) : Int)]) rfl rfl rfl rfl rfl ?_
    have htr := trim_ok (k + 1) (l := [val A % d]) (h := upd h1 (3 * n1 + 2) (some (.row [.int .u32 ((val A % d : Nat) : Int)] 210))) (n := n1 + 1) (by simp) (Sl.own (O := [val A % d]) (upd_same _ _ _) (by omega) rfl (Nat.le_refl _))
    refine st_call _ rfl rfl rfl rfl rfl htr ?_
    rintro _ _ _ _ ⟨e5, e6, rfl, rfl, hsR⟩
    subst e5 e6
    repeat (first | refine st_ltT rfl rfl rfl rfl rfl rfl (by omega) ?_ | refine st_ltF rfl rfl rfl rfl rfl rfl (by omega) ?_ | refine st_eqT rfl rfl rfl rfl rfl rfl (by omega) ?_ | refine st_eqF rfl rfl rfl rfl rfl rfl (by omega) ?_ | refine st_I rfl rfl rfl rfl rfl ?_ | refine st_S rfl rfl rfl rfl rfl ?_ | refine st_U rfl rfl rfl rfl rfl ?_)
    simp only [NV, reduceIte, Nat.reduceEqDiff, reduceCtorEq, Nat.one_ne_zero, Nat.zero_ne_one]
    have hmod : val A % d < d := Nat.mod_lt _ (by omega)
    refine retH [.slice a' L.length c', .slice (some ⟨3 * n1 + 2, 0, none⟩) (trimL [val A % d]).length 1] rfl rfl rfl ⟨rfl, by show n ≤ n1 + 1; omega, hx1.trans (Ext.upd (by omega)) hn1, a', c', L, _, _, trimL [val A % d], rfl, hsL.ext (Ext.upd (by omega)) (Nat.le_succ _), hsR, nL, Norm.trim (fun x hx => by simp at hx; omega), by rw [hvL, hvC], ?_, hfL, by show 3 * n ≤ 3 * n1 + 2; omega⟩
    rw [trimL_val, hvC]
    simp [val]
  have hlen0 : C.length ≠ 0 := fun e => hC0 (List.length_eq_zero_iff.1 e)
  obtain ⟨m, hm⟩ : ∃ m, C.length = m + 2 := ⟨C.length - 2, by omega⟩
  repeat (first | refine st_ltT rfl rfl rfl rfl rfl rfl (by omega) ?_ | refine st_ltF rfl rfl rfl rfl rfl rfl (by omega) ?_ | refine st_eqT rfl rfl rfl rfl rfl rfl (by omega) ?_ | refine st_eqF rfl rfl rfl rfl rfl rfl (by omega) ?_ | refine st_I rfl rfl rfl rfl rfl ?_ | refine st_S rfl rfl rfl rfl rfl ?_ | refine st_U rfl rfl rfl rfl rfl ?_)
  simp only [EC_skip, EO_nil, after_normal, EC_seq]
  rw [EC_cond_false rfl]
  simp only [EC_skip, after_normal]
  exact div_gen hA hC nA nC hm hb (by omega) rfl ⟨rfl, rfl, trivial⟩
end Go.Proofs.YtokfihhdllmbmaaGreatDoor
namespace Go.Proofs.YtokfihhdllmbmaaGreatDoor
open Go Go.GL
section
variable {X : CtxF} {ops r : List Oper} {t : TF} {h : HF} {n : Nat} {w : List Nat} {Q : SV → Prop} {o : Oper} {d : Tmp}
theorem st_mul {ty ty' : TypeId} {x y : Operand} {a b : Int} (hw : wantsF ops t o = true) (hd : o.dst = some d) (hn : dstOk X.nt (some d) = true) (ho : o.op = .binOp .mul ty x y ty') (hx : evF t x = .int .i64 a) (hy : evF t y = .int .i64 b) (hr : -9223372036854775808 ≤ a * b ∧ a * b < 9223372036854775808)
    (k : EO X ops r ⟨upd t d (.int .i64 (a * b)), h, n, w⟩ Q) : EO X ops (o :: r) ⟨t, h, n, w⟩ Q := by
  refine st_val hw hd hn (by rw [ho]; rfl) ?_ k
  rw [ho]
  show binE X.E .mul ty (evF t x) (evF t y) = _
  rw [hx, hy]
  show some (Value.int .i64 (IntKind.wrap .i64 (a * b))) = _
  rw [wrap_i64 hr]
end
set_option maxHeartbeats 1000000
theorem bits_ok (k : Nat) {h : HF} {n : Nat} {c1 c2 : Value} {x : Int} {l : List Nat} (hi : IntR h n c1 c2 x l) (hb : l.length < 1000000000) : VF (cal (k + 1)) 155 [.agg #[c1, c2]] h n fun v => ∃ b : Nat, v = .int .i64 (b : Int) ∧ (b = 0 ↔ x.natAbs = 0) ∧ (b = 1 ↔ x.natAbs = 1) := by
  refine CF_flat (fn := Tryz.f155) rfl rfl rfl rfl ?_
  obtain ⟨rfl, hsl, hnorm, hval⟩ := hi
  obtain ⟨a, len, cap, rfl, _⟩ := hsl.len
  have e1 := hsl.lenU
  subst e1
  simp only [NV, reduceIte, Nat.reduceEqDiff, reduceCtorEq, Nat.one_ne_zero, Nat.zero_ne_one]
  refine st_mkp (cs := [.bool (decide (x < 0)), .slice a l.length cap]) rfl rfl rfl rfl rfl ?_
  repeat (first | refine st_gtT rfl rfl rfl rfl rfl rfl (by omega) ?_ | refine st_gtF rfl rfl rfl rfl rfl rfl (by omega) ?_ | refine st_eqF rfl rfl rfl rfl rfl rfl (by omega) ?_ | refine st_eq rfl rfl rfl rfl rfl rfl ?_ | refine st_add rfl rfl rfl rfl rfl rfl (by omega) ?_ | refine st_sub rfl rfl rfl rfl rfl rfl (by omega) ?_ | refine st_I rfl rfl rfl rfl rfl ?_ | refine st_P rfl rfl rfl rfl rfl ?_)
  simp only [NV, reduceIte, Nat.reduceEqDiff, reduceCtorEq, Nat.one_ne_zero, Nat.zero_ne_one]
  repeat (first | refine st_gtT rfl rfl rfl rfl rfl rfl (by omega) ?_ | refine st_gtF rfl rfl rfl rfl rfl rfl (by omega) ?_ | refine st_eqF rfl rfl rfl rfl rfl rfl (by omega) ?_ | refine st_eq rfl rfl rfl rfl rfl rfl ?_ | refine st_add rfl rfl rfl rfl rfl rfl (by omega) ?_ | refine st_sub rfl rfl rfl rfl rfl rfl (by omega) ?_ | refine st_I rfl rfl rfl rfl rfl ?_ | refine st_P rfl rfl rfl rfl rfl ?_)
  refine st_load1 rfl rfl rfl rfl rfl rfl (upd_same _ _ _) rfl (v := .slice a l.length cap) rfl ?_
  by_cases h0 : l = []
  · subst h0
    repeat (first | refine st_gtT rfl rfl rfl rfl rfl rfl (by omega) ?_ | refine st_gtF rfl rfl rfl rfl rfl rfl (by omega) ?_ | refine st_eqF rfl rfl rfl rfl rfl rfl (by omega) ?_ | refine st_eq rfl rfl rfl rfl rfl rfl ?_ | refine st_add rfl rfl rfl rfl rfl rfl (by omega) ?_ | refine st_sub rfl rfl rfl rfl rfl rfl (by omega) ?_ | refine st_I rfl rfl rfl rfl rfl ?_ | refine st_P rfl rfl rfl rfl rfl ?_)
    simp only [NV, reduceIte, Nat.reduceEqDiff, reduceCtorEq, Nat.one_ne_zero, Nat.zero_ne_one]
    rw [EC_cond_true rfl]
    simp only [NV, reduceIte, Nat.reduceEqDiff, reduceCtorEq, Nat.one_ne_zero, Nat.zero_ne_one]
    repeat (first | refine st_gtT rfl rfl rfl rfl rfl rfl (by omega) ?_ | refine st_gtF rfl rfl rfl rfl rfl rfl (by omega) ?_ | refine st_eqF rfl rfl rfl rfl rfl rfl (by omega) ?_ | refine st_eq rfl rfl rfl rfl rfl rfl ?_ | refine st_add rfl rfl rfl rfl rfl rfl (by omega) ?_ | refine st_sub rfl rfl rfl rfl rfl rfl (by omega) ?_ | refine st_I rfl rfl rfl rfl rfl ?_ | refine st_P rfl rfl rfl rfl rfl ?_)
    simp only [NV, reduceIte, Nat.reduceEqDiff, reduceCtorEq, Nat.one_ne_zero, Nat.zero_ne_one]
    refine retF _ rfl (resF_tmp rfl) rfl rfl ⟨0, rfl, ?_, ?_⟩ <;> rw [← hval] <;> simp [val]
  obtain ⟨i, top, rfl⟩ := snoc h0
  have ht0 : top ≠ 0 := hnorm.last
  have htB : top < 4294967296 := hnorm.1 top (by simp)
  have hll : (i ++ [top]).length = i.length + 1 := by simp
  rw [hll] at hb hsl
  simp only [hll]
  have hsl1 := hsl.ext (Ext.upd (b := 3 * n + 2) (x := some (.row [.bool (decide (x < 0)), .slice a (i.length + 1) cap] 56)) (by omega)) (Nat.le_succ n)
  repeat (first | refine st_gtT rfl rfl rfl rfl rfl rfl (by omega) ?_ | refine st_gtF rfl rfl rfl rfl rfl rfl (by omega) ?_ | refine st_eqF rfl rfl rfl rfl rfl rfl (by omega) ?_ | refine st_eq rfl rfl rfl rfl rfl rfl ?_ | refine st_add rfl rfl rfl rfl rfl rfl (by omega) ?_ | refine st_sub rfl rfl rfl rfl rfl rfl (by omega) ?_ | refine st_I rfl rfl rfl rfl rfl ?_ | refine st_P rfl rfl rfl rfl rfl ?_)
  simp only [NV, reduceIte, Nat.reduceEqDiff, reduceCtorEq, Nat.one_ne_zero, Nat.zero_ne_one]
  rw [EC_cond_false rfl]
  simp only [NV, reduceIte, Nat.reduceEqDiff, reduceCtorEq, Nat.one_ne_zero, Nat.zero_ne_one]
  repeat (first | refine st_gtT rfl rfl rfl rfl rfl rfl (by omega) ?_ | refine st_gtF rfl rfl rfl rfl rfl rfl (by omega) ?_ | refine st_eqF rfl rfl rfl rfl rfl rfl (by omega) ?_ | refine st_eq rfl rfl rfl rfl rfl rfl ?_ | refine st_add rfl rfl rfl rfl rfl rfl (by omega) ?_ | refine st_sub rfl rfl rfl rfl rfl rfl (by omega) ?_ | refine st_I rfl rfl rfl rfl rfl ?_ | refine st_P rfl rfl rfl rfl rfl ?_)
  refine st_load1 rfl rfl rfl rfl rfl rfl (upd_same _ _ _) rfl (v := .slice a (i.length + 1) cap) rfl ?_
  (first | refine st_I rfl rfl rfl rfl rfl ?_ | refine st_P rfl rfl rfl rfl rfl ?_)
  refine st_sub rfl rfl rfl rfl rfl rfl (by omega) ?_
  refine st_mul rfl rfl rfl rfl rfl rfl (by omega) ?_
  repeat (first | refine st_gtT rfl rfl rfl rfl rfl rfl (by omega) ?_ | refine st_gtF rfl rfl rfl rfl rfl rfl (by omega) ?_ | refine st_eqF rfl rfl rfl rfl rfl rfl (by omega) ?_ | refine st_eq rfl rfl rfl rfl rfl rfl ?_ | refine st_add rfl rfl rfl rfl rfl rfl (by omega) ?_ | refine st_sub rfl rfl rfl rfl rfl rfl (by omega) ?_ | refine st_I rfl rfl rfl rfl rfl ?_ | refine st_P rfl rfl rfl rfl rfl ?_)
  simp only [NV, reduceIte, Nat.reduceEqDiff, reduceCtorEq, Nat.one_ne_zero, Nat.zero_ne_one]
  repeat (first | refine st_gtT rfl rfl rfl rfl rfl rfl (by omega) ?_ | refine st_gtF rfl rfl rfl rfl rfl rfl (by omega) ?_ | refine st_eqF rfl rfl rfl rfl rfl rfl (by omega) ?_ | refine st_eq rfl rfl rfl rfl rfl rfl ?_ | refine st_add rfl rfl rfl rfl rfl rfl (by omega) ?_ | refine st_sub rfl rfl rfl rfl rfl rfl (by omega) ?_ | refine st_I rfl rfl rfl rfl rfl ?_ | refine st_P rfl rfl rfl rfl rfl ?_)
  refine st_load1 rfl rfl rfl rfl rfl rfl (upd_same _ _ _) rfl (v := .slice a (i.length + 1) cap) rfl ?_
  repeat (first | refine st_gtT rfl rfl rfl rfl rfl rfl (by omega) ?_ | refine st_gtF rfl rfl rfl rfl rfl rfl (by omega) ?_ | refine st_eqF rfl rfl rfl rfl rfl rfl (by omega) ?_ | refine st_eq rfl rfl rfl rfl rfl rfl ?_ | refine st_add rfl rfl rfl rfl rfl rfl (by omega) ?_ | refine st_sub rfl rfl rfl rfl rfl rfl (by omega) ?_ | refine st_I rfl rfl rfl rfl rfl ?_ | refine st_P rfl rfl rfl rfl rfl ?_)
  refine st_load1 rfl rfl rfl rfl rfl rfl (upd_same _ _ _) rfl (v := .slice a (i.length + 1) cap) rfl ?_
  repeat (first | refine st_gtT rfl rfl rfl rfl rfl rfl (by omega) ?_ | refine st_gtF rfl rfl rfl rfl rfl rfl (by omega) ?_ | refine st_eqF rfl rfl rfl rfl rfl rfl (by omega) ?_ | refine st_eq rfl rfl rfl rfl rfl rfl ?_ | refine st_add rfl rfl rfl rfl rfl rfl (by omega) ?_ | refine st_sub rfl rfl rfl rfl rfl rfl (by omega) ?_ | refine st_I rfl rfl rfl rfl rfl ?_ | refine st_P rfl rfl rfl rfl rfl ?_)
  refine st_at (j := i.length) (dv := top) rfl rfl rfl rfl rfl rfl rfl hsl1 rfl (by omega) (by simp) (fun _ => rfl) rfl rfl rfl rfl fun _ => ?_
  repeat (first | refine st_gtT rfl rfl rfl rfl rfl rfl (by omega) ?_ | refine st_gtF rfl rfl rfl rfl rfl rfl (by omega) ?_ | refine st_eqF rfl rfl rfl rfl rfl rfl (by omega) ?_ | refine st_eq rfl rfl rfl rfl rfl rfl ?_ | refine st_add rfl rfl rfl rfl rfl rfl (by omega) ?_ | refine st_sub rfl rfl rfl rfl rfl rfl (by omega) ?_ | refine st_I rfl rfl rfl rfl rfl ?_ | refine st_P rfl rfl rfl rfl rfl ?_)
  simp only [NV, reduceIte, Nat.reduceEqDiff, reduceCtorEq, Nat.one_ne_zero, Nat.zero_ne_one]
  generalize hh1 : upd h (3 * n + 2) _ = h1
  refine EC_for (α := Nat × Nat) (fun z => [(3, .int .i64 ((32 * i.length + z.1 : Nat) : Int)), (4, .int .u32 (z.2 : Int))]) (fun z h' n' w' => n' = n + 1 ∧ w' = [] ∧ z.2 = top / 2 ^ z.1 ∧ (z.1 = 0 ∨ top / 2 ^ (z.1 - 1) ≠ 0) ∧ z.1 ≤ 32) (fun z => 33 - z.1) (0, top) ⟨by show Value.int .i64 _ = Value.int .i64 _; congr 1; omega, rfl, trivial⟩ ⟨rfl, rfl, by simp, .inl rfl, Nat.zero_le _⟩ (by show 33 - 0 < LL; decide) ?_
  rintro ⟨c, tv⟩ t2 h2 _ _ ⟨rfl, rfl, htv, hmin, hc⟩
  simp only at htv hmin hc
  subst htv
  simp only [NV, reduceIte, Nat.reduceEqDiff, reduceCtorEq, Nat.one_ne_zero, Nat.zero_ne_one]
  by_cases hz : top / 2 ^ c = 0
  · repeat (first | refine st_gtT rfl rfl rfl rfl rfl rfl (by omega) ?_ | refine st_gtF rfl rfl rfl rfl rfl rfl (by omega) ?_ | refine st_eqF rfl rfl rfl rfl rfl rfl (by omega) ?_ | refine st_eq rfl rfl rfl rfl rfl rfl ?_ | refine st_add rfl rfl rfl rfl rfl rfl (by omega) ?_ | refine st_sub rfl rfl rfl rfl rfl rfl (by omega) ?_ | refine st_I rfl rfl rfl rfl rfl ?_ | refine st_P rfl rfl rfl rfl rfl ?_)
    simp only [NV, reduceIte, Nat.reduceEqDiff, reduceCtorEq, Nat.one_ne_zero, Nat.zero_ne_one]
    rw [EC_cond_false rfl]
    simp only [NV, reduceIte, Nat.reduceEqDiff, reduceCtorEq, Nat.one_ne_zero, Nat.zero_ne_one]
    repeat (first | refine st_gtT rfl rfl rfl rfl rfl rfl (by omega) ?_ | refine st_gtF rfl rfl rfl rfl rfl rfl (by omega) ?_ | refine st_eqF rfl rfl rfl rfl rfl rfl (by omega) ?_ | refine st_eq rfl rfl rfl rfl rfl rfl ?_ | refine st_add rfl rfl rfl rfl rfl rfl (by omega) ?_ | refine st_sub rfl rfl rfl rfl rfl rfl (by omega) ?_ | refine st_I rfl rfl rfl rfl rfl ?_ | refine st_P rfl rfl rfl rfl rfl ?_)
    simp only [NV, reduceIte, Nat.reduceEqDiff, reduceCtorEq, Nat.one_ne_zero, Nat.zero_ne_one]
    have hc0 : c ≠ 0 := fun e => by rw [e, Nat.pow_zero, Nat.div_one] at hz; exact ht0 hz
    have hvv : x.natAbs = val i + 4294967296 ^ i.length * top := by rw [← hval, val_append]; simp [val]
    refine retF _ rfl (resF_tmp rfl) rfl rfl ⟨32 * i.length + c, rfl, ?_, ?_⟩
    · have hpos : 0 < 4294967296 ^ i.length * top := Nat.mul_pos (Nat.pow_pos (by omega)) (by omega)
      omega
    · have hpos : 0 < 4294967296 ^ i.length * top := Nat.mul_pos (Nat.pow_pos (by omega)) (by omega)
      by_cases hi0 : i.length = 0
      · rw [List.length_eq_zero_iff.1 hi0] at hvv ⊢
        simp only [val, List.length_nil, Nat.pow_zero, Nat.one_mul, Nat.zero_add, Nat.mul_zero] at hvv ⊢
        rw [hvv]
        constructor
        · rintro rfl
          rw [Nat.pow_one] at hz
          omega
        · rintro rfl
          rcases hmin with hm | hm
          · exact absurd hm hc0
          · apply Classical.byContradiction
            intro hn
            apply hm
            exact Nat.div_eq_of_lt (Nat.one_lt_two_pow (by omega))
      · have h32 : 4294967296 ^ 1 * 1 ≤ 4294967296 ^ i.length * top := Nat.mul_le_mul (Nat.pow_le_pow_right (by omega) (by omega)) (by omega)
        omega
  · have hc32 : c + 1 ≤ 32 := by
      apply Classical.byContradiction
      intro hn
      have : c = 32 := by omega
      subst this
      exact hz (Nat.div_eq_of_lt htB)
    have hle : top / 2 ^ c ≤ top := Nat.div_le_self _ _
    generalize htv : top / 2 ^ c = tv at hz hle ⊢
    repeat (first | refine st_gtT rfl rfl rfl rfl rfl rfl (by omega) ?_ | refine st_gtF rfl rfl rfl rfl rfl rfl (by omega) ?_ | refine st_eqF rfl rfl rfl rfl rfl rfl (by omega) ?_ | refine st_eq rfl rfl rfl rfl rfl rfl ?_ | refine st_add rfl rfl rfl rfl rfl rfl (by omega) ?_ | refine st_sub rfl rfl rfl rfl rfl rfl (by omega) ?_ | refine st_I rfl rfl rfl rfl rfl ?_ | refine st_P rfl rfl rfl rfl rfl ?_)
    simp only [NV, reduceIte, Nat.reduceEqDiff, reduceCtorEq, Nat.one_ne_zero, Nat.zero_ne_one]
    rw [EC_cond_true rfl]
    simp only [NV, reduceIte, Nat.reduceEqDiff, reduceCtorEq, Nat.one_ne_zero, Nat.zero_ne_one]
    repeat (first | refine st_gtT rfl rfl rfl rfl rfl rfl (by omega) ?_ | refine st_gtF rfl rfl rfl rfl rfl rfl (by omega) ?_ | refine st_eqF rfl rfl rfl rfl rfl rfl (by omega) ?_ | refine st_eq rfl rfl rfl rfl rfl rfl ?_ | refine st_add rfl rfl rfl rfl rfl rfl (by omega) ?_ | refine st_sub rfl rfl rfl rfl rfl rfl (by omega) ?_ | refine st_I rfl rfl rfl rfl rfl ?_ | refine st_P rfl rfl rfl rfl rfl ?_)
    simp only [NV, reduceIte, Nat.reduceEqDiff, reduceCtorEq, Nat.one_ne_zero, Nat.zero_ne_one]
    (first | refine st_I rfl rfl rfl rfl rfl ?_ | refine st_P rfl rfl rfl rfl rfl ?_)
    refine st_shr_u32 (a := tv) (s := 1) rfl rfl rfl rfl rfl rfl (by omega) ?_
    repeat (first | refine st_gtT rfl rfl rfl rfl rfl rfl (by omega) ?_ | refine st_gtF rfl rfl rfl rfl rfl rfl (by omega) ?_ | refine st_eqF rfl rfl rfl rfl rfl rfl (by omega) ?_ | refine st_eq rfl rfl rfl rfl rfl rfl ?_ | refine st_add rfl rfl rfl rfl rfl rfl (by omega) ?_ | refine st_sub rfl rfl rfl rfl rfl rfl (by omega) ?_ | refine st_I rfl rfl rfl rfl rfl ?_ | refine st_P rfl rfl rfl rfl rfl ?_)
    simp only [NV, reduceIte, Nat.reduceEqDiff, reduceCtorEq, Nat.one_ne_zero, Nat.zero_ne_one]
    refine goOn (c + 1, tv / 2 ^ 1) (by show 33 - (c + 1) < 33 - c; omega) ⟨by show Value.int .i64 _ = Value.int .i64 _; congr 1, rfl, trivial⟩ ⟨rfl, rfl, ?_, .inr (by show top / 2 ^ (c + 1 - 1) ≠ 0; rw [Nat.add_sub_cancel, htv]; exact hz), hc32⟩
    show tv / 2 ^ 1 = top / 2 ^ (c + 1)
    rw [← htv, Nat.div_div_eq_div_mul, ← Nat.pow_add]
end Go.Proofs.YtokfihhdllmbmaaGreatDoor
namespace Go.GL
open Go
section
variable {X : CtxF} {ops r : List Oper} {ms : List Nat} {i m : Nat} {t : TF} {h : HF} {n : Nat} {w : List Nat} {al ld : List (Nat × Nat)} {ef : List (Nat × HF × List Nat)} {Q : SV → Prop} {o : Oper} {d : Tmp} {E : Env}
theorem pv_lt {ty ty' : TypeId} {x y : Operand} {ik : IntKind} {a b : Int} (ho : o.op = .binOp .lss ty x y ty') (hx : evF t x = .int ik a) (hy : evF t y = .int ik b) : pureE E o.op (evF t) = some (.bool (decide (a < b))) := by
  rw [ho]
  show binE E .lss ty (evF t x) (evF t y) = _
  rw [hx, hy]
  simp only [binE, isSh, ikEq_self, intE, x2_eq]
  
theorem dr_ltT {ty ty' : TypeId} {x y : Operand} {ik : IntKind} {a b : Int} (hw : wantsF ops t o = true) (hd : o.dst = some d) (hn : dstOk X.nt (some d) = true) (ho : o.op = .binOp .lss ty x y ty') (hx : evF t x = .int ik a) (hy : evF t y = .int ik b) (hr : a < b)
    (k : ED X ops r ms (i + 1) ⟨⟨upd t d (.bool true), h, n, w⟩, al, ld, ef⟩ Q) : ED X ops (o :: r) (m :: ms) i ⟨⟨t, h, n, w⟩, al, ld, ef⟩ Q :=
  dr_val hw hd hn (by rw [ho]; rfl) (by rw [pv_lt ho hx hy, decide_eq_true hr]) k
theorem dr_ltF {ty ty' : TypeId} {x y : Operand} {ik : IntKind} {a b : Int} (hw : wantsF ops t o = true) (hd : o.dst = some d) (hn : dstOk X.nt (some d) = true) (ho : o.op = .binOp .lss ty x y ty') (hx : evF t x = .int ik a) (hy : evF t y = .int ik b) (hr : ¬ (a < b))
    (k : ED X ops r ms (i + 1) ⟨⟨upd t d (.bool false), h, n, w⟩, al, ld, ef⟩ Q) : ED X ops (o :: r) (m :: ms) i ⟨⟨t, h, n, w⟩, al, ld, ef⟩ Q :=
  dr_val hw hd hn (by rw [ho]; rfl) (by rw [pv_lt ho hx hy, decide_eq_false hr]) k
theorem pv_gt {ty ty' : TypeId} {x y : Operand} {ik : IntKind} {a b : Int} (ho : o.op = .binOp .gtr ty x y ty') (hx : evF t x = .int ik a) (hy : evF t y = .int ik b) : pureE E o.op (evF t) = some (.bool (decide (b < a))) := by
  rw [ho]
  show binE E .gtr ty (evF t x) (evF t y) = _
  rw [hx, hy]
  simp only [binE, isSh, ikEq_self, intE, x2_eq]
  
theorem dr_gtT {ty ty' : TypeId} {x y : Operand} {ik : IntKind} {a b : Int} (hw : wantsF ops t o = true) (hd : o.dst = some d) (hn : dstOk X.nt (some d) = true) (ho : o.op = .binOp .gtr ty x y ty') (hx : evF t x = .int ik a) (hy : evF t y = .int ik b) (hr : b < a)
    (k : ED X ops r ms (i + 1) ⟨⟨upd t d (.bool true), h, n, w⟩, al, ld, ef⟩ Q) : ED X ops (o :: r) (m :: ms) i ⟨⟨t, h, n, w⟩, al, ld, ef⟩ Q :=
  dr_val hw hd hn (by rw [ho]; rfl) (by rw [pv_gt ho hx hy, decide_eq_true hr]) k
theorem dr_gtF {ty ty' : TypeId} {x y : Operand} {ik : IntKind} {a b : Int} (hw : wantsF ops t o = true) (hd : o.dst = some d) (hn : dstOk X.nt (some d) = true) (ho : o.op = .binOp .gtr ty x y ty') (hx : evF t x = .int ik a) (hy : evF t y = .int ik b) (hr : ¬ (b < a))
    (k : ED X ops r ms (i + 1) ⟨⟨upd t d (.bool false), h, n, w⟩, al, ld, ef⟩ Q) : ED X ops (o :: r) (m :: ms) i ⟨⟨t, h, n, w⟩, al, ld, ef⟩ Q :=
  dr_val hw hd hn (by rw [ho]; rfl) (by rw [pv_gt ho hx hy, decide_eq_false hr]) k
theorem pv_ge {ty ty' : TypeId} {x y : Operand} {ik : IntKind} {a b : Int} (ho : o.op = .binOp .geq ty x y ty') (hx : evF t x = .int ik a) (hy : evF t y = .int ik b) : pureE E o.op (evF t) = some (.bool (decide (b ≤ a))) := by
  rw [ho]
  show binE E .geq ty (evF t x) (evF t y) = _
  rw [hx, hy]
  simp only [binE, isSh, ikEq_self, intE, x3_eq]
  
theorem dr_geT {ty ty' : TypeId} {x y : Operand} {ik : IntKind} {a b : Int} (hw : wantsF ops t o = true) (hd : o.dst = some d) (hn : dstOk X.nt (some d) = true) (ho : o.op = .binOp .geq ty x y ty') (hx : evF t x = .int ik a) (hy : evF t y = .int ik b) (hr : b ≤ a)
    (k : ED X ops r ms (i + 1) ⟨⟨upd t d (.bool true), h, n, w⟩, al, ld, ef⟩ Q) : ED X ops (o :: r) (m :: ms) i ⟨⟨t, h, n, w⟩, al, ld, ef⟩ Q :=
  dr_val hw hd hn (by rw [ho]; rfl) (by rw [pv_ge ho hx hy, decide_eq_true hr]) k
theorem dr_geF {ty ty' : TypeId} {x y : Operand} {ik : IntKind} {a b : Int} (hw : wantsF ops t o = true) (hd : o.dst = some d) (hn : dstOk X.nt (some d) = true) (ho : o.op = .binOp .geq ty x y ty') (hx : evF t x = .int ik a) (hy : evF t y = .int ik b) (hr : ¬ (b ≤ a))
    (k : ED X ops r ms (i + 1) ⟨⟨upd t d (.bool false), h, n, w⟩, al, ld, ef⟩ Q) : ED X ops (o :: r) (m :: ms) i ⟨⟨t, h, n, w⟩, al, ld, ef⟩ Q :=
  dr_val hw hd hn (by rw [ho]; rfl) (by rw [pv_ge ho hx hy, decide_eq_false hr]) k
theorem dr_idx {ty e : TypeId} {x ii : Operand} {b off len cap sz bt : Nat} {z : Value} {ik : IntKind} {j : Int} (hw : wantsF ops t o = true) (hd : o.dst = some d) (hn : dstOk X.nt (some d) = true) (ho : o.op = .indexAddr ty x ii) (hu : X.E.und ty = some (.slice e)) (hi : X.E.inf e = some (sz, bt, z))
    (hx : evF t x = .slice (some ⟨b, off, none⟩) len cap) (hj : evF t ii = .int ik j) (hr : 0 ≤ j ∧ j < len) (k : ED X ops r ms (i + 1) ⟨⟨upd t d (.pointer (some ⟨b, off + j.toNat * sz, none⟩)), h, n, w⟩, al, ld, ef⟩ Q) : ED X ops (o :: r) (m :: ms) i ⟨⟨t, h, n, w⟩, al, ld, ef⟩ Q := by
  refine dr_val hw hd hn (by rw [ho]; rfl) ?_ k
  rw [ho]
  show indexAddrE X.E ty (evF t x) (evF t ii) = _
  rw [hx, hj]
  simp only [indexAddrE, hu, hi, if_pos hr, addr_at]
theorem okLoads_nil : ∀ {l : List (Nat × Nat)}, okLoads m [] l = true := by
  intro l
  induction l with
  | nil => rfl
  | cons x l ih =>
    obtain ⟨i, b⟩ := x
    unfold okLoads
    rw [show memN b [] = false from rfl, Bool.not_false, Bool.or_true]
    exact ih
theorem okEffsF_nil {u b : Nat} : ∀ {l : List (Nat × HF × List Nat)}, (∀ x ∈ l, x.2.2 = []) → okEffsF u b l = true := by
  intro l
  induction l with
  | nil => intro _; rfl
  | cons x l ih =>
    intro h
    obtain ⟨e, g, W⟩ := x
    have hW : W = [] := h (e, g, W) (by simp)
    subst hW
    unfold okEffsF
    rw [show memN b [] = false from rfl, Bool.not_false, Bool.or_true]
    exact ih fun y hy => h y (by simp [hy])
theorem dr_vf {f : FuncId} {args : List Value} (P : Value → Prop) (hw : wantsF ops t o = true) (hd : o.dst = some d) (hn : dstOk X.nt (some d) = true) (hc : cls o.op = 3) (he : effF X.E o.op (evF t) h n = some (.enter f args)) (h1 : allEfF m ef = true) (h2 : allAl m al = true) (hcall : CF X.C f args h n fun v h' n' w => h' = h ∧ n' = n ∧ w = [] ∧ P v)
    (k : ∀ v, P v → ED X ops r ms (i + 1) ⟨⟨upd t d v, h, n, w⟩, al, ld, (i, h, []) :: ef⟩ Q) : ED X ops (o :: r) (m :: ms) i ⟨⟨t, h, n, w⟩, al, ld, ef⟩ Q := by
  refine dr_call _ hw hd hn hc he h1 h2 hcall fun v h' n' W hp => ?_
  obtain ⟨rfl, rfl, rfl, hp⟩ := hp
  exact ⟨okLoads_nil, Nat.le_refl _, k v hp⟩
end
end Go.GL
namespace Go.Proofs.YtokfihhdllmbmaaGreatDoor
open Go Go.GL
theorem mk1_int {h : HF} {n : Nat} {a : Option Addr} {c : Nat} {L : List Nat} {x : Int} {neg : Bool} (hs : Sl h n 1 (.slice a L.length c) (u32s L)) (hn : Norm L) (hv : val L = x.natAbs) (hneg : x ≠ 0 → neg = decide (x < 0)) : IntR h n (.bool (neg && decide (0 < L.length))) (.slice a L.length c) x L := by
  refine ⟨?_, hs, hn, hv⟩
  have h0 := hn.zero
  rw [← List.length_eq_zero_iff] at h0
  by_cases hx : x = 0
  · have : ¬ 0 < L.length := by omega
    rw [decide_eq_false this, hx, Bool.and_false]
    rfl
  · have : 0 < L.length := by omega
    rw [decide_eq_true this, Bool.and_true, hneg hx]
set_option maxHeartbeats 1000000
theorem neg_ok (k : Nat) {h : HF} {n : Nat} {c1 c2 : Value} {x : Int} {l : List Nat} (hi : IntR h n c1 c2 x l) : CF (cal (k + 2)) 152 [.agg #[c1, c2]] h n fun v h' n' w => w = [] ∧ n ≤ n' ∧ Ext n h h' ∧ ∃ c1', v = .agg #[c1', c2] ∧ IntR h' n' c1' c2 (-x) l := by
  refine CF_heap (fn := Tryz.f152) rfl rfl rfl rfl ?_
  obtain ⟨rfl, hsl, hnorm, hval⟩ := hi
  obtain ⟨a, len, cap, rfl, _⟩ := hsl.len
  have e1 := hsl.lenU
  subst e1
  simp only [NV, reduceIte, Nat.reduceEqDiff, reduceCtorEq, Nat.one_ne_zero, Nat.zero_ne_one]
  refine st_mkp (cs := [.bool (decide (x < 0)), .slice a l.length cap]) rfl rfl rfl rfl rfl ?_
  refine st_alloc rfl rfl rfl rfl rfl ?_
  simp only [NV, reduceIte, Nat.reduceEqDiff, reduceCtorEq, Nat.one_ne_zero, Nat.zero_ne_one]
  generalize hh : upd (upd h (3 * n + 2) _) (3 * (n + 1) + 2) _ = h1
  have hp : ∃ e, h1 (3 * n + 2) = some (.row [.bool (decide (x < 0)), .slice a l.length cap] e) := ⟨_, by rw [← hh, upd_ne (by omega), upd_same]⟩
  have hr : ∃ e, h1 (3 * (n + 1) + 2) = some (.row [.bool false, .slice none 0 0] e) := ⟨_, by rw [← hh, upd_same]; rfl⟩
  have hx1 : Ext n h h1 := by rw [← hh]; intro b hb; rw [upd_ne (by omega), upd_ne (by omega)]
  obtain ⟨ty1, hp⟩ := hp
  obtain ⟨ty2, hr⟩ := hr
  repeat (first | refine st_B rfl rfl rfl rfl rfl ?_ | refine st_P rfl rfl rfl rfl rfl ?_)
  refine st_load1 rfl rfl rfl rfl rfl rfl hp rfl (v := .bool (decide (x < 0))) rfl ?_
  repeat (first | refine st_B rfl rfl rfl rfl rfl ?_ | refine st_P rfl rfl rfl rfl rfl ?_)
  refine st_load1 rfl rfl rfl rfl rfl rfl hp rfl (v := .slice a l.length cap) rfl ?_
  refine st_call _ rfl rfl rfl rfl rfl (make1_ok k _ _ (!decide (x < 0)) a l.length cap) ?_
  rintro _ h2 n2 _ ⟨rfl, rfl, rfl, hx2⟩
  refine st_storeW [.bool (!decide (x < 0) && decide (0 < l.length)), .slice a l.length cap] rfl rfl rfl rfl rfl rfl rfl rfl (by rw [hx2 _ (by omega)]; exact hr) rfl (by show 3 * n ≤ _; omega) ?_
  simp only [NV, reduceIte, Nat.reduceEqDiff, reduceCtorEq, Nat.one_ne_zero, Nat.zero_ne_one]
  have hext : Ext n h (upd h2 (3 * (n + 1) + 2) (some (.row [.bool (!decide (x < 0) && decide (0 < l.length)), .slice a l.length cap] ty2))) := fun b hb => by rw [upd_ne (by omega), hx2 b (by omega)]; exact hx1 b hb
  refine retCell rfl rfl rfl rfl rfl (upd_same _ _ _) rfl ⟨rfl, by show n ≤ n + 1 + 1 + 1; omega, hext, _, rfl, mk1_int (hsl.ext hext (by omega)) hnorm (by rw [hval]; omega) (fun hx0 => ?_)⟩
  by_cases hx : x < 0
  · rw [decide_eq_true hx, decide_eq_false (by omega)]; rfl
  · rw [decide_eq_false hx, decide_eq_true (by omega)]; rfl
theorem retCell2 {fn : Func} {P : Value → HF → Nat → List Nat → Prop} {e : Ex} {t : TF} {h : HF} {n : Nat} {w : List Nat} {a a2 : Tmp} {ty ty2 e1 e2 : TypeId} {b b2 sz sz2 bt bt2 : Nat} {z z2 : Value} {cs cs2 : List Value} (he : isEnd e = true) (hr : fn.results.toList = [.cell a ty, .cell a2 ty2]) (ha : t a = .pointer (some ⟨b, 0, none⟩)) (ha2 : t a2 = .pointer (some ⟨b2, 0, none⟩)) (hg : GL.isAgg env ty = some true) (hg2 : GL.isAgg env ty2 = some true) (hi : env.inf ty = some (sz, bt, z)) (hi2 : env.inf ty2 = some (sz2, bt2, z2)) (hb : h b = some (.row cs e1)) (hb2 : h b2 = some (.row cs2 e2)) (hl : cs.length = sz) (hl2 : cs2.length = sz2) (hp : P (.tuple #[.agg cs.toArray, .agg cs2.toArray]) h n w) : RetH fn P e ⟨t, h, n, w⟩ := by
  refine retH [.agg cs.toArray, .agg cs2.toArray] he ?_ rfl hp
  rw [hr]
  have l1 := loadn_eq hg hi hb rfl (show 0 + sz ≤ cs.length by omega) (show (cs.drop 0).take sz = cs by rw [List.drop_zero, List.take_of_length_le (by omega)])
  have l2 := loadn_eq hg2 hi2 hb2 rfl (show 0 + sz2 ≤ cs2.length by omega) (show (cs2.drop 0).take sz2 = cs2 by rw [List.drop_zero, List.take_of_length_le (by omega)])
  simp only [resF, ha, ha2, l1, l2]
theorem quoRem_ok (k : Nat) {h : HF} {n : Nat} {c1 c2 d1 d2 : Value} {x y : Int} {A C : List Nat} (hx : IntR h n c1 c2 x A) (hy : IntR h n d1 d2 y C) (hy0 : y ≠ 0) (hb : A.length < 1000000000) :
    CF (cal (k + 4)) 156 [.agg #[c1, c2], .agg #[d1, d2]] h n fun v h' n' w => w = [] ∧ n ≤ n' ∧ Ext n h h' ∧ ∃ q1 q2 r1 r2 Lq Lr, v = .tuple #[.agg #[q1, q2], .agg #[r1, r2]] ∧ IntR h' n' q1 q2 (x.tdiv y) Lq ∧ IntR h' n' r1 r2 (x.tmod y) Lr ∧ Fresh n q2 ∧ Fresh n r2 := by
  refine CF_heap (fn := Tryz.f156) rfl rfl rfl rfl ?_
  obtain ⟨rfl, hA, nA, vA⟩ := hx
  obtain ⟨rfl, hC, nC, vC⟩ := hy
  obtain ⟨a, la, ca, rfl, _⟩ := hA.len
  obtain ⟨c, lc, cc, rfl, _⟩ := hC.len
  have e1 := hA.lenU
  have e2 := hC.lenU
  subst e1 e2
  have hC0 : C ≠ [] := fun e => hy0 (by have := nC.zero.2 e; omega)
  simp only [NV, reduceIte, Nat.reduceEqDiff, reduceCtorEq, Nat.one_ne_zero, Nat.zero_ne_one]
  refine st_mkp (cs := [.bool (decide (x < 0)), .slice a A.length ca]) rfl rfl rfl rfl rfl ?_
  refine st_mkp (cs := [.bool (decide (y < 0)), .slice c C.length cc]) rfl rfl rfl rfl rfl ?_
  refine st_alloc rfl rfl rfl rfl rfl ?_
  refine st_alloc rfl rfl rfl rfl rfl ?_
  simp only [NV, reduceIte, Nat.reduceEqDiff, reduceCtorEq, Nat.one_ne_zero, Nat.zero_ne_one]
  generalize hh : upd (upd (upd (upd h (3 * n + 2) _) (3 * (n + 1) + 2) _) (3 * (n + 1 + 1) + 2) _) (3 * (n + 1 + 1 + 1) + 2) _ = h1
  have hp1 : ∃ e, h1 (3 * n + 2) = some (.row [.bool (decide (x < 0)), .slice a A.length ca] e) := ⟨_, by rw [← hh, upd_ne (by omega), upd_ne (by omega), upd_ne (by omega), upd_same]⟩
  have hp2 : ∃ e, h1 (3 * (n + 1) + 2) = some (.row [.bool (decide (y < 0)), .slice c C.length cc] e) := ⟨_, by rw [← hh, upd_ne (by omega), upd_ne (by omega), upd_same]⟩
  have hr1 : ∃ e, h1 (3 * (n + 1 + 1) + 2) = some (.row [.bool false, .slice none 0 0] e) := ⟨_, by rw [← hh, upd_ne (by omega), upd_same]; rfl⟩
  have hr2 : ∃ e, h1 (3 * (n + 1 + 1 + 1) + 2) = some (.row [.bool false, .slice none 0 0] e) := ⟨_, by rw [← hh, upd_same]; rfl⟩
  have hx1 : Ext n h h1 := by rw [← hh]; intro b hb; rw [upd_ne (by omega), upd_ne (by omega), upd_ne (by omega), upd_ne (by omega)]
  obtain ⟨t1, hp1⟩ := hp1
  obtain ⟨t2, hp2⟩ := hp2
  obtain ⟨t3, hr1⟩ := hr1
  obtain ⟨t4, hr2⟩ := hr2
  repeat (first | refine st_S rfl rfl rfl rfl rfl ?_ | refine st_P rfl rfl rfl rfl rfl ?_ | refine st_U rfl rfl rfl rfl rfl ?_)
  refine st_load1 rfl rfl rfl rfl rfl rfl hp1 rfl (v := .slice a A.length ca) rfl ?_
  repeat (first | refine st_S rfl rfl rfl rfl rfl ?_ | refine st_P rfl rfl rfl rfl rfl ?_ | refine st_U rfl rfl rfl rfl rfl ?_)
  refine st_load1 rfl rfl rfl rfl rfl rfl hp2 rfl (v := .slice c C.length cc) rfl ?_
  refine st_call _ rfl rfl rfl rfl rfl (divMag_ok k (hA.ext hx1 (show n ≤ n + 1 + 1 + 1 + 1 by omega)) (hC.ext hx1 (show n ≤ n + 1 + 1 + 1 + 1 by omega)) nA nC hC0 hb) ?_
  rintro _ h2 n2 _ ⟨rfl, hn2, hx2, aq, cq, Lq, ar, cr, Lr, rfl, hsq, hsr, nq, nr, vq, vr, fq, fr⟩
  repeat (first | refine st_S rfl rfl rfl rfl rfl ?_ | refine st_P rfl rfl rfl rfl rfl ?_ | refine st_U rfl rfl rfl rfl rfl ?_)
  simp only [NV, reduceIte, Nat.reduceEqDiff, reduceCtorEq, Nat.one_ne_zero, Nat.zero_ne_one]
  refine EC_draw [0, 1, 0, 4, 15, 0, 63, 0, 128, 0, 1023, 2047, 4095] rfl ?_
  have hp1' : h2 (3 * n + 2) = _ := (hx2 _ (by omega)).trans hp1
  have hp2' : h2 (3 * (n + 1) + 2) = _ := (hx2 _ (by omega)).trans hp2
  repeat (first | refine dr_B rfl rfl rfl rfl rfl ?_ | refine dr_S rfl rfl rfl rfl rfl ?_ | refine dr_P rfl rfl rfl rfl rfl ?_)
  refine dr_load rfl rfl rfl rfl rfl rfl (load1_eq rfl hp1' rfl (v := .bool (decide (x < 0))) rfl) rfl rfl ?_
  repeat (first | refine dr_B rfl rfl rfl rfl rfl ?_ | refine dr_S rfl rfl rfl rfl rfl ?_ | refine dr_P rfl rfl rfl rfl rfl ?_)
  refine dr_load rfl rfl rfl rfl rfl rfl (load1_eq rfl hp2' rfl (v := .bool (decide (y < 0))) rfl) rfl rfl ?_
  refine dr_B (a := decide (x < 0) != decide (y < 0)) rfl rfl rfl rfl rfl ?_
  repeat (first | refine dr_B rfl rfl rfl rfl rfl ?_ | refine dr_S rfl rfl rfl rfl rfl ?_ | refine dr_P rfl rfl rfl rfl rfl ?_)
  refine dr_call _ rfl rfl rfl rfl rfl rfl rfl (make1_ok (k + 2) _ _ (decide (x < 0) != decide (y < 0)) aq Lq.length cq) ?_
  rintro _ h3 n3 _ ⟨rfl, rfl, rfl, hx3⟩
  refine ⟨rfl, by omega, ?_⟩
  repeat (first | refine dr_B rfl rfl rfl rfl rfl ?_ | refine dr_S rfl rfl rfl rfl rfl ?_ | refine dr_P rfl rfl rfl rfl rfl ?_)
  refine dr_load rfl rfl rfl rfl rfl rfl (load1_eq rfl hp1' rfl (v := .bool (decide (x < 0))) rfl) (okEffsF_nil (by simp)) rfl ?_
  repeat (first | refine dr_B rfl rfl rfl rfl rfl ?_ | refine dr_S rfl rfl rfl rfl rfl ?_ | refine dr_P rfl rfl rfl rfl rfl ?_)
  refine dr_call _ rfl rfl rfl rfl rfl rfl rfl (make1_ok (k + 2) _ _ (decide (x < 0)) ar Lr.length cr) ?_
  rintro _ h4 n4 _ ⟨rfl, rfl, rfl, hx4⟩
  refine ⟨rfl, by omega, ?_⟩
  have hr1' : h4 (3 * (n + 1 + 1) + 2) = _ := (hx4 _ (by omega)).trans ((hx3 _ (by omega)).trans ((hx2 _ (by omega)).trans hr1))
  have hr2' : h4 (3 * (n + 1 + 1 + 1) + 2) = _ := (hx4 _ (by omega)).trans ((hx3 _ (by omega)).trans ((hx2 _ (by omega)).trans hr2))
  refine dr_storeN (cs := [.bool ((decide (x < 0) != decide (y < 0)) && decide (0 < Lq.length)), .slice aq Lq.length cq]) rfl rfl rfl rfl rfl rfl rfl rfl hr1' (Nat.le_of_ble_eq_true rfl) (by show 3 * n ≤ _; omega) rfl rfl rfl ?_
  refine dr_storeN (cs := [.bool (decide (x < 0) && decide (0 < Lr.length)), .slice ar Lr.length cr]) rfl rfl rfl rfl rfl rfl rfl rfl ((upd_ne (by omega)).trans hr2') (Nat.le_of_ble_eq_true rfl) (by show 3 * n ≤ _; omega) rfl rfl rfl ?_
  simp only [NV, reduceIte, Nat.reduceEqDiff, reduceCtorEq, Nat.one_ne_zero, Nat.zero_ne_one]
  have hext : Ext n h (upd (upd h4 (3 * (n + 1 + 1) + 2) (some (.row [.bool ((decide (x < 0) != decide (y < 0)) && decide (0 < Lq.length)), .slice aq Lq.length cq] t3))) (3 * (n + 1 + 1 + 1) + 2) (some (.row [.bool (decide (x < 0) && decide (0 < Lr.length)), .slice ar Lr.length cr] t4))) := fun b hb => by
    rw [upd_ne (by omega), upd_ne (by omega), hx4 b (by omega), hx3 b (by omega), hx2 b (by omega)]; exact hx1 b hb
  refine retCell2 rfl rfl rfl rfl rfl rfl rfl rfl ((upd_ne (by omega)).trans (upd_same _ _ _)) (upd_same _ _ _) rfl rfl ⟨rfl, by show n ≤ n2 + 1 + 1; omega, hext, _, _, _, _, Lq, Lr, rfl, ?_, ?_, ?_, ?_⟩
  · refine mk1_int (((((hsq.ext hx3 (Nat.le_succ _)).ext hx4 (Nat.le_succ _)).old fq (by omega)).old fq (by omega))) nq ?_ fun h0 => ?_
    · rw [vq, vA, vC, Int.natAbs_tdiv]; rfl
    · by_cases hx0 : x < 0 <;> by_cases hy0 : y < 0
      · rw [decide_eq_true hx0, decide_eq_true hy0, decide_eq_false (by have := Int.tdiv_nonneg_of_nonpos_of_nonpos (a := x) (b := y) (by omega) (by omega); omega)]; rfl
      · have h1 := Int.tdiv_nonneg (a := -x) (b := y) (by omega) (by omega)
        rw [Int.neg_tdiv] at h1
        rw [decide_eq_true hx0, decide_eq_false hy0, decide_eq_true (by omega)]; rfl
      · have h1 := Int.tdiv_nonneg (a := x) (b := -y) (by omega) (by omega)
        rw [Int.tdiv_neg] at h1
        rw [decide_eq_false hx0, decide_eq_true hy0, decide_eq_true (by omega)]; rfl
      · rw [decide_eq_false hx0, decide_eq_false hy0, decide_eq_false (by have := Int.tdiv_nonneg (a := x) (b := y) (by omega) (by omega); omega)]; rfl
  · refine mk1_int (((((hsr.ext hx3 (Nat.le_succ _)).ext hx4 (Nat.le_succ _)).old fr (by omega)).old fr (by omega))) nr ?_ fun h0 => ?_
    · rw [vr, vA, vC, Int.natAbs_tmod]
    · by_cases hx0 : x < 0
      · have h1 := Int.tmod_nonneg (a := -x) y (by omega)
        rw [Int.neg_tmod] at h1
        rw [decide_eq_true hx0, decide_eq_true (by omega)]
      · rw [decide_eq_false hx0, decide_eq_false (by have := Int.tmod_nonneg (a := x) y (by omega); omega)]
  · exact fq.mono (by omega)
  · exact fr.mono (by omega)
end Go.Proofs.YtokfihhdllmbmaaGreatDoor
namespace Go.Proofs.YtokfihhdllmbmaaGreatDoor
open Go Go.GL
def EuI (m x y : Nat) : Prop := if m % 2 = 0 then y < 2 ^ (m / 2) else x < 2 ^ (m / 2 + 1) ∧ y < x
theorem EuI.pos {m x y : Nat} (h : EuI m x y) (hy : 0 < y) : 0 < m := by
  apply Classical.byContradiction
  intro hm
  have : m = 0 := by omega
  subst this
  unfold EuI at h
  simp at h
  omega
theorem mod_half {x y : Nat} (hy : 0 < y) (h : y < x) : 2 * (x % y) < x := by
  have h1 := Nat.mod_lt x hy
  have h2 := Nat.div_add_mod x y
  have h3 : 1 ≤ x / y := (Nat.le_div_iff_mul_le hy).2 (by omega)
  have h4 : y * 1 ≤ y * (x / y) := Nat.mul_le_mul_left y h3
  omega
theorem EuI.next {m x y : Nat} (h : EuI (m + 1) x y) (hy : 0 < y) : EuI m y (x % y) := by
  unfold EuI at h ⊢
  by_cases hm : (m + 1) % 2 = 0
  · rw [if_pos hm] at h
    rw [if_neg (by omega)]
    rw [show m / 2 + 1 = (m + 1) / 2 from by omega]
    exact ⟨h, Nat.mod_lt x hy⟩
  · rw [if_neg hm] at h
    rw [if_pos (by omega)]
    have h1 := mod_half hy h.2
    rw [show (m + 1) / 2 + 1 = m / 2 + 1 from by omega, Nat.pow_succ] at h
    omega
def Off (b : Nat) : Value → Prop
  | .slice (some a) _ _ => a.block ≠ b
  | _ => True
theorem Sl.off {h : HF} {n sz b : Nat} {v : Value} {c : List Value} {x : Option BF} (s : Sl h n sz v c) (ho : Off b v) : Sl (upd h b x) n sz v c :=
  s.keep (fun a l cap e => by subst e; exact upd_ne ho) (Nat.le_refl _)
theorem Below.off {m b : Nat} {v : Value} (h : Below m v) (hb : 3 * m ≤ b) : Off b v := by
  unfold Below at h
  unfold Off
  split <;> simp_all
  omega
theorem Fresh.off {m b : Nat} {v : Value} (h : Fresh m v) (hb : b < 3 * m) : Off b v := by
  unfold Fresh at h
  unfold Off
  split <;> simp_all
  omega
set_option maxHeartbeats 1000000
theorem gcd_ok (k : Nat) {h : HF} {n : Nat} {c1 c2 d1 d2 : Value} {x y : Int} {A C : List Nat} (hx : IntR h n c1 c2 x A) (hy : IntR h n d1 d2 y C) (hb : A.length < 1000000000 ∧ C.length < 1000000000) :
    CF (cal (k + 4)) 154 [.agg #[c1, c2], .agg #[d1, d2]] h n fun v h' n' w => w = [] ∧ n ≤ n' ∧ Ext n h h' ∧ ∃ g1 g2 L, v = .agg #[g1, g2] ∧ IntR h' n' g1 g2 ((Nat.gcd x.natAbs y.natAbs : Nat) : Int) L ∧ L.length < 1000000000 ∧ ∀ b, b < 3 * n → Off b c2 → Off b d2 → Off b g2 := by
  refine CF_heap (fn := Tryz.f154) rfl rfl rfl rfl ?_
  obtain ⟨rfl, hA, nA, vA⟩ := hx
  obtain ⟨rfl, hC, nC, vC⟩ := hy
  obtain ⟨a, la, ca, rfl, _⟩ := hA.len
  obtain ⟨c, lc, cc, rfl, _⟩ := hC.len
  have e1 := hA.lenU
  have e2 := hC.lenU
  subst e1 e2
  simp only [NV, reduceIte, Nat.reduceEqDiff, reduceCtorEq, Nat.one_ne_zero, Nat.zero_ne_one]
  refine st_mkp (cs := [.bool (decide (x < 0)), .slice a A.length ca]) rfl rfl rfl rfl rfl ?_
  refine st_mkp (cs := [.bool (decide (y < 0)), .slice c C.length cc]) rfl rfl rfl rfl rfl ?_
  refine st_alloc rfl rfl rfl rfl rfl ?_
  simp only [NV, reduceIte, Nat.reduceEqDiff, reduceCtorEq, Nat.one_ne_zero, Nat.zero_ne_one]
  generalize hh : upd (upd (upd h (3 * n + 2) _) (3 * (n + 1) + 2) _) (3 * (n + 1 + 1) + 2) _ = h1
  have hp1 : ∃ e, h1 (3 * n + 2) = some (.row [.bool (decide (x < 0)), .slice a A.length ca] e) := ⟨_, by rw [← hh, upd_ne (by omega), upd_ne (by omega), upd_same]⟩
  have hp2 : ∃ e, h1 (3 * (n + 1) + 2) = some (.row [.bool (decide (y < 0)), .slice c C.length cc] e) := ⟨_, by rw [← hh, upd_ne (by omega), upd_same]⟩
  have hr1 : ∃ e, h1 (3 * (n + 1 + 1) + 2) = some (.row [.bool false, .slice none 0 0] e) := ⟨_, by rw [← hh, upd_same]; rfl⟩
  have hx1 : Ext n h h1 := by rw [← hh]; intro b hb; rw [upd_ne (by omega), upd_ne (by omega), upd_ne (by omega)]
  obtain ⟨t1, hp1⟩ := hp1
  obtain ⟨t2, hp2⟩ := hp2
  obtain ⟨t3, hr1⟩ := hr1
  rw [EC_quietC rfl]
  repeat (first | refine st_gtT rfl rfl rfl rfl rfl rfl (by omega) ?_ | refine st_gt rfl rfl rfl rfl rfl rfl ?_ | refine st_I rfl rfl rfl rfl rfl ?_ | refine st_S rfl rfl rfl rfl rfl ?_ | refine st_P rfl rfl rfl rfl rfl ?_ | refine st_U rfl rfl rfl rfl rfl ?_)
  refine st_load1 rfl rfl rfl rfl rfl rfl hp1 rfl (v := .slice a A.length ca) rfl ?_
  repeat (first | refine st_gtT rfl rfl rfl rfl rfl rfl (by omega) ?_ | refine st_gt rfl rfl rfl rfl rfl rfl ?_ | refine st_I rfl rfl rfl rfl rfl ?_ | refine st_S rfl rfl rfl rfl rfl ?_ | refine st_P rfl rfl rfl rfl rfl ?_ | refine st_U rfl rfl rfl rfl rfl ?_)
  refine st_load1 rfl rfl rfl rfl rfl rfl hp2 rfl (v := .slice c C.length cc) rfl ?_
  repeat (first | refine st_gtT rfl rfl rfl rfl rfl rfl (by omega) ?_ | refine st_gt rfl rfl rfl rfl rfl rfl ?_ | refine st_I rfl rfl rfl rfl rfl ?_ | refine st_S rfl rfl rfl rfl rfl ?_ | refine st_P rfl rfl rfl rfl rfl ?_ | refine st_U rfl rfl rfl rfl rfl ?_)
  simp only [NV, reduceIte, Nat.reduceEqDiff, reduceCtorEq, Nat.one_ne_zero, Nat.zero_ne_one]
  refine EC_for (α := (Option Addr × Nat × List Nat) × (Option Addr × Nat × List Nat) × Nat) (fun z => [(4, .pointer (some ⟨3 * (n + 1 + 1) + 2, 0, none⟩)), (5, .slice z.1.1 z.1.2.2.length z.1.2.1), (6, .slice z.2.1.1 z.2.1.2.2.length z.2.1.2.1)])
    (fun z h' n' w' => n + 1 + 1 + 1 ≤ n' ∧ w' = [] ∧ Ext (n + 1 + 1 + 1) h1 h' ∧ Sl h' n' 1 (.slice z.1.1 z.1.2.2.length z.1.2.1) (u32s z.1.2.2) ∧ Sl h' n' 1 (.slice z.2.1.1 z.2.1.2.2.length z.2.1.2.1) (u32s z.2.1.2.2) ∧ Norm z.1.2.2 ∧ Norm z.2.1.2.2 ∧ z.1.2.2.length < 1000000000 ∧ z.2.1.2.2.length < 1000000000 ∧ EuI z.2.2 (val z.1.2.2) (val z.2.1.2.2) ∧ Nat.gcd (val z.1.2.2) (val z.2.1.2.2) = Nat.gcd x.natAbs y.natAbs ∧ (∀ b, b < 3 * (n + 1 + 1 + 1) → Off b (.slice a A.length ca) → Off b (.slice c C.length cc) → Off b (.slice z.1.1 z.1.2.2.length z.1.2.1)) ∧ (∀ b, b < 3 * (n + 1 + 1 + 1) → Off b (.slice a A.length ca) → Off b (.slice c C.length cc) → Off b (.slice z.2.1.1 z.2.1.2.2.length z.2.1.2.1))) (fun z => z.2.2)
    ((a, ca, A), (c, cc, C), 2 * (32 * C.length)) ⟨rfl, rfl, rfl, trivial⟩ ⟨by show n + 1 + 1 + 1 ≤ n + 1 + 1 + 1; omega, rfl, Ext.refl _ _, hA.ext hx1 (show n ≤ n + 1 + 1 + 1 by omega), hC.ext hx1 (show n ≤ n + 1 + 1 + 1 by omega), nA, nC, hb.1, hb.2, ?_, by rw [vA, vC], fun _ _ h1 _ => h1, fun _ _ _ h2 => h2⟩ (by show 2 * (32 * C.length) < LL; unfold LL; omega) ?_
  · show EuI (2 * (32 * C.length)) (val A) (val C)
    unfold EuI
    rw [if_pos (by omega), show 2 * (32 * C.length) / 2 = 32 * C.length from by omega, Nat.pow_mul]
    exact val_lt nC.1
  rintro ⟨⟨a', ca', A'⟩, ⟨c', cc', C'⟩, m⟩ t h2 n2 _ ⟨hn2, rfl, hx2, hA', hC', nA', nC', bA', bC', hm, hg, oA, oC⟩
  simp only at hA' hC' nA' nC' bA' bC' hm hg oA oC
  simp only [NV, reduceIte, Nat.reduceEqDiff, reduceCtorEq, Nat.one_ne_zero, Nat.zero_ne_one]
  by_cases hC0 : C' = []
  · subst hC0
    repeat (first | refine st_gtT rfl rfl rfl rfl rfl rfl (by omega) ?_ | refine st_gt rfl rfl rfl rfl rfl rfl ?_ | refine st_I rfl rfl rfl rfl rfl ?_ | refine st_S rfl rfl rfl rfl rfl ?_ | refine st_P rfl rfl rfl rfl rfl ?_ | refine st_U rfl rfl rfl rfl rfl ?_)
    simp only [NV, reduceIte, Nat.reduceEqDiff, reduceCtorEq, Nat.one_ne_zero, Nat.zero_ne_one]
    rw [EC_cond_false rfl]
    simp only [NV, reduceIte, Nat.reduceEqDiff, reduceCtorEq, Nat.one_ne_zero, Nat.zero_ne_one]
    repeat (first | refine st_gtT rfl rfl rfl rfl rfl rfl (by omega) ?_ | refine st_gt rfl rfl rfl rfl rfl rfl ?_ | refine st_I rfl rfl rfl rfl rfl ?_ | refine st_S rfl rfl rfl rfl rfl ?_ | refine st_P rfl rfl rfl rfl rfl ?_ | refine st_U rfl rfl rfl rfl rfl ?_)
    refine st_call _ rfl rfl rfl rfl rfl (make1_ok (k + 2) _ _ false a' A'.length ca') ?_
    rintro _ h3 n3 _ ⟨rfl, rfl, rfl, hx3⟩
    refine st_storeW [.bool (false && decide (0 < A'.length)), .slice a' A'.length ca'] rfl rfl rfl rfl rfl rfl rfl rfl (by rw [hx3 _ (by omega), hx2 _ (by omega)]; exact hr1) rfl (by show 3 * n ≤ _; omega) ?_
    simp only [NV, reduceIte, Nat.reduceEqDiff, reduceCtorEq, Nat.one_ne_zero, Nat.zero_ne_one]
    have hext : Ext n h (upd h3 (3 * (n + 1 + 1) + 2) (some (.row [.bool (false && decide (0 < A'.length)), .slice a' A'.length ca'] t3))) := fun b hb => by rw [upd_ne (by omega), hx3 b (by omega), hx2 b (by omega)]; exact hx1 b hb
    refine retCell rfl rfl rfl rfl rfl (upd_same _ _ _) rfl ⟨rfl, by show n ≤ n2 + 1; omega, hext, _, _, A', rfl, mk1_int ((hA'.ext hx3 (Nat.le_succ _)).off (oA _ (by omega) (hA.below.off (by omega)) (hC.below.off (by omega)))) nA' ?_ (fun h0 => ?_), bA', fun b hb => oA b (by omega)⟩
    · rw [← hg]; simp [val]
    · rw [decide_eq_false (by omega)]
  · have hl0 : 0 < C'.length := List.length_pos_iff.2 hC0
    have hpos := nC'.pos hC0
    repeat (first | refine st_gtT rfl rfl rfl rfl rfl rfl (by omega) ?_ | refine st_gt rfl rfl rfl rfl rfl rfl ?_ | refine st_I rfl rfl rfl rfl rfl ?_ | refine st_S rfl rfl rfl rfl rfl ?_ | refine st_P rfl rfl rfl rfl rfl ?_ | refine st_U rfl rfl rfl rfl rfl ?_)
    simp only [NV, reduceIte, Nat.reduceEqDiff, reduceCtorEq, Nat.one_ne_zero, Nat.zero_ne_one]
    rw [EC_cond_true rfl]
    simp only [NV, reduceIte, Nat.reduceEqDiff, reduceCtorEq, Nat.one_ne_zero, Nat.zero_ne_one]
    repeat (first | refine st_gtT rfl rfl rfl rfl rfl rfl (by omega) ?_ | refine st_gt rfl rfl rfl rfl rfl rfl ?_ | refine st_I rfl rfl rfl rfl rfl ?_ | refine st_S rfl rfl rfl rfl rfl ?_ | refine st_P rfl rfl rfl rfl rfl ?_ | refine st_U rfl rfl rfl rfl rfl ?_)
    refine st_call _ rfl rfl rfl rfl rfl (divMag_ok k hA' hC' nA' nC' hC0 bA') ?_
    rintro _ h3 n3 _ ⟨rfl, hn3, hx3, aq, cq, Lq, ar, cr, Lr, rfl, hsq, hsr, nq, nr, vq, vr, fq, fr⟩
    repeat (first | refine st_gtT rfl rfl rfl rfl rfl rfl (by omega) ?_ | refine st_gt rfl rfl rfl rfl rfl rfl ?_ | refine st_I rfl rfl rfl rfl rfl ?_ | refine st_S rfl rfl rfl rfl rfl ?_ | refine st_P rfl rfl rfl rfl rfl ?_ | refine st_U rfl rfl rfl rfl rfl ?_)
    simp only [NV, reduceIte, Nat.reduceEqDiff, reduceCtorEq, Nat.one_ne_zero, Nat.zero_ne_one]
    repeat (first | refine st_gtT rfl rfl rfl rfl rfl rfl (by omega) ?_ | refine st_gt rfl rfl rfl rfl rfl rfl ?_ | refine st_I rfl rfl rfl rfl rfl ?_ | refine st_S rfl rfl rfl rfl rfl ?_ | refine st_P rfl rfl rfl rfl rfl ?_ | refine st_U rfl rfl rfl rfl rfl ?_)
    simp only [NV, reduceIte, Nat.reduceEqDiff, reduceCtorEq, Nat.one_ne_zero, Nat.zero_ne_one]
    have hm0 := hm.pos hpos
    obtain ⟨m', rfl⟩ : ∃ m', m = m' + 1 := ⟨m - 1, by omega⟩
    have hlr : Lr.length ≤ C'.length := nC'.len_le nr (by rw [vr]; exact Nat.le_of_lt (Nat.mod_lt _ hpos))
    refine goOn ((c', cc', C'), (ar, cr, Lr), m') (by show m' < m' + 1; omega) ⟨rfl, rfl, rfl, trivial⟩ ⟨by show n + 1 + 1 + 1 ≤ n3; omega, rfl, hx2.trans hx3 hn2, hC'.ext hx3 hn3, hsr, nC', nr, bC', by show Lr.length < 1000000000; omega, ?_, ?_, oC, fun b hb _ _ => fr.off (by omega)⟩
    · show EuI m' (val C') (val Lr)
      rw [vr]
      exact hm.next hpos
    · show Nat.gcd (val C') (val Lr) = _
      rw [vr, ← hg, Nat.gcd_comm (val C'), ← Nat.gcd_rec, Nat.gcd_comm]
end Go.Proofs.YtokfihhdllmbmaaGreatDoor
namespace Go.Proofs.YtokfihhdllmbmaaGreatDoor
open Go Go.GL
theorem IntR.off {h : HF} {n b : Nat} {c1 c2 : Value} {x : Int} {l : List Nat} {y : Option BF} (r : IntR h n c1 c2 x l) (ho : Off b c2) : IntR (upd h b y) n c1 c2 x l := ⟨r.neg, r.sl.off ho, r.norm, r.val⟩
theorem IntR.len_le {h h' : HF} {n n' : Nat} {c1 c2 d1 d2 : Value} {x y : Int} {l l' : List Nat} (r : IntR h n c1 c2 x l) (r' : IntR h' n' d1 d2 y l') (hle : y.natAbs ≤ x.natAbs) : l'.length ≤ l.length := r.norm.len_le r'.norm (by rw [r.val, r'.val]; exact hle)
theorem IntR.ones {h : HF} {n : Nat} {c1 c2 : Value} {x : Int} {l : List Nat} (r : IntR h n c1 c2 x l) : ones [c1, c2] = true := by
  rw [r.neg]
  show GL.ones (c2 :: _) = true
  rw [r.sl.ones]
  rfl
def Away (n : Nat) (c0 v : Value) : Prop := (v = c0 ∧ Below n v) ∨ Fresh (n + 1 + 1 + 1) v
theorem Away.off {n b : Nat} {c0 v : Value} (h : Away n c0 v) (h1 : 3 * n ≤ b) (h2 : b < 3 * (n + 1 + 1 + 1)) : Off b v := by
  rcases h with h | h
  · exact h.2.off h1
  · exact h.off h2
theorem Away.or {n : Nat} {c0 v : Value} (h : Away n c0 v) : v = c0 ∨ Fresh n v := by
  rcases h with h | h
  · exact .inl h.1
  · exact .inr (h.mono (by omega))
structure FrS (n : Nat) (c0 d0 : Value) (h h' : HF) (n' : Nat) (c1 c2 d1 d2 : Value) (x y : Int) (A C : List Nat) : Prop where
  n3 : n + 1 + 1 + 1 ≤ n'
  ext : Ext n h h'
  b2 : ∃ e, h' (3 * n + 2) = some (.row [c1, c2] e)
  b3 : ∃ e, h' (3 * (n + 1) + 2) = some (.row [d1, d2] e)
  b4 : ∃ e, h' (3 * (n + 1 + 1) + 2) = some (.row [.bool false, .slice none 0 0, .bool false, .slice none 0 0] e)
  ix : IntR h' n' c1 c2 x A
  iy : IntR h' n' d1 d2 y C
  ox : Away n c0 c2
  oy : Away n d0 d2
theorem FrS.exts {n : Nat} {c0 d0 : Value} {h h' h'' : HF} {n' n'' : Nat} {c1 c2 d1 d2 : Value} {x y : Int} {A C : List Nat} (s : FrS n c0 d0 h h' n' c1 c2 d1 d2 x y A C) (hx : Ext n' h' h'') (hn : n' ≤ n'') : FrS n c0 d0 h h'' n'' c1 c2 d1 d2 x y A C := by
  obtain ⟨n3, ext, ⟨e2, b2⟩, ⟨e3, b3⟩, ⟨e4, b4⟩, ix, iy, ox, oy⟩ := s
  exact ⟨by omega, ext.trans hx (by omega), ⟨e2, by rw [hx _ (by omega)]; exact b2⟩, ⟨e3, by rw [hx _ (by omega)]; exact b3⟩, ⟨e4, by rw [hx _ (by omega)]; exact b4⟩, ix.ext hx hn, iy.ext hx hn, ox, oy⟩
theorem FrS.putx {n : Nat} {c0 d0 : Value} {h h' : HF} {n' : Nat} {c1 c2 d1 d2 : Value} {x y : Int} {A C : List Nat} (s : FrS n c0 d0 h h' n' c1 c2 d1 d2 x y A C) {u1 u2 : Value} {x' : Int} {A' : List Nat} (i : IntR h' n' u1 u2 x' A') (o : Away n c0 u2) (e : TypeId) : FrS n c0 d0 h (upd h' (3 * n + 2) (some (.row [u1, u2] e))) n' u1 u2 d1 d2 x' y A' C := by
  obtain ⟨n3, ext, ⟨e2, b2⟩, ⟨e3, b3⟩, ⟨e4, b4⟩, ix, iy, ox, oy⟩ := s
  exact ⟨by omega, fun b hb => by rw [upd_ne (by omega)]; exact ext b hb, ⟨e, upd_same _ _ _⟩, ⟨e3, by rw [upd_ne (by omega)]; exact b3⟩, ⟨e4, by rw [upd_ne (by omega)]; exact b4⟩, i.off (o.off (by omega) (by omega)), iy.off (oy.off (by omega) (by omega)), o, oy⟩
theorem FrS.puty {n : Nat} {c0 d0 : Value} {h h' : HF} {n' : Nat} {c1 c2 d1 d2 : Value} {x y : Int} {A C : List Nat} (s : FrS n c0 d0 h h' n' c1 c2 d1 d2 x y A C) {u1 u2 : Value} {y' : Int} {C' : List Nat} (i : IntR h' n' u1 u2 y' C') (o : Away n d0 u2) (e : TypeId) : FrS n c0 d0 h (upd h' (3 * (n + 1) + 2) (some (.row [u1, u2] e))) n' c1 c2 u1 u2 x y' A C' := by
  obtain ⟨n3, ext, ⟨e2, b2⟩, ⟨e3, b3⟩, ⟨e4, b4⟩, ix, iy, ox, oy⟩ := s
  exact ⟨by omega, fun b hb => by rw [upd_ne (by omega)]; exact ext b hb, ⟨e2, by rw [upd_ne (by omega)]; exact b2⟩, ⟨e, upd_same _ _ _⟩, ⟨e4, by rw [upd_ne (by omega)]; exact b4⟩, ix.off (ox.off (by omega) (by omega)), i.off (o.off (by omega) (by omega)), ox, o⟩
theorem fr_num {x y : Int} (hy : 0 < y) : (Rat.divInt x y).num = x / ((Nat.gcd x.natAbs y.natAbs : Nat) : Int) := by
  rw [Rat.num_divInt, Int.sign_eq_one_of_pos hy, Int.one_mul]
  unfold Int.gcd
  rw [Nat.gcd_comm]
theorem fr_den {x y : Int} (hy : 0 < y) : (Rat.divInt x y).den = y.natAbs / Nat.gcd x.natAbs y.natAbs := by
  rw [Rat.den_divInt, if_neg (by omega)]
  unfold Int.gcd
  rw [Nat.gcd_comm]
theorem gcd_tdiv {x : Int} {g : Nat} (h : g ∣ x.natAbs) : x.tdiv (g : Int) = x / (g : Int) := Int.tdiv_eq_ediv_of_dvd (Int.ofNat_dvd_left.2 h)
theorem ediv_abs {y : Int} (h : 0 < y) (g : Nat) : y / (g : Int) = ((y.natAbs / g : Nat) : Int) := by
  obtain ⟨m, rfl⟩ : ∃ m : Nat, y = m := ⟨y.natAbs, by omega⟩
  rw [Int.natAbs_natCast]
  rfl
structure DenR (h : HF) (n : Nat) (d1 d2 : Value) (q : Nat) (ld : List Nat) : Prop where
  neg : d1 = .bool false
  sl : Sl h n 1 d2 (u32s ld)
  norm : Norm ld
  val : val ld = if q = 1 then 0 else q
set_option maxHeartbeats 1000000
theorem frac_ok (k : Nat) {h : HF} {n : Nat} {c1 c2 d1 d2 : Value} {x y : Int} {A C : List Nat} (hx : IntR h n c1 c2 x A) (hy : IntR h n d1 d2 y C) (hy0 : y ≠ 0) (hb : A.length < 1000000000 ∧ C.length < 1000000000) :
    CF (cal (k + 5)) 101 [.agg #[c1, c2], .agg #[d1, d2]] h n fun v h' n' w => w = [] ∧ n ≤ n' ∧ Ext n h h' ∧ ∃ u1 u2 e1 e2 ln ld, v = .agg #[u1, u2, e1, e2] ∧ RatR h' n' u1 u2 e1 e2 (Rat.divInt x y) ln ld ∧ ln.length ≤ A.length ∧ ld.length ≤ C.length ∧ (u2 = c2 ∨ Fresh n u2) ∧ (e2 = d2 ∨ Fresh n e2) := by
  refine CF_heap (fn := Tryz.f101) rfl rfl rfl rfl ?_
  obtain ⟨q, hq⟩ : ∃ q, q = Rat.divInt x y := ⟨_, rfl⟩
  rw [← hq]
  simp only [NV, reduceIte, Nat.reduceEqDiff, reduceCtorEq, Nat.one_ne_zero, Nat.zero_ne_one]
  refine st_mkp (cs := [c1, c2]) rfl rfl rfl rfl rfl ?_
  refine st_mkp (cs := [d1, d2]) rfl rfl rfl rfl rfl ?_
  refine st_alloc rfl rfl rfl rfl rfl ?_
  simp only [NV, reduceIte, Nat.reduceEqDiff, reduceCtorEq, Nat.one_ne_zero, Nat.zero_ne_one]
  generalize hh : upd (upd (upd h (3 * n + 2) _) (3 * (n + 1) + 2) _) (3 * (n + 1 + 1) + 2) _ = h1
  have hx1 : Ext n h h1 := by rw [← hh]; intro b hb; rw [upd_ne (by omega), upd_ne (by omega), upd_ne (by omega)]
  have S1 : FrS n c2 d2 h h1 (n + 1 + 1 + 1) c1 c2 d1 d2 x y A C := ⟨Nat.le_refl _, hx1, ⟨_, by rw [← hh, upd_ne (by omega), upd_ne (by omega), upd_same]⟩, ⟨_, by rw [← hh, upd_ne (by omega), upd_same]⟩, ⟨_, by rw [← hh, upd_same]; rfl⟩, hx.ext hx1 (by omega), hy.ext hx1 (by omega), .inl ⟨rfl, hx.sl.below⟩, .inl ⟨rfl, hy.sl.below⟩⟩
  clear hh
  obtain ⟨ty2, hp2⟩ := S1.b2
  obtain ⟨ty3, hp3⟩ := S1.b3
  repeat (first | refine st_gt rfl rfl rfl rfl rfl rfl ?_ | refine st_eq rfl rfl rfl rfl rfl rfl ?_ | refine st_P rfl rfl rfl rfl rfl ?_ | refine st_A rfl rfl rfl rfl rfl ?_ | refine st_U rfl rfl rfl rfl rfl ?_ | refine st_val (v := .pointer none) rfl rfl rfl rfl rfl ?_)
  refine st_load1 rfl rfl rfl rfl rfl rfl hp3 rfl (v := d1) rfl ?_
  simp only [NV, reduceIte, Nat.reduceEqDiff, reduceCtorEq, Nat.one_ne_zero, Nat.zero_ne_one]
  refine EC_cutx (α := (Value × Value) × Int × Int) (fun _ => [(2, .pointer (some ⟨3 * n + 2, 0, none⟩)), (3, .pointer (some ⟨3 * (n + 1) + 2, 0, none⟩)), (4, .pointer (some ⟨3 * (n + 1 + 1) + 2, 0, none⟩))]) (fun z h' n' w => w = [] ∧ FrS n c2 d2 h h' n' z.1.1 c2 z.1.2 d2 z.2.1 z.2.2 A C ∧ 0 < z.2.2 ∧ Rat.divInt z.2.1 z.2.2 = q) ?_ ?_
  · by_cases hn : y < 0
    · rw [EC_cond_true (by show d1 = _; rw [hy.neg, decide_eq_true hn])]
      refine EC_draw [0, 1, 0, 7, 15, 31] rfl ?_
      refine dr_load (v := .agg #[c1, c2]) rfl rfl rfl rfl rfl rfl (loadn_eq rfl rfl hp2 rfl (Nat.le_of_ble_eq_true rfl) rfl) rfl rfl ?_
      refine dr_call _ rfl rfl rfl rfl rfl rfl rfl (neg_ok (k + 2) S1.ix) ?_
      rintro _ h2 n2 _ ⟨rfl, hn2, hx2, u1, rfl, i1⟩
      refine ⟨rfl, hn2, ?_⟩
      refine dr_load (v := .agg #[d1, d2]) rfl rfl rfl rfl rfl rfl (loadn_eq rfl rfl hp3 rfl (Nat.le_of_ble_eq_true rfl) rfl) (okEffsF_nil (by simp)) rfl ?_
      refine dr_call _ rfl rfl rfl rfl rfl rfl rfl (neg_ok (k + 2) (S1.iy.ext hx2 hn2)) ?_
      rintro _ h3 n3 _ ⟨rfl, hn3, hx3, v1, rfl, i2⟩
      refine ⟨rfl, hn3, ?_⟩
      have S3 := (S1.exts hx2 hn2).exts hx3 hn3
      have i1' := i1.ext hx3 hn3
      obtain ⟨e2, hq2⟩ := S3.b2
      refine dr_storeN (cs := [u1, c2]) rfl rfl rfl rfl rfl rfl rfl i1.ones hq2 (Nat.le_of_ble_eq_true rfl) (by show 3 * n ≤ _; omega) rfl rfl rfl ?_
      have S4 := S3.putx i1' S3.ox e2
      obtain ⟨e3, hq3⟩ := S4.b3
      refine dr_storeN (cs := [v1, d2]) rfl rfl rfl rfl rfl rfl rfl i2.ones hq3 (Nat.le_of_ble_eq_true rfl) (by show 3 * n ≤ _; omega) rfl rfl rfl ?_
      have S5 := S4.puty (i2.off (S4.oy.off (by omega) (by omega))) S4.oy e3
      simp only [NV, reduceIte, Nat.reduceEqDiff, reduceCtorEq, Nat.one_ne_zero, Nat.zero_ne_one]
      exact ⟨((u1, v1), -x, -y), ⟨rfl, rfl, rfl, trivial⟩, rfl, S5, by show 0 < -y; omega, by show Rat.divInt (-x) (-y) = q; rw [Rat.divInt_neg', Int.neg_neg, hq]⟩
    · rw [EC_cond_false (by show d1 = _; rw [hy.neg, decide_eq_false hn])]
      simp only [NV, reduceIte, Nat.reduceEqDiff, reduceCtorEq, Nat.one_ne_zero, Nat.zero_ne_one]
      exact ⟨((c1, d1), x, y), ⟨rfl, rfl, rfl, trivial⟩, rfl, S1, by show 0 < y; omega, hq.symm⟩
  clear hp2 hp3 S1 hx1 h1
  rintro ⟨⟨u1, v1⟩, x', y'⟩ t h1 n1 _ ⟨rfl, S, hy', hq'⟩
  simp only at S hy' hq'
  have hqn := fr_num (x := x') hy'
  have hqd := fr_den (x := x') hy'
  rw [hq'] at hqn hqd
  simp only [NV, reduceIte, Nat.reduceEqDiff, reduceCtorEq, Nat.one_ne_zero, Nat.zero_ne_one]
  obtain ⟨ty2, hp2⟩ := S.b2
  obtain ⟨ty3, hp3⟩ := S.b3
  refine st_load (v := .agg #[u1, c2]) rfl rfl rfl rfl rfl (loadn_eq rfl rfl hp2 rfl (Nat.le_of_ble_eq_true rfl) rfl) ?_
  refine st_load (v := .agg #[v1, d2]) rfl rfl rfl rfl rfl (loadn_eq rfl rfl hp3 rfl (Nat.le_of_ble_eq_true rfl) rfl) ?_
  refine st_call _ rfl rfl rfl rfl rfl (gcd_ok k S.ix S.iy hb) ?_
  rintro _ h2 n2 _ ⟨rfl, hn2, hx2, g1, g2, G, rfl, ig, bG, og⟩
  generalize hg : Nat.gcd x'.natAbs y'.natAbs = g at *
  refine st_alloc rfl rfl rfl rfl rfl ?_
  refine st_storeW [g1, g2] rfl rfl rfl rfl rfl rfl rfl ig.ones (upd_same _ _ _) rfl (by show 3 * n ≤ _; have := S.n3; omega) ?_
  rw [upd_upd]
  have S2 := S.exts hx2 hn2
  generalize hh : upd h2 (3 * n2 + 2) _ = h3
  have hx3 : Ext n2 h2 h3 := by rw [← hh]; exact Ext.upd (by omega)
  have hpg : ∃ e, h3 (3 * n2 + 2) = some (.row [g1, g2] e) := ⟨_, by rw [← hh, upd_same]⟩
  clear hh
  obtain ⟨tg, hpg⟩ := hpg
  have S3 := S2.exts hx3 (Nat.le_succ _)
  have ig3 := ig.ext hx3 (Nat.le_succ _)
  simp only [NV, reduceIte, Nat.reduceEqDiff, reduceCtorEq, Nat.one_ne_zero, Nat.zero_ne_one]
  refine st_load (v := .agg #[g1, g2]) rfl rfl rfl rfl rfl (loadn_eq rfl rfl hpg rfl (Nat.le_of_ble_eq_true rfl) rfl) ?_
  refine st_vf _ rfl rfl rfl rfl rfl (bits_ok (k + 3) ig3 bG) ?_
  rintro _ ⟨b, rfl, hb0, hb1⟩
  rw [Int.natAbs_natCast] at hb0 hb1
  have hgpos : 0 < g := by rw [← hg]; exact Nat.gcd_pos_of_pos_right _ (by omega)
  have hgx : g ∣ x'.natAbs := by rw [← hg]; exact Nat.gcd_dvd_left _ _
  have hgy : g ∣ y'.natAbs := by rw [← hg]; exact Nat.gcd_dvd_right _ _
  refine st_gt rfl rfl rfl rfl rfl rfl ?_
  simp only [NV, reduceIte, Nat.reduceEqDiff, reduceCtorEq, Nat.one_ne_zero, Nat.zero_ne_one]
  have hn3 := S3.n3
  refine EC_cutx (α := (Value × Value × Value × Value) × List Nat × List Nat) (fun _ => [(2, .pointer (some ⟨3 * n + 2, 0, none⟩)), (3, .pointer (some ⟨3 * (n + 1) + 2, 0, none⟩)), (4, .pointer (some ⟨3 * (n + 1 + 1) + 2, 0, none⟩))]) (fun z h' n' w => w = [] ∧ FrS n c2 d2 h h' n' z.1.1 z.1.2.1 z.1.2.2.1 z.1.2.2.2 q.num (q.den : Int) z.2.1 z.2.2 ∧ z.2.1.length ≤ A.length ∧ z.2.2.length ≤ C.length) ?_ ?_
  · by_cases hgt : (1 : Int) < (b : Int)
    · rw [EC_cond_true (by show Value.bool (decide ((1 : Int) < (b : Int))) = _; rw [decide_eq_true hgt])]
      simp only [NV, reduceIte, Nat.reduceEqDiff, reduceCtorEq, Nat.one_ne_zero, Nat.zero_ne_one]
      obtain ⟨e2, hq2⟩ := S3.b2
      refine st_load (v := .agg #[u1, c2]) rfl rfl rfl rfl rfl (loadn_eq rfl rfl hq2 rfl (Nat.le_of_ble_eq_true rfl) rfl) ?_
      refine st_load (v := .agg #[g1, g2]) rfl rfl rfl rfl rfl (loadn_eq rfl rfl hpg rfl (Nat.le_of_ble_eq_true rfl) rfl) ?_
      refine st_call _ rfl rfl rfl rfl rfl (quoRem_ok k S3.ix ig3 (by omega) hb.1) ?_
      rintro _ h4 n4 _ ⟨rfl, hn4, hx4, q1, q2, r1, r2, Lq, Lr, rfl, iq, ir, fq, fr⟩
      repeat (first | refine st_gt rfl rfl rfl rfl rfl rfl ?_ | refine st_eq rfl rfl rfl rfl rfl rfl ?_ | refine st_P rfl rfl rfl rfl rfl ?_ | refine st_A rfl rfl rfl rfl rfl ?_ | refine st_U rfl rfl rfl rfl rfl ?_ | refine st_val (v := .pointer none) rfl rfl rfl rfl rfl ?_)
      have S4 := S3.exts hx4 hn4
      obtain ⟨e4, hq4⟩ := S4.b2
      refine st_storeW [q1, q2] rfl rfl rfl rfl rfl rfl rfl iq.ones hq4 rfl (by show 3 * n ≤ _; omega) ?_
      have S5 := S4.putx iq (.inr (fq.mono (by omega))) e4
      simp only [NV, reduceIte, Nat.reduceEqDiff, reduceCtorEq, Nat.one_ne_zero, Nat.zero_ne_one]
      obtain ⟨e5, hq5⟩ := S5.b3
      have hpg5 := (upd_ne (f := h4) (i := 3 * n + 2) (v := some (.row [q1, q2] e4)) (j := 3 * n2 + 2) (by omega)).trans ((hx4 _ (by omega)).trans hpg)
      refine st_load (v := .agg #[v1, d2]) rfl rfl rfl rfl rfl (loadn_eq rfl rfl hq5 rfl (Nat.le_of_ble_eq_true rfl) rfl) ?_
      refine st_load (v := .agg #[g1, g2]) rfl rfl rfl rfl rfl (loadn_eq rfl rfl hpg5 rfl (Nat.le_of_ble_eq_true rfl) rfl) ?_
      have og2 : Off (3 * n + 2) g2 := og _ (by have := S.n3; omega) (S.ox.off (by omega) (by omega)) (S.oy.off (by omega) (by omega))
      refine st_call _ rfl rfl rfl rfl rfl (quoRem_ok k S5.iy ((ig3.ext hx4 hn4).off og2) (by omega) hb.2) ?_
      rintro _ h6 n6 _ ⟨rfl, hn6, hx6, p1, p2, s1, s2, Lp, Ls, rfl, ip, is, fp, fs⟩
      repeat (first | refine st_gt rfl rfl rfl rfl rfl rfl ?_ | refine st_eq rfl rfl rfl rfl rfl rfl ?_ | refine st_P rfl rfl rfl rfl rfl ?_ | refine st_A rfl rfl rfl rfl rfl ?_ | refine st_U rfl rfl rfl rfl rfl ?_ | refine st_val (v := .pointer none) rfl rfl rfl rfl rfl ?_)
      have S6 := S5.exts hx6 hn6
      obtain ⟨e6, hq6⟩ := S6.b3
      refine st_storeW [p1, p2] rfl rfl rfl rfl rfl rfl rfl ip.ones hq6 rfl (by show 3 * n ≤ _; omega) ?_
      have S7 := S6.puty ip (.inr (fp.mono (by omega))) e6
      simp only [NV, reduceIte, Nat.reduceEqDiff, reduceCtorEq, Nat.one_ne_zero, Nat.zero_ne_one]
      rw [gcd_tdiv hgx, ← hqn, gcd_tdiv hgy, show y' / (g : Int) = (q.den : Int) from by rw [hqd]; exact ediv_abs hy' g] at S7
      refine cutx_mk ((q1, q2, p1, p2), Lq, Lp) ⟨rfl, rfl, rfl, trivial⟩ ⟨rfl, S7, S3.ix.len_le iq ?_, S3.iy.len_le ip ?_⟩
      · rw [Int.natAbs_tdiv]; exact Nat.div_le_self _ _
      · rw [Int.natAbs_tdiv]; exact Nat.div_le_self _ _
    · rw [EC_cond_false (by show Value.bool (decide ((1 : Int) < (b : Int))) = _; rw [decide_eq_false hgt])]
      simp only [NV, reduceIte, Nat.reduceEqDiff, reduceCtorEq, Nat.one_ne_zero, Nat.zero_ne_one]
      have hg1 : g = 1 := by omega
      subst hg1
      rw [show ((1 : Nat) : Int) = 1 from rfl, Int.ediv_one] at hqn
      rw [Nat.div_one] at hqd
      refine cutx_mk ((u1, c2, v1, d2), A, C) ⟨rfl, rfl, rfl, trivial⟩ ⟨rfl, ?_, Nat.le_refl _, Nat.le_refl _⟩
      show FrS n c2 d2 h h3 (n2 + 1) u1 c2 v1 d2 q.num (q.den : Int) A C
      rw [hqn, hqd, show ((y'.natAbs : Nat) : Int) = y' from by omega]
      exact S3
  clear hqn hqd hgx hgy hgpos hb0 hb1 ig3 S3 hpg hx3 S2 ig hp2 hp3 S hx2 hn2 hn3 og
  rintro ⟨⟨u1, u2, v1, v2⟩, L1, L2⟩ t h5 n5 _ ⟨rfl, S, hl1, hl2⟩
  simp only at S hl1 hl2
  simp only [NV, reduceIte, Nat.reduceEqDiff, reduceCtorEq, Nat.one_ne_zero, Nat.zero_ne_one]
  obtain ⟨ty3, hp3⟩ := S.b3
  refine st_load (v := .agg #[v1, v2]) rfl rfl rfl rfl rfl (loadn_eq rfl rfl hp3 rfl (Nat.le_of_ble_eq_true rfl) rfl) ?_
  refine st_vf _ rfl rfl rfl rfl rfl (bits_ok (k + 3) S.iy (by omega)) ?_
  rintro _ ⟨b, rfl, hb0, hb1⟩
  rw [Int.natAbs_natCast] at hb0 hb1
  refine st_eq rfl rfl rfl rfl rfl rfl ?_
  simp only [NV, reduceIte, Nat.reduceEqDiff, reduceCtorEq, Nat.one_ne_zero, Nat.zero_ne_one]
  refine EC_cutx (α := (Value × Value) × List Nat) (fun _ => [(2, .pointer (some ⟨3 * n + 2, 0, none⟩)), (3, .pointer (some ⟨3 * (n + 1) + 2, 0, none⟩)), (4, .pointer (some ⟨3 * (n + 1 + 1) + 2, 0, none⟩))]) (fun z h' n' w => w = [] ∧ n + 1 + 1 + 1 ≤ n' ∧ Ext n h h' ∧ (∃ e, h' (3 * n + 2) = some (.row [u1, u2] e)) ∧ (∃ e, h' (3 * (n + 1) + 2) = some (.row [z.1.1, z.1.2] e)) ∧ (∃ e, h' (3 * (n + 1 + 1) + 2) = some (.row [.bool false, .slice none 0 0, .bool false, .slice none 0 0] e)) ∧ IntR h' n' u1 u2 q.num L1 ∧ DenR h' n' z.1.1 z.1.2 q.den z.2 ∧ Away n c2 u2 ∧ Away n d2 z.1.2 ∧ z.2.length ≤ C.length) ?_ ?_
  · by_cases hd : (b : Int) = 1
    · rw [EC_cond_true (by show Value.bool (decide ((b : Int) = 1)) = _; rw [decide_eq_true hd])]
      simp only [NV, reduceIte, Nat.reduceEqDiff, reduceCtorEq, Nat.one_ne_zero, Nat.zero_ne_one]
      refine st_val (v := .agg #[.bool false, .slice none 0 0]) rfl rfl rfl rfl rfl ?_
      refine st_storeW [.bool false, .slice none 0 0] rfl rfl rfl rfl rfl rfl rfl rfl hp3 rfl (by show 3 * n ≤ _; omega) ?_
      simp only [NV, reduceIte, Nat.reduceEqDiff, reduceCtorEq, Nat.one_ne_zero, Nat.zero_ne_one]
      have hden : q.den = 1 := hb1.1 (by omega)
      obtain ⟨n3, ext, ⟨e2, b2⟩, _, ⟨e4, b4⟩, ix, iy, ox, oy⟩ := S
      exact cutx_mk ((.bool false, .slice none 0 0), []) ⟨rfl, rfl, rfl, trivial⟩ ⟨rfl, n3, fun b hb => (upd_ne (by omega)).trans (ext b hb), ⟨e2, (upd_ne (by omega)).trans b2⟩, ⟨_, upd_same _ _ _⟩, ⟨e4, (upd_ne (by omega)).trans b4⟩, ix.off (ox.off (by omega) (by omega)), ⟨rfl, .nil (.inl rfl), Norm.nil, by rw [if_pos hden]; rfl⟩, ox, .inr trivial, Nat.zero_le _⟩
    · rw [EC_cond_false (by show Value.bool (decide ((b : Int) = 1)) = _; rw [decide_eq_false hd])]
      simp only [NV, reduceIte, Nat.reduceEqDiff, reduceCtorEq, Nat.one_ne_zero, Nat.zero_ne_one]
      have hden : q.den ≠ 1 := fun e => hd (by have := hb1.2 e; omega)
      obtain ⟨n3, ext, b2, b3, b4, ix, iy, ox, oy⟩ := S
      exact cutx_mk ((v1, v2), L2) ⟨rfl, rfl, rfl, trivial⟩ ⟨rfl, n3, ext, b2, b3, b4, ix, ⟨by rw [iy.neg]; simp, iy.sl, iy.norm, by rw [if_neg hden, iy.val, Int.natAbs_natCast]⟩, ox, oy, hl2⟩
  clear hp3 S hb0 hb1 hl2
  rintro ⟨⟨v1, v2⟩, L2⟩ t h6 n6 _ ⟨rfl, n3, ext, ⟨e2, b2⟩, ⟨e3, b3⟩, ⟨e4, b4⟩, ix, id, ox, oy, hl2⟩
  simp only at b2 b3 b4 ix id ox oy hl2
  simp only [NV, reduceIte, Nat.reduceEqDiff, reduceCtorEq, Nat.one_ne_zero, Nat.zero_ne_one]
  refine st_load (v := .agg #[u1, u2]) rfl rfl rfl rfl rfl (loadn_eq rfl rfl b2 rfl (Nat.le_of_ble_eq_true rfl) rfl) ?_
  refine st_load (v := .agg #[v1, v2]) rfl rfl rfl rfl rfl (loadn_eq rfl rfl b3 rfl (Nat.le_of_ble_eq_true rfl) rfl) ?_
  refine st_val (v := .agg #[u1, u2, v1, v2]) rfl rfl rfl rfl rfl ?_
  have hon : ones [u1, u2, v1, v2] = true := by
    rw [ix.neg]
    show GL.ones (u2 :: _) = true
    rw [ix.sl.ones, id.neg]
    show GL.ones (v2 :: _) = true
    rw [id.sl.ones]
    rfl
  refine st_storeW [u1, u2, v1, v2] rfl rfl rfl rfl rfl rfl rfl hon b4 rfl (by show 3 * n ≤ _; omega) ?_
  simp only [NV, reduceIte, Nat.reduceEqDiff, reduceCtorEq, Nat.one_ne_zero, Nat.zero_ne_one]
  refine retCell rfl rfl rfl rfl rfl (upd_same _ _ _) rfl ⟨rfl, by show n ≤ n6; omega, fun b hb => (upd_ne (by omega)).trans (ext b hb), _, _, _, _, L1, L2, rfl, ⟨ix.off (ox.off (by omega) (by omega)), id.neg, id.sl.off (oy.off (by omega) (by omega)), id.norm, id.val⟩, hl1, hl2, ox.or, oy.or⟩
end Go.Proofs.YtokfihhdllmbmaaGreatDoor
namespace Go.Proofs.YtokfihhdllmbmaaGreatDoor
open Go Go.GL
def AllD (s : List UInt8) : Prop := ∀ b ∈ s, 48 ≤ b.toNat ∧ b.toNat ≤ 57
def dval : List UInt8 → Nat := List.foldl (fun v b => 10 * v + (b.toNat - 48)) 0
theorem dval_fold (s : List UInt8) : ∀ v, List.foldl (fun v b => 10 * v + (b.toNat - 48)) v s = v * 10 ^ s.length + dval s := by
  induction s with
  | nil => intro v; simp [dval]
  | cons b s ih =>
    intro v
    unfold dval
    rw [List.foldl_cons, List.foldl_cons, ih, ih (10 * 0 + _), List.length_cons, Nat.pow_succ, Nat.add_mul, Nat.add_mul]
    rw [show 10 * v * 10 ^ s.length = v * (10 ^ s.length * 10) from by rw [Nat.mul_comm 10 v, Nat.mul_assoc, Nat.mul_comm 10]]
    omega
theorem dval_append (a b : List UInt8) : dval (a ++ b) = dval a * 10 ^ b.length + dval b := by
  conv => lhs; unfold dval
  rw [List.foldl_append]
  exact dval_fold b (dval a)
theorem dval_snoc (a : List UInt8) (b : UInt8) : dval (a ++ [b]) = 10 * dval a + (b.toNat - 48) := by
  rw [dval_append]
  simp [dval]
  omega
theorem dval_lt {s : List UInt8} (h : AllD s) : dval s < 10 ^ s.length := by
  induction s with
  | nil => simp [dval]
  | cons b s ih =>
    have h1 := h b (by simp)
    have h2 := ih fun x hx => h x (by simp [hx])
    rw [show b :: s = [b] ++ s from rfl, dval_append]
    simp only [List.length_append, List.length_singleton]
    rw [Nat.add_comm 1, Nat.pow_succ]
    have h3 : dval [b] ≤ 9 := by simp [dval]; omega
    have h4 : dval [b] * 10 ^ s.length ≤ 9 * 10 ^ s.length := Nat.mul_le_mul_right _ h3
    omega
theorem Norm.len_pow {L : List Nat} {i : Nat} (h : Norm L) (hv : val L < 10 ^ i) : L.length ≤ i := by
  apply Classical.byContradiction
  intro hn
  obtain ⟨j, d, rfl⟩ := snoc (l := L) (by intro e; rw [e] at hn; simp at hn)
  have hd := h.last
  rw [val_append] at hv
  have h1 : 4294967296 ^ j.length * 1 ≤ 4294967296 ^ j.length * YtokfihhdllmbmaaGreatDoor.val [d] := Nat.mul_le_mul_left _ (by simp [YtokfihhdllmbmaaGreatDoor.val]; omega)
  have h2 : 4294967296 ^ i ≤ 4294967296 ^ j.length := Nat.pow_le_pow_right (by omega) (by simp at hn; omega)
  have h3 : 10 ^ i ≤ 4294967296 ^ i := Nat.pow_le_pow_left (by omega) _
  omega
theorem AllD.take_succ {s : List UInt8} {i : Nat} {b : UInt8} (h : AllD (s.take i)) (hb : s[i]? = some b) (hd : 48 ≤ b.toNat ∧ b.toNat ≤ 57) : AllD (s.take (i + 1)) := by
  obtain ⟨hlt, rfl⟩ := List.getElem?_eq_some_iff.1 hb
  rw [List.take_succ_eq_append_getElem hlt]
  intro x hx
  rcases List.mem_append.1 hx with hx | hx
  · exact h x hx
  · rw [List.mem_singleton.1 hx]; exact hd
theorem take_snoc8 {s : List UInt8} {i : Nat} {b : UInt8} (hb : s[i]? = some b) : s.take (i + 1) = s.take i ++ [b] := by
  obtain ⟨hlt, rfl⟩ := List.getElem?_eq_some_iff.1 hb
  rw [List.take_succ_eq_append_getElem hlt]
section
variable {X : CtxF} {ops r : List Oper} {t : TF} {h : HF} {n : Nat} {w : List Nat} {Q : SV → Prop} {o : Oper} {d : Tmp}
theorem st_byte {ty : TypeId} {x i : Operand} {s : List UInt8} {j : Nat} {ji : Int} {ik : IntKind} {b : UInt8} (hw : wantsF ops t o = true) (hd : o.dst = some d) (hn : dstOk X.nt (some d) = true) (ho : o.op = .index ty x i) (hu : X.E.und ty = some .string) (hx : evF t x = .string ⟨⟨s⟩⟩) (hj : evF t i = .int ik ji) (hji : ji = (j : Int)) (hb : s[j]? = some b)
    (k : EO X ops r ⟨upd t d (.int .u8 (b.toNat : Int)), h, n, w⟩ Q) : EO X ops (o :: r) ⟨t, h, n, w⟩ Q := by
  subst hji
  refine st_val hw hd hn (by rw [ho]; rfl) ?_ k
  rw [ho]
  show indexE X.E ty (evF t x) (evF t i) = _
  rw [hx, hj]
  simp only [indexE, hu, Int.toNat_natCast, hb, if_pos (Int.natCast_nonneg j)]
end
def FdR (n : Nat) (h : HF) (s : List UInt8) (v : Value) (h' : HF) (n' : Nat) (w : List Nat) : Prop := w = [] ∧ n ≤ n' ∧ Ext n h h' ∧ ∃ c1 c2 L ok, ∃ x : Nat, v = .tuple #[.agg #[c1, c2], .bool ok] ∧ IntR h' n' c1 c2 (x : Int) L ∧ L.length ≤ s.length ∧ Fresh n c2 ∧ (AllD s ∧ s ≠ [] → ok = true ∧ x = dval s) ∧ (ok = true → AllD s ∧ s ≠ [])
theorem retCellT {fn : Func} {P : Value → HF → Nat → List Nat → Prop} {e : Ex} {t : TF} {h : HF} {n : Nat} {w : List Nat} {a a2 : Tmp} {ty e1 : TypeId} {b sz bt : Nat} {z u : Value} {cs : List Value} (he : isEnd e = true) (hr : fn.results.toList = [.cell a ty, .tmp a2]) (ha : t a = .pointer (some ⟨b, 0, none⟩)) (ha2 : t a2 = u) (hg : GL.isAgg env ty = some true) (hi : env.inf ty = some (sz, bt, z)) (hb : h b = some (.row cs e1)) (hl : cs.length = sz) (hf : flats [.agg cs.toArray, u] = false) (hp : P (.tuple #[.agg cs.toArray, u]) h n w) : RetH fn P e ⟨t, h, n, w⟩ := by
  refine retH [.agg cs.toArray, u] he ?_ hf hp
  rw [hr]
  have l1 := loadn_eq hg hi hb rfl (show 0 + sz ≤ cs.length by omega) (show (cs.drop 0).take sz = cs by rw [List.drop_zero, List.take_of_length_le (by omega)])
  simp only [resF, ha, ha2, l1]
set_option maxHeartbeats 1000000
theorem fromDigits_ok (k : Nat) (h : HF) (n : Nat) (s : List UInt8) (hs : s.length < 1000000) : CF (cal (k + 3)) 145 [.string ⟨⟨s⟩⟩] h n (FdR n h s) := by
  refine CF_heap (fn := Tryz.f145) rfl rfl rfl rfl ?_
  simp only [NV, reduceIte, Nat.reduceEqDiff, reduceCtorEq, Nat.one_ne_zero, Nat.zero_ne_one]
  refine st_alloc rfl rfl rfl rfl rfl ?_
  repeat (first | refine st_ltT rfl rfl rfl rfl rfl rfl (by omega) ?_ | refine st_ltF rfl rfl rfl rfl rfl rfl (by omega) ?_ | refine st_gtT rfl rfl rfl rfl rfl rfl (by omega) ?_ | refine st_gtF rfl rfl rfl rfl rfl rfl (by omega) ?_ | refine st_add rfl rfl rfl rfl rfl rfl (by omega) ?_ | refine st_I rfl rfl rfl rfl rfl ?_ | refine st_B rfl rfl rfl rfl rfl ?_ | refine st_S rfl rfl rfl rfl rfl ?_ | refine st_T rfl rfl rfl rfl rfl ?_ | refine st_val (v := .pointer none) rfl rfl rfl rfl rfl ?_ | refine st_off rfl rfl rfl ?_)
  simp only [NV, reduceIte, Nat.reduceEqDiff, reduceCtorEq, Nat.one_ne_zero, Nat.zero_ne_one]
  repeat (first | refine st_ltT rfl rfl rfl rfl rfl rfl (by omega) ?_ | refine st_ltF rfl rfl rfl rfl rfl rfl (by omega) ?_ | refine st_gtT rfl rfl rfl rfl rfl rfl (by omega) ?_ | refine st_gtF rfl rfl rfl rfl rfl rfl (by omega) ?_ | refine st_add rfl rfl rfl rfl rfl rfl (by omega) ?_ | refine st_I rfl rfl rfl rfl rfl ?_ | refine st_B rfl rfl rfl rfl rfl ?_ | refine st_S rfl rfl rfl rfl rfl ?_ | refine st_T rfl rfl rfl rfl rfl ?_ | refine st_val (v := .pointer none) rfl rfl rfl rfl rfl ?_ | refine st_off rfl rfl rfl ?_)
  simp only [NV, reduceIte, Nat.reduceEqDiff, reduceCtorEq, Nat.one_ne_zero, Nat.zero_ne_one]
  repeat (first | refine st_ltT rfl rfl rfl rfl rfl rfl (by omega) ?_ | refine st_ltF rfl rfl rfl rfl rfl rfl (by omega) ?_ | refine st_gtT rfl rfl rfl rfl rfl rfl (by omega) ?_ | refine st_gtF rfl rfl rfl rfl rfl rfl (by omega) ?_ | refine st_add rfl rfl rfl rfl rfl rfl (by omega) ?_ | refine st_I rfl rfl rfl rfl rfl ?_ | refine st_B rfl rfl rfl rfl rfl ?_ | refine st_S rfl rfl rfl rfl rfl ?_ | refine st_T rfl rfl rfl rfl rfl ?_ | refine st_val (v := .pointer none) rfl rfl rfl rfl rfl ?_ | refine st_off rfl rfl rfl ?_)
  simp only [NV, reduceIte, Nat.reduceEqDiff, reduceCtorEq, Nat.one_ne_zero, Nat.zero_ne_one]
  generalize hh : upd h (3 * n + 2) _ = h1
  have hr1 : ∃ e, h1 (3 * n + 2) = some (.row [.bool false, .slice none 0 0] e) := ⟨_, by rw [← hh, upd_same]; rfl⟩
  have hx1 : Ext n h h1 := by rw [← hh]; exact Ext.upd (by omega)
  clear hh
  refine EC_for (α := Nat × Option Addr × Nat × List Nat) (fun z => [(0, .string ⟨⟨s⟩⟩), (2, .pointer (some ⟨3 * n + 2, 0, none⟩)), (4, .slice z.2.1 z.2.2.2.length z.2.2.1), (5, .int .i64 (z.1 : Int))])
    (fun z h' n' w' => w' = [] ∧ n + 1 ≤ n' ∧ Ext n h h' ∧ (∃ e, h' (3 * n + 2) = some (.row [.bool false, .slice none 0 0] e)) ∧ z.1 ≤ s.length ∧ AllD (s.take z.1) ∧ Sl h' n' 1 (.slice z.2.1 z.2.2.2.length z.2.2.1) (u32s z.2.2.2) ∧ Norm z.2.2.2 ∧ val z.2.2.2 = dval (s.take z.1) ∧ Fresh (n + 1) (.slice z.2.1 z.2.2.2.length z.2.2.1)) (fun z => s.length - z.1)
    (0, none, 0, []) ⟨rfl, rfl, rfl, rfl, trivial⟩ ⟨rfl, Nat.le_refl _, hx1, hr1, Nat.zero_le _, fun b hb => absurd hb (by simp), .nil (.inl rfl), Norm.nil, rfl, trivial⟩ (by show s.length - 0 < LL; unfold LL; omega) ?_
  rintro ⟨i, a, c, L⟩ t h2 n2 _ ⟨rfl, hn2, hx2, ⟨e2, hr2⟩, hi, hall, hsl, hnorm, hval, hfr⟩
  simp only at hi hall hsl hnorm hval hfr
  have hLl : L.length ≤ i := hnorm.len_pow (by rw [hval]; have := dval_lt hall; rw [List.length_take, Nat.min_eq_left hi] at this; exact this)
  simp only [NV, reduceIte, Nat.reduceEqDiff, reduceCtorEq, Nat.one_ne_zero, Nat.zero_ne_one]
  by_cases hie : i = s.length
  · have hts : s.take i = s := by rw [hie, List.take_length]
    rw [hts] at hall hval
    (first | refine st_I rfl rfl rfl rfl rfl ?_ | refine st_B rfl rfl rfl rfl rfl ?_ | refine st_S rfl rfl rfl rfl rfl ?_ | refine st_T rfl rfl rfl rfl rfl ?_ | refine st_val (v := .pointer none) rfl rfl rfl rfl rfl ?_ | refine st_off rfl rfl rfl ?_)
    (first | refine st_I rfl rfl rfl rfl rfl ?_ | refine st_B rfl rfl rfl rfl rfl ?_ | refine st_S rfl rfl rfl rfl rfl ?_ | refine st_T rfl rfl rfl rfl rfl ?_ | refine st_val (v := .pointer none) rfl rfl rfl rfl rfl ?_ | refine st_off rfl rfl rfl ?_)
    refine st_I (ik := .i64) (a := (s.length : Int)) rfl rfl rfl rfl rfl ?_
    repeat (first | refine st_ltT rfl rfl rfl rfl rfl rfl (by omega) ?_ | refine st_ltF rfl rfl rfl rfl rfl rfl (by omega) ?_ | refine st_gtT rfl rfl rfl rfl rfl rfl (by omega) ?_ | refine st_gtF rfl rfl rfl rfl rfl rfl (by omega) ?_ | refine st_add rfl rfl rfl rfl rfl rfl (by omega) ?_ | refine st_I rfl rfl rfl rfl rfl ?_ | refine st_B rfl rfl rfl rfl rfl ?_ | refine st_S rfl rfl rfl rfl rfl ?_ | refine st_T rfl rfl rfl rfl rfl ?_ | refine st_val (v := .pointer none) rfl rfl rfl rfl rfl ?_ | refine st_off rfl rfl rfl ?_)
    simp only [NV, reduceIte, Nat.reduceEqDiff, reduceCtorEq, Nat.one_ne_zero, Nat.zero_ne_one]
    rw [EC_cond_false rfl]
    simp only [NV, reduceIte, Nat.reduceEqDiff, reduceCtorEq, Nat.one_ne_zero, Nat.zero_ne_one]
    repeat (first | refine st_ltT rfl rfl rfl rfl rfl rfl (by omega) ?_ | refine st_ltF rfl rfl rfl rfl rfl rfl (by omega) ?_ | refine st_gtT rfl rfl rfl rfl rfl rfl (by omega) ?_ | refine st_gtF rfl rfl rfl rfl rfl rfl (by omega) ?_ | refine st_add rfl rfl rfl rfl rfl rfl (by omega) ?_ | refine st_I rfl rfl rfl rfl rfl ?_ | refine st_B rfl rfl rfl rfl rfl ?_ | refine st_S rfl rfl rfl rfl rfl ?_ | refine st_T rfl rfl rfl rfl rfl ?_ | refine st_val (v := .pointer none) rfl rfl rfl rfl rfl ?_ | refine st_off rfl rfl rfl ?_)
    refine st_call _ rfl rfl rfl rfl rfl (make1_ok (k + 1) _ _ false a L.length c) ?_
    rintro _ h3 n3 _ ⟨rfl, rfl, rfl, hx3⟩
    (first | refine st_I rfl rfl rfl rfl rfl ?_ | refine st_B rfl rfl rfl rfl rfl ?_ | refine st_S rfl rfl rfl rfl rfl ?_ | refine st_T rfl rfl rfl rfl rfl ?_ | refine st_val (v := .pointer none) rfl rfl rfl rfl rfl ?_ | refine st_off rfl rfl rfl ?_)
    refine st_B (a := !(s == [])) rfl rfl rfl rfl rfl ?_
    refine st_storeW [.bool (false && decide (0 < L.length)), .slice a L.length c] rfl rfl rfl rfl rfl rfl rfl rfl (by rw [hx3 _ (by omega)]; exact hr2) rfl (by show 3 * n ≤ _; omega) ?_
    repeat (first | refine st_ltT rfl rfl rfl rfl rfl rfl (by omega) ?_ | refine st_ltF rfl rfl rfl rfl rfl rfl (by omega) ?_ | refine st_gtT rfl rfl rfl rfl rfl rfl (by omega) ?_ | refine st_gtF rfl rfl rfl rfl rfl rfl (by omega) ?_ | refine st_add rfl rfl rfl rfl rfl rfl (by omega) ?_ | refine st_I rfl rfl rfl rfl rfl ?_ | refine st_B rfl rfl rfl rfl rfl ?_ | refine st_S rfl rfl rfl rfl rfl ?_ | refine st_T rfl rfl rfl rfl rfl ?_ | refine st_val (v := .pointer none) rfl rfl rfl rfl rfl ?_ | refine st_off rfl rfl rfl ?_)
    simp only [NV, reduceIte, Nat.reduceEqDiff, reduceCtorEq, Nat.one_ne_zero, Nat.zero_ne_one]
    refine retCellT rfl rfl rfl rfl rfl rfl (upd_same _ _ _) rfl rfl ⟨rfl, by show n ≤ n2 + 1; omega, fun b hb => (upd_ne (by omega)).trans ((hx3 b (by omega)).trans (hx2 b hb)), _, _, L, _, dval s, rfl, mk1_int ((hsl.ext hx3 (Nat.le_succ _)).off (hfr.off (by omega))) hnorm (by rw [hval]; simp) (fun _ => by rw [decide_eq_false (by omega)]), by omega, hfr.mono (by omega), fun hd => ⟨by simpa using hd.2, rfl⟩, fun hd => ⟨hall, by simpa using hd⟩⟩
  have hilt : i < s.length := by omega
  (first | refine st_I rfl rfl rfl rfl rfl ?_ | refine st_B rfl rfl rfl rfl rfl ?_ | refine st_S rfl rfl rfl rfl rfl ?_ | refine st_T rfl rfl rfl rfl rfl ?_ | refine st_val (v := .pointer none) rfl rfl rfl rfl rfl ?_ | refine st_off rfl rfl rfl ?_)
  (first | refine st_I rfl rfl rfl rfl rfl ?_ | refine st_B rfl rfl rfl rfl rfl ?_ | refine st_S rfl rfl rfl rfl rfl ?_ | refine st_T rfl rfl rfl rfl rfl ?_ | refine st_val (v := .pointer none) rfl rfl rfl rfl rfl ?_ | refine st_off rfl rfl rfl ?_)
  refine st_I (ik := .i64) (a := (s.length : Int)) rfl rfl rfl rfl rfl ?_
  repeat (first | refine st_ltT rfl rfl rfl rfl rfl rfl (by omega) ?_ | refine st_ltF rfl rfl rfl rfl rfl rfl (by omega) ?_ | refine st_gtT rfl rfl rfl rfl rfl rfl (by omega) ?_ | refine st_gtF rfl rfl rfl rfl rfl rfl (by omega) ?_ | refine st_add rfl rfl rfl rfl rfl rfl (by omega) ?_ | refine st_I rfl rfl rfl rfl rfl ?_ | refine st_B rfl rfl rfl rfl rfl ?_ | refine st_S rfl rfl rfl rfl rfl ?_ | refine st_T rfl rfl rfl rfl rfl ?_ | refine st_val (v := .pointer none) rfl rfl rfl rfl rfl ?_ | refine st_off rfl rfl rfl ?_)
  simp only [NV, reduceIte, Nat.reduceEqDiff, reduceCtorEq, Nat.one_ne_zero, Nat.zero_ne_one]
  rw [EC_cond_true rfl]
  simp only [NV, reduceIte, Nat.reduceEqDiff, reduceCtorEq, Nat.one_ne_zero, Nat.zero_ne_one]
  repeat (first | refine st_ltT rfl rfl rfl rfl rfl rfl (by omega) ?_ | refine st_ltF rfl rfl rfl rfl rfl rfl (by omega) ?_ | refine st_gtT rfl rfl rfl rfl rfl rfl (by omega) ?_ | refine st_gtF rfl rfl rfl rfl rfl rfl (by omega) ?_ | refine st_add rfl rfl rfl rfl rfl rfl (by omega) ?_ | refine st_I rfl rfl rfl rfl rfl ?_ | refine st_B rfl rfl rfl rfl rfl ?_ | refine st_S rfl rfl rfl rfl rfl ?_ | refine st_T rfl rfl rfl rfl rfl ?_ | refine st_val (v := .pointer none) rfl rfl rfl rfl rfl ?_ | refine st_off rfl rfl rfl ?_)
  simp only [NV, reduceIte, Nat.reduceEqDiff, reduceCtorEq, Nat.one_ne_zero, Nat.zero_ne_one]
  repeat (first | refine st_ltT rfl rfl rfl rfl rfl rfl (by omega) ?_ | refine st_ltF rfl rfl rfl rfl rfl rfl (by omega) ?_ | refine st_gtT rfl rfl rfl rfl rfl rfl (by omega) ?_ | refine st_gtF rfl rfl rfl rfl rfl rfl (by omega) ?_ | refine st_add rfl rfl rfl rfl rfl rfl (by omega) ?_ | refine st_I rfl rfl rfl rfl rfl ?_ | refine st_B rfl rfl rfl rfl rfl ?_ | refine st_S rfl rfl rfl rfl rfl ?_ | refine st_T rfl rfl rfl rfl rfl ?_ | refine st_val (v := .pointer none) rfl rfl rfl rfl rfl ?_ | refine st_off rfl rfl rfl ?_)
  simp only [EC_skip, EO_nil, after_normal, EC_seq]
  refine EC_cutx (α := Nat) (fun z => [(0, .string ⟨⟨s⟩⟩), (2, .pointer (some ⟨3 * n + 2, 0, none⟩)), (4, .slice a L.length c), (5, .int .i64 ((i + z : Nat) : Int)), (6, .int .u32 ((dval ((s.drop i).take z) : Nat) : Int)), (7, .int .u32 ((10 ^ z : Nat) : Int))])
    (fun z h' n' w' => h2 = h' ∧ n' = n2 ∧ w' = [] ∧ 1 ≤ z ∧ z ≤ 9 ∧ i + z ≤ s.length ∧ AllD (s.take (i + z))) ?_ ?_
  · simp only [NV, reduceIte, Nat.reduceEqDiff, reduceCtorEq, Nat.one_ne_zero, Nat.zero_ne_one]
    refine EC_for (α := Nat) (fun z => [(0, .string ⟨⟨s⟩⟩), (2, .pointer (some ⟨3 * n + 2, 0, none⟩)), (4, .slice a L.length c), (5, .int .i64 ((i + z : Nat) : Int)), (6, .int .u32 ((dval ((s.drop i).take z) : Nat) : Int)), (7, .int .u32 ((10 ^ z : Nat) : Int)), (8, .int .i64 (z : Int))])
      (fun z h' n' w' => h2 = h' ∧ n' = n2 ∧ w' = [] ∧ z ≤ 9 ∧ i + z ≤ s.length ∧ AllD (s.take (i + z))) (fun z => 9 - z) 0 ⟨rfl, rfl, rfl, rfl, rfl, rfl, rfl, trivial⟩ ⟨rfl, rfl, rfl, Nat.zero_le _, by show i + 0 ≤ s.length; omega, hall⟩ (by show 9 - 0 < LL; decide) ?_
    rintro z t h3 n3 _ ⟨rfl, rfl, rfl, hz9, hiz, hallz⟩
    simp only [NV, reduceIte, Nat.reduceEqDiff, reduceCtorEq, Nat.one_ne_zero, Nat.zero_ne_one]
    by_cases hz : z = 9
    · subst hz
      repeat (first | refine st_ltT rfl rfl rfl rfl rfl rfl (by omega) ?_ | refine st_ltF rfl rfl rfl rfl rfl rfl (by omega) ?_ | refine st_gtT rfl rfl rfl rfl rfl rfl (by omega) ?_ | refine st_gtF rfl rfl rfl rfl rfl rfl (by omega) ?_ | refine st_add rfl rfl rfl rfl rfl rfl (by omega) ?_ | refine st_I rfl rfl rfl rfl rfl ?_ | refine st_B rfl rfl rfl rfl rfl ?_ | refine st_S rfl rfl rfl rfl rfl ?_ | refine st_T rfl rfl rfl rfl rfl ?_ | refine st_val (v := .pointer none) rfl rfl rfl rfl rfl ?_ | refine st_off rfl rfl rfl ?_)
      simp only [NV, reduceIte, Nat.reduceEqDiff, reduceCtorEq, Nat.one_ne_zero, Nat.zero_ne_one]
      rw [EC_cond_false rfl]
      simp only [NV, reduceIte, Nat.reduceEqDiff, reduceCtorEq, Nat.one_ne_zero, Nat.zero_ne_one]
      exact cutx_mk 9 ⟨rfl, rfl, rfl, rfl, rfl, rfl, trivial⟩ ⟨rfl, rfl, rfl, by decide, by decide, hiz, hallz⟩
    have hz8 : z ≤ 8 := by omega
    by_cases hie2 : i + z = s.length
    · (first | refine st_I rfl rfl rfl rfl rfl ?_ | refine st_B rfl rfl rfl rfl rfl ?_ | refine st_S rfl rfl rfl rfl rfl ?_ | refine st_T rfl rfl rfl rfl rfl ?_ | refine st_val (v := .pointer none) rfl rfl rfl rfl rfl ?_ | refine st_off rfl rfl rfl ?_)
      refine st_ltT rfl rfl rfl rfl rfl rfl (by omega) ?_
      (first | refine st_I rfl rfl rfl rfl rfl ?_ | refine st_B rfl rfl rfl rfl rfl ?_ | refine st_S rfl rfl rfl rfl rfl ?_ | refine st_T rfl rfl rfl rfl rfl ?_ | refine st_val (v := .pointer none) rfl rfl rfl rfl rfl ?_ | refine st_off rfl rfl rfl ?_)
      (first | refine st_I rfl rfl rfl rfl rfl ?_ | refine st_B rfl rfl rfl rfl rfl ?_ | refine st_S rfl rfl rfl rfl rfl ?_ | refine st_T rfl rfl rfl rfl rfl ?_ | refine st_val (v := .pointer none) rfl rfl rfl rfl rfl ?_ | refine st_off rfl rfl rfl ?_)
      (first | refine st_I rfl rfl rfl rfl rfl ?_ | refine st_B rfl rfl rfl rfl rfl ?_ | refine st_S rfl rfl rfl rfl rfl ?_ | refine st_T rfl rfl rfl rfl rfl ?_ | refine st_val (v := .pointer none) rfl rfl rfl rfl rfl ?_ | refine st_off rfl rfl rfl ?_)
      refine st_I (ik := .i64) (a := (s.length : Int)) rfl rfl rfl rfl rfl ?_
      repeat (first | refine st_ltT rfl rfl rfl rfl rfl rfl (by omega) ?_ | refine st_ltF rfl rfl rfl rfl rfl rfl (by omega) ?_ | refine st_gtT rfl rfl rfl rfl rfl rfl (by omega) ?_ | refine st_gtF rfl rfl rfl rfl rfl rfl (by omega) ?_ | refine st_add rfl rfl rfl rfl rfl rfl (by omega) ?_ | refine st_I rfl rfl rfl rfl rfl ?_ | refine st_B rfl rfl rfl rfl rfl ?_ | refine st_S rfl rfl rfl rfl rfl ?_ | refine st_T rfl rfl rfl rfl rfl ?_ | refine st_val (v := .pointer none) rfl rfl rfl rfl rfl ?_ | refine st_off rfl rfl rfl ?_)
      simp only [NV, reduceIte, Nat.reduceEqDiff, reduceCtorEq, Nat.one_ne_zero, Nat.zero_ne_one]
      rw [EC_cond_false rfl]
      simp only [NV, reduceIte, Nat.reduceEqDiff, reduceCtorEq, Nat.one_ne_zero, Nat.zero_ne_one]
      exact cutx_mk z ⟨rfl, rfl, rfl, rfl, rfl, rfl, trivial⟩ ⟨rfl, rfl, rfl, by omega, hz9, hiz, hallz⟩
    have hizlt : i + z < s.length := by omega
    obtain ⟨b, hb⟩ : ∃ b, s[i + z]? = some b := ⟨s[i + z], List.getElem?_eq_getElem hizlt⟩
    (first | refine st_I rfl rfl rfl rfl rfl ?_ | refine st_B rfl rfl rfl rfl rfl ?_ | refine st_S rfl rfl rfl rfl rfl ?_ | refine st_T rfl rfl rfl rfl rfl ?_ | refine st_val (v := .pointer none) rfl rfl rfl rfl rfl ?_ | refine st_off rfl rfl rfl ?_)
    refine st_ltT rfl rfl rfl rfl rfl rfl (by omega) ?_
    (first | refine st_I rfl rfl rfl rfl rfl ?_ | refine st_B rfl rfl rfl rfl rfl ?_ | refine st_S rfl rfl rfl rfl rfl ?_ | refine st_T rfl rfl rfl rfl rfl ?_ | refine st_val (v := .pointer none) rfl rfl rfl rfl rfl ?_ | refine st_off rfl rfl rfl ?_)
    (first | refine st_I rfl rfl rfl rfl rfl ?_ | refine st_B rfl rfl rfl rfl rfl ?_ | refine st_S rfl rfl rfl rfl rfl ?_ | refine st_T rfl rfl rfl rfl rfl ?_ | refine st_val (v := .pointer none) rfl rfl rfl rfl rfl ?_ | refine st_off rfl rfl rfl ?_)
    (first | refine st_I rfl rfl rfl rfl rfl ?_ | refine st_B rfl rfl rfl rfl rfl ?_ | refine st_S rfl rfl rfl rfl rfl ?_ | refine st_T rfl rfl rfl rfl rfl ?_ | refine st_val (v := .pointer none) rfl rfl rfl rfl rfl ?_ | refine st_off rfl rfl rfl ?_)
    refine st_I (ik := .i64) (a := (s.length : Int)) rfl rfl rfl rfl rfl ?_
    repeat (first | refine st_ltT rfl rfl rfl rfl rfl rfl (by omega) ?_ | refine st_ltF rfl rfl rfl rfl rfl rfl (by omega) ?_ | refine st_gtT rfl rfl rfl rfl rfl rfl (by omega) ?_ | refine st_gtF rfl rfl rfl rfl rfl rfl (by omega) ?_ | refine st_add rfl rfl rfl rfl rfl rfl (by omega) ?_ | refine st_I rfl rfl rfl rfl rfl ?_ | refine st_B rfl rfl rfl rfl rfl ?_ | refine st_S rfl rfl rfl rfl rfl ?_ | refine st_T rfl rfl rfl rfl rfl ?_ | refine st_val (v := .pointer none) rfl rfl rfl rfl rfl ?_ | refine st_off rfl rfl rfl ?_)
    simp only [NV, reduceIte, Nat.reduceEqDiff, reduceCtorEq, Nat.one_ne_zero, Nat.zero_ne_one]
    rw [EC_cond_true rfl]
    simp only [NV, reduceIte, Nat.reduceEqDiff, reduceCtorEq, Nat.one_ne_zero, Nat.zero_ne_one]
    (first | refine st_I rfl rfl rfl rfl rfl ?_ | refine st_B rfl rfl rfl rfl rfl ?_ | refine st_S rfl rfl rfl rfl rfl ?_ | refine st_T rfl rfl rfl rfl rfl ?_ | refine st_val (v := .pointer none) rfl rfl rfl rfl rfl ?_ | refine st_off rfl rfl rfl ?_)
    (first | refine st_I rfl rfl rfl rfl rfl ?_ | refine st_B rfl rfl rfl rfl rfl ?_ | refine st_S rfl rfl rfl rfl rfl ?_ | refine st_T rfl rfl rfl rfl rfl ?_ | refine st_val (v := .pointer none) rfl rfl rfl rfl rfl ?_ | refine st_off rfl rfl rfl ?_)
    refine st_byte (j := i + z) rfl rfl rfl rfl rfl rfl rfl rfl hb ?_
    have hmem : b ∈ s := List.mem_of_getElem? hb
    by_cases hb1 : b.toNat < 48
    · repeat (first | refine st_ltT rfl rfl rfl rfl rfl rfl (by omega) ?_ | refine st_ltF rfl rfl rfl rfl rfl rfl (by omega) ?_ | refine st_gtT rfl rfl rfl rfl rfl rfl (by omega) ?_ | refine st_gtF rfl rfl rfl rfl rfl rfl (by omega) ?_ | refine st_add rfl rfl rfl rfl rfl rfl (by omega) ?_ | refine st_I rfl rfl rfl rfl rfl ?_ | refine st_B rfl rfl rfl rfl rfl ?_ | refine st_S rfl rfl rfl rfl rfl ?_ | refine st_T rfl rfl rfl rfl rfl ?_ | refine st_val (v := .pointer none) rfl rfl rfl rfl rfl ?_ | refine st_off rfl rfl rfl ?_)
      simp only [NV, reduceIte, Nat.reduceEqDiff, reduceCtorEq, Nat.one_ne_zero, Nat.zero_ne_one]
      rw [EC_cond_true rfl]
      simp only [NV, reduceIte, Nat.reduceEqDiff, reduceCtorEq, Nat.one_ne_zero, Nat.zero_ne_one]
      refine st_val (v := .agg #[.bool false, .slice none 0 0]) rfl rfl rfl rfl rfl ?_
      refine st_storeW [.bool false, .slice none 0 0] rfl rfl rfl rfl rfl rfl rfl rfl hr2 rfl (by show 3 * n ≤ _; omega) ?_
      repeat (first | refine st_ltT rfl rfl rfl rfl rfl rfl (by omega) ?_ | refine st_ltF rfl rfl rfl rfl rfl rfl (by omega) ?_ | refine st_gtT rfl rfl rfl rfl rfl rfl (by omega) ?_ | refine st_gtF rfl rfl rfl rfl rfl rfl (by omega) ?_ | refine st_add rfl rfl rfl rfl rfl rfl (by omega) ?_ | refine st_I rfl rfl rfl rfl rfl ?_ | refine st_B rfl rfl rfl rfl rfl ?_ | refine st_S rfl rfl rfl rfl rfl ?_ | refine st_T rfl rfl rfl rfl rfl ?_ | refine st_val (v := .pointer none) rfl rfl rfl rfl rfl ?_ | refine st_off rfl rfl rfl ?_)
      simp only [NV, reduceIte, Nat.reduceEqDiff, reduceCtorEq, Nat.one_ne_zero, Nat.zero_ne_one]
      refine retCellT rfl rfl rfl rfl rfl rfl (upd_same _ _ _) rfl rfl ⟨rfl, by show n ≤ n3; omega, fun b hb => (upd_ne (by omega)).trans (hx2 b hb), _, _, [], false, 0, rfl, ⟨rfl, .nil (.inl rfl), Norm.nil, rfl⟩, Nat.zero_le _, trivial, fun hd => by have := hd.1 b hmem; omega, fun hd => by cases hd⟩
    repeat (first | refine st_ltT rfl rfl rfl rfl rfl rfl (by omega) ?_ | refine st_ltF rfl rfl rfl rfl rfl rfl (by omega) ?_ | refine st_gtT rfl rfl rfl rfl rfl rfl (by omega) ?_ | refine st_gtF rfl rfl rfl rfl rfl rfl (by omega) ?_ | refine st_add rfl rfl rfl rfl rfl rfl (by omega) ?_ | refine st_I rfl rfl rfl rfl rfl ?_ | refine st_B rfl rfl rfl rfl rfl ?_ | refine st_S rfl rfl rfl rfl rfl ?_ | refine st_T rfl rfl rfl rfl rfl ?_ | refine st_val (v := .pointer none) rfl rfl rfl rfl rfl ?_ | refine st_off rfl rfl rfl ?_)
    refine st_byte (j := i + z) rfl rfl rfl rfl rfl rfl rfl rfl hb ?_
    by_cases hb2 : 57 < b.toNat
    · repeat (first | refine st_ltT rfl rfl rfl rfl rfl rfl (by omega) ?_ | refine st_ltF rfl rfl rfl rfl rfl rfl (by omega) ?_ | refine st_gtT rfl rfl rfl rfl rfl rfl (by omega) ?_ | refine st_gtF rfl rfl rfl rfl rfl rfl (by omega) ?_ | refine st_add rfl rfl rfl rfl rfl rfl (by omega) ?_ | refine st_I rfl rfl rfl rfl rfl ?_ | refine st_B rfl rfl rfl rfl rfl ?_ | refine st_S rfl rfl rfl rfl rfl ?_ | refine st_T rfl rfl rfl rfl rfl ?_ | refine st_val (v := .pointer none) rfl rfl rfl rfl rfl ?_ | refine st_off rfl rfl rfl ?_)
      simp only [NV, reduceIte, Nat.reduceEqDiff, reduceCtorEq, Nat.one_ne_zero, Nat.zero_ne_one]
      rw [EC_cond_true rfl]
      simp only [NV, reduceIte, Nat.reduceEqDiff, reduceCtorEq, Nat.one_ne_zero, Nat.zero_ne_one]
      refine st_val (v := .agg #[.bool false, .slice none 0 0]) rfl rfl rfl rfl rfl ?_
      refine st_storeW [.bool false, .slice none 0 0] rfl rfl rfl rfl rfl rfl rfl rfl hr2 rfl (by show 3 * n ≤ _; omega) ?_
      repeat (first | refine st_ltT rfl rfl rfl rfl rfl rfl (by omega) ?_ | refine st_ltF rfl rfl rfl rfl rfl rfl (by omega) ?_ | refine st_gtT rfl rfl rfl rfl rfl rfl (by omega) ?_ | refine st_gtF rfl rfl rfl rfl rfl rfl (by omega) ?_ | refine st_add rfl rfl rfl rfl rfl rfl (by omega) ?_ | refine st_I rfl rfl rfl rfl rfl ?_ | refine st_B rfl rfl rfl rfl rfl ?_ | refine st_S rfl rfl rfl rfl rfl ?_ | refine st_T rfl rfl rfl rfl rfl ?_ | refine st_val (v := .pointer none) rfl rfl rfl rfl rfl ?_ | refine st_off rfl rfl rfl ?_)
      simp only [NV, reduceIte, Nat.reduceEqDiff, reduceCtorEq, Nat.one_ne_zero, Nat.zero_ne_one]
      refine retCellT rfl rfl rfl rfl rfl rfl (upd_same _ _ _) rfl rfl ⟨rfl, by show n ≤ n3; omega, fun b hb => (upd_ne (by omega)).trans (hx2 b hb), _, _, [], false, 0, rfl, ⟨rfl, .nil (.inl rfl), Norm.nil, rfl⟩, Nat.zero_le _, trivial, fun hd => by have := hd.1 b hmem; omega, fun hd => by cases hd⟩
    repeat (first | refine st_ltT rfl rfl rfl rfl rfl rfl (by omega) ?_ | refine st_ltF rfl rfl rfl rfl rfl rfl (by omega) ?_ | refine st_gtT rfl rfl rfl rfl rfl rfl (by omega) ?_ | refine st_gtF rfl rfl rfl rfl rfl rfl (by omega) ?_ | refine st_add rfl rfl rfl rfl rfl rfl (by omega) ?_ | refine st_I rfl rfl rfl rfl rfl ?_ | refine st_B rfl rfl rfl rfl rfl ?_ | refine st_S rfl rfl rfl rfl rfl ?_ | refine st_T rfl rfl rfl rfl rfl ?_ | refine st_val (v := .pointer none) rfl rfl rfl rfl rfl ?_ | refine st_off rfl rfl rfl ?_)
    simp only [NV, reduceIte, Nat.reduceEqDiff, reduceCtorEq, Nat.one_ne_zero, Nat.zero_ne_one]
    rw [EC_cond_false rfl]
    simp only [NV, reduceIte, Nat.reduceEqDiff, reduceCtorEq, Nat.one_ne_zero, Nat.zero_ne_one]
    have hsub : AllD ((s.drop i).take z) := fun x hx => hallz x (by rw [List.take_add]; exact List.mem_append.2 (.inr hx))
    have hvlt := dval_lt hsub
    have hlen : ((s.drop i).take z).length = z := by rw [List.length_take, List.length_drop]; omega
    rw [hlen] at hvlt
    have hp8 : 10 ^ z ≤ 10 ^ 8 := Nat.pow_le_pow_right (by omega) hz8
    have hnext : (s.drop i).take (z + 1) = (s.drop i).take z ++ [b] := take_snoc8 (by rw [List.getElem?_drop]; exact hb)
    have hdn : dval ((s.drop i).take (z + 1)) = dval ((s.drop i).take z) * 10 + (b.toNat - 48) := by rw [hnext, dval_snoc]; omega
    have hpn : 10 ^ (z + 1) = 10 ^ z * 10 := Nat.pow_succ _ _
    generalize hV : dval ((s.drop i).take z) = V at hvlt hdn
    generalize hF : 10 ^ z = F at hvlt hp8 hpn
    rw [show (10 : Nat) ^ 8 = 100000000 from rfl] at hp8
    (first | refine st_I rfl rfl rfl rfl rfl ?_ | refine st_B rfl rfl rfl rfl rfl ?_ | refine st_S rfl rfl rfl rfl rfl ?_ | refine st_T rfl rfl rfl rfl rfl ?_ | refine st_val (v := .pointer none) rfl rfl rfl rfl rfl ?_ | refine st_off rfl rfl rfl ?_)
    refine st_mul_u32 (a := V) (b := 10) rfl rfl rfl rfl rfl rfl (by omega) ?_
    (first | refine st_I rfl rfl rfl rfl rfl ?_ | refine st_B rfl rfl rfl rfl rfl ?_ | refine st_S rfl rfl rfl rfl rfl ?_ | refine st_T rfl rfl rfl rfl rfl ?_ | refine st_val (v := .pointer none) rfl rfl rfl rfl rfl ?_ | refine st_off rfl rfl rfl ?_)
    (first | refine st_I rfl rfl rfl rfl rfl ?_ | refine st_B rfl rfl rfl rfl rfl ?_ | refine st_S rfl rfl rfl rfl rfl ?_ | refine st_T rfl rfl rfl rfl rfl ?_ | refine st_val (v := .pointer none) rfl rfl rfl rfl rfl ?_ | refine st_off rfl rfl rfl ?_)
    refine st_byte (j := i + z) rfl rfl rfl rfl rfl rfl rfl rfl hb ?_
    refine st_sub_u8 (a := b.toNat) (b := 48) rfl rfl rfl rfl rfl rfl (by omega) ?_
    refine st_cv32 (c := b.toNat - 48) rfl rfl rfl rfl rfl rfl rfl (by omega) ?_
    refine st_add_u32 (a := V * 10) (b := b.toNat - 48) rfl rfl rfl rfl rfl rfl (by omega) ?_
    (first | refine st_I rfl rfl rfl rfl rfl ?_ | refine st_B rfl rfl rfl rfl rfl ?_ | refine st_S rfl rfl rfl rfl rfl ?_ | refine st_T rfl rfl rfl rfl rfl ?_ | refine st_val (v := .pointer none) rfl rfl rfl rfl rfl ?_ | refine st_off rfl rfl rfl ?_)
    refine st_mul_u32 (a := F) (b := 10) rfl rfl rfl rfl rfl rfl (by omega) ?_
    repeat (first | refine st_ltT rfl rfl rfl rfl rfl rfl (by omega) ?_ | refine st_ltF rfl rfl rfl rfl rfl rfl (by omega) ?_ | refine st_gtT rfl rfl rfl rfl rfl rfl (by omega) ?_ | refine st_gtF rfl rfl rfl rfl rfl rfl (by omega) ?_ | refine st_add rfl rfl rfl rfl rfl rfl (by omega) ?_ | refine st_I rfl rfl rfl rfl rfl ?_ | refine st_B rfl rfl rfl rfl rfl ?_ | refine st_S rfl rfl rfl rfl rfl ?_ | refine st_T rfl rfl rfl rfl rfl ?_ | refine st_val (v := .pointer none) rfl rfl rfl rfl rfl ?_ | refine st_off rfl rfl rfl ?_)
    simp only [NV, reduceIte, Nat.reduceEqDiff, reduceCtorEq, Nat.one_ne_zero, Nat.zero_ne_one]
    repeat (first | refine st_ltT rfl rfl rfl rfl rfl rfl (by omega) ?_ | refine st_ltF rfl rfl rfl rfl rfl rfl (by omega) ?_ | refine st_gtT rfl rfl rfl rfl rfl rfl (by omega) ?_ | refine st_gtF rfl rfl rfl rfl rfl rfl (by omega) ?_ | refine st_add rfl rfl rfl rfl rfl rfl (by omega) ?_ | refine st_I rfl rfl rfl rfl rfl ?_ | refine st_B rfl rfl rfl rfl rfl ?_ | refine st_S rfl rfl rfl rfl rfl ?_ | refine st_T rfl rfl rfl rfl rfl ?_ | refine st_val (v := .pointer none) rfl rfl rfl rfl rfl ?_ | refine st_off rfl rfl rfl ?_)
    simp only [NV, reduceIte, Nat.reduceEqDiff, reduceCtorEq, Nat.one_ne_zero, Nat.zero_ne_one]
    repeat (first | refine st_ltT rfl rfl rfl rfl rfl rfl (by omega) ?_ | refine st_ltF rfl rfl rfl rfl rfl rfl (by omega) ?_ | refine st_gtT rfl rfl rfl rfl rfl rfl (by omega) ?_ | refine st_gtF rfl rfl rfl rfl rfl rfl (by omega) ?_ | refine st_add rfl rfl rfl rfl rfl rfl (by omega) ?_ | refine st_I rfl rfl rfl rfl rfl ?_ | refine st_B rfl rfl rfl rfl rfl ?_ | refine st_S rfl rfl rfl rfl rfl ?_ | refine st_T rfl rfl rfl rfl rfl ?_ | refine st_val (v := .pointer none) rfl rfl rfl rfl rfl ?_ | refine st_off rfl rfl rfl ?_)
    simp only [NV, reduceIte, Nat.reduceEqDiff, reduceCtorEq, Nat.one_ne_zero, Nat.zero_ne_one]
    refine goOn (z + 1) (by show 9 - (z + 1) < 9 - z; omega) ⟨rfl, rfl, rfl, by show Value.int .i64 _ = Value.int .i64 _; congr 1, by show Value.int .u32 _ = Value.int .u32 _; rw [hdn], by show Value.int .u32 _ = Value.int .u32 _; rw [hpn], by show Value.int .i64 _ = Value.int .i64 _; congr 1, trivial⟩ ⟨rfl, rfl, rfl, by show z + 1 ≤ 9; omega, by show i + (z + 1) ≤ s.length; omega, AllD.take_succ hallz hb (by omega)⟩
  rintro z t _ n2 _ ⟨rfl, rfl, rfl, hz1, hz9, hiz, hallz⟩
  have hsub : AllD ((s.drop i).take z) := fun x hx => hallz x (by rw [List.take_add]; exact List.mem_append.2 (.inr hx))
  have hvlt := dval_lt hsub
  have hlen : ((s.drop i).take z).length = z := by rw [List.length_take, List.length_drop]; omega
  have hfull : dval (s.take (i + z)) = dval (s.take i) * 10 ^ z + dval ((s.drop i).take z) := by rw [List.take_add, dval_append, hlen]
  rw [hlen] at hvlt
  have hp9 : 10 ^ z ≤ 10 ^ 9 := Nat.pow_le_pow_right (by omega) hz9
  generalize hV : dval ((s.drop i).take z) = V at hvlt hfull
  generalize hF : 10 ^ z = F at hvlt hp9 hfull
  rw [show (10 : Nat) ^ 9 = 1000000000 from rfl] at hp9
  simp only [NV, reduceIte, Nat.reduceEqDiff, reduceCtorEq, Nat.one_ne_zero, Nat.zero_ne_one]
  (first | refine st_I rfl rfl rfl rfl rfl ?_ | refine st_B rfl rfl rfl rfl rfl ?_ | refine st_S rfl rfl rfl rfl rfl ?_ | refine st_T rfl rfl rfl rfl rfl ?_ | refine st_val (v := .pointer none) rfl rfl rfl rfl rfl ?_ | refine st_off rfl rfl rfl ?_)
  (first | refine st_I rfl rfl rfl rfl rfl ?_ | refine st_B rfl rfl rfl rfl rfl ?_ | refine st_S rfl rfl rfl rfl rfl ?_ | refine st_T rfl rfl rfl rfl rfl ?_ | refine st_val (v := .pointer none) rfl rfl rfl rfl rfl ?_ | refine st_off rfl rfl rfl ?_)
  refine st_mks (cs := [.int .u32 (F : Int)]) rfl rfl rfl rfl rfl ?_
  have hmul := mulMag_ok k (h := upd h2 (3 * n2 + 2) (some (.row [.int .u32 (F : Int)] 210))) (n := n2 + 1) (A := L) (C := [F]) (hsl.ext (Ext.upd (by omega)) (Nat.le_succ n2)) (Sl.own (O := [F]) (len := 1) (cap := 1) (upd_same _ _ _) (by omega) rfl (Nat.le_refl _)) hnorm.1 (fun x hx => by simp at hx; omega) (by simp; omega)
  refine st_call _ rfl rfl rfl rfl rfl hmul ?_
  rintro v4 h4 n4 w4 ⟨L4, ⟨rfl, hn4, hx4, a4, c4, rfl, hs4, hnorm4, hf4⟩, hv4⟩
  (first | refine st_I rfl rfl rfl rfl rfl ?_ | refine st_B rfl rfl rfl rfl rfl ?_ | refine st_S rfl rfl rfl rfl rfl ?_ | refine st_T rfl rfl rfl rfl rfl ?_ | refine st_val (v := .pointer none) rfl rfl rfl rfl rfl ?_ | refine st_off rfl rfl rfl ?_)
  refine st_mks (cs := [.int .u32 (V : Int)]) rfl rfl rfl rfl rfl ?_
  have htr := trim_ok (k + 1) (l := [V]) (h := upd h4 (3 * n4 + 2) (some (.row [.int .u32 (V : Int)] 210))) (n := n4 + 1) (by simp) (Sl.own (O := [V]) (len := 1) (cap := 1) (upd_same _ _ _) (by omega) rfl (Nat.le_refl _))
  refine st_call _ rfl rfl rfl rfl rfl htr ?_
  rintro _ _ _ _ ⟨e5, e6, rfl, rfl, hs5⟩
  subst e5 e6
  have hvF : val [F] = F := by simp [val]
  rw [hvF] at hv4
  have hL4 : L4.length < 1000000000 := by
    have h1 := dval_lt hall
    rw [List.length_take, Nat.min_eq_left hi] at h1
    have h2 := hnorm4.len_pow (i := i + z) (by rw [hv4, hval, Nat.pow_add, hF]; exact Nat.mul_lt_mul_of_pos_right h1 (by rw [← hF]; exact Nat.pow_pos (by omega)))
    omega
  have hadd := addMag_ok k (h := upd h4 (3 * n4 + 2) (some (.row [.int .u32 (V : Int)] 210))) (n := n4 + 1) (A := L4) (C := trimL [V]) (hs4.ext (Ext.upd (by omega)) (Nat.le_succ n4)) hs5 hnorm4.1 (trimL_dig _ (fun x hx => by simp at hx; omega)) ⟨hL4, by have := trimL_len [V]; simp at this; omega⟩
  refine st_call _ rfl rfl rfl rfl rfl hadd ?_
  rintro v6 h6 n6 w6 ⟨L6, ⟨rfl, hn6, hx6, a6, c6, rfl, hs6, hnorm6, hf6⟩, hv6⟩
  repeat (first | refine st_ltT rfl rfl rfl rfl rfl rfl (by omega) ?_ | refine st_ltF rfl rfl rfl rfl rfl rfl (by omega) ?_ | refine st_gtT rfl rfl rfl rfl rfl rfl (by omega) ?_ | refine st_gtF rfl rfl rfl rfl rfl rfl (by omega) ?_ | refine st_add rfl rfl rfl rfl rfl rfl (by omega) ?_ | refine st_I rfl rfl rfl rfl rfl ?_ | refine st_B rfl rfl rfl rfl rfl ?_ | refine st_S rfl rfl rfl rfl rfl ?_ | refine st_T rfl rfl rfl rfl rfl ?_ | refine st_val (v := .pointer none) rfl rfl rfl rfl rfl ?_ | refine st_off rfl rfl rfl ?_)
  simp only [NV, reduceIte, Nat.reduceEqDiff, reduceCtorEq, Nat.one_ne_zero, Nat.zero_ne_one]
  refine goOn (i + z, a6, c6, L6) (by show s.length - (i + z) < s.length - i; omega) ⟨rfl, rfl, rfl, rfl, trivial⟩ ⟨rfl, by show n + 1 ≤ n6; omega, fun b hb => ?_, ⟨e2, ?_⟩, hiz, hallz, hs6, hnorm6, ?_, hf6.mono (by omega)⟩
  · exact (hx6 b (by omega)).trans ((upd_ne (by omega)).trans ((hx4 b (by omega)).trans ((upd_ne (by omega)).trans (hx2 b hb))))
  · exact (hx6 _ (by omega)).trans ((upd_ne (by omega)).trans ((hx4 _ (by omega)).trans ((upd_ne (by omega)).trans hr2)))
  · show val L6 = dval (s.take (i + z))
    rw [hv6, hv4, hval, hfull, trimL_val]
    simp [val]
end Go.Proofs.YtokfihhdllmbmaaGreatDoor
namespace Go.Proofs.YtokfihhdllmbmaaGreatDoor
open Go Go.GL
theorem ofNat_digit {c : Nat} (h : c < 10) : (UInt8.ofNat (48 + c)).toNat = 48 + c := by
  rw [UInt8.toNat_ofNat', Nat.mod_eq_of_lt (by omega)]
theorem decB_all : ∀ V, AllD ((decB V).map UInt8.ofNat) ∧ dval ((decB V).map UInt8.ofNat) = V := by
  intro V
  induction V using Nat.strongRecOn with
  | ind V ih =>
    by_cases h0 : V = 0
    · subst h0
      unfold decB
      rw [decD_zero]
      exact ⟨fun b hb => absurd hb (by simp), rfl⟩
    · have e : decB V = decB (V / 10) ++ [48 + V % 10] := by
        unfold decB
        rw [decD_pos h0]
        simp
      obtain ⟨h1, h2⟩ := ih (V / 10) (by omega)
      have h3 := ofNat_digit (c := V % 10) (by omega)
      rw [e, List.map_append, List.map_cons, List.map_nil]
      refine ⟨fun b hb => ?_, ?_⟩
      · rcases List.mem_append.1 hb with hb | hb
        · exact h1 b hb
        · rw [List.mem_singleton.1 hb, h3]; omega
      · rw [dval_snoc, h2, h3]; omega
theorem decT_all (V : Nat) : AllD (decT V) ∧ dval (decT V) = V ∧ decT V ≠ [] := by
  unfold decT
  by_cases h0 : V = 0
  · rw [if_pos h0, h0]
    exact ⟨fun b hb => by rw [List.mem_singleton.1 hb]; decide, rfl, by simp⟩
  · rw [if_neg h0]
    refine ⟨(decB_all V).1, (decB_all V).2, fun e => ?_⟩
    have := (decB_all V).2
    rw [e] at this
    exact h0 this.symm
def Slash (t : List UInt8) (j : Nat) : Prop := j ≤ t.length ∧ (∀ i, i < j → t[i]? ≠ some 47) ∧ (j = t.length ∨ t[j]? = some 47)
theorem AllD.slash {a : List UInt8} {i : Nat} (h : AllD a) : a[i]? ≠ some 47 := fun e => by
  have := h 47 (List.mem_of_getElem? e)
  have e2 : (47 : UInt8).toNat = 47 := rfl
  omega
theorem Slash.uniq {a r : List UInt8} {j : Nat} (ha : AllD a) (hr : r = [] ∨ ∃ r', r = 47 :: r') (h : Slash (a ++ r) j) : j = a.length := by
  obtain ⟨h1, h2, h3⟩ := h
  rcases Nat.lt_trichotomy j a.length with hlt | rfl | hgt
  · exfalso
    rcases h3 with h3 | h3
    · rw [List.length_append] at h3; omega
    · rw [List.getElem?_append_left hlt] at h3
      exact ha.slash h3
  · rfl
  · exfalso
    rcases hr with rfl | ⟨r', rfl⟩
    · simp at h1; omega
    · refine h2 a.length hgt ?_
      rw [List.getElem?_append_right (Nat.le_refl _), Nat.sub_self]
      rfl
def isNum (s : List UInt8) : Prop := ∃ q : Rat, ratT q = s
def hasMinus (s : List UInt8) : Bool := s[0]? == some 45
def bodyOf (s : List UInt8) : List UInt8 := if hasMinus s then s.drop 1 else s
theorem ratT_minus (q : Rat) : hasMinus (ratT q) = decide (q.num < 0) ∧ bodyOf (ratT q) = decT q.num.natAbs ++ (if q.den = 1 then [] else 47 :: decT q.den) := by
  have hm : hasMinus (ratT q) = decide (q.num < 0) := by
    unfold hasMinus ratT
    by_cases hn : q.num < 0
    · rw [if_pos hn, decide_eq_true hn]; rfl
    · rw [if_neg hn, decide_eq_false hn, List.nil_append]
      obtain ⟨h1, _, h3⟩ := decT_all q.num.natAbs
      rw [List.getElem?_append_left (List.length_pos_iff.2 h3)]
      cases hd : (decT q.num.natAbs)[0]? with
      | none => rfl
      | some b =>
        have := h1 b (List.mem_of_getElem? hd)
        show (some b == some 45) = false
        have hne : b ≠ 45 := fun e => by subst e; have e2 : (45 : UInt8).toNat = 45 := rfl; omega
        simpa using hne
  refine ⟨hm, ?_⟩
  unfold bodyOf
  rw [hm]
  by_cases hn : q.num < 0
  · rw [if_pos (decide_eq_true hn)]
    unfold ratT
    rw [if_pos hn]
    rfl
  · rw [if_neg (by simpa using hn)]
    unfold ratT
    rw [if_neg hn]
    rfl
theorem ratT_parts {q : Rat} {s : List UInt8} {j : Nat} (hs : ratT q = s) (hj : Slash (bodyOf s) j) : hasMinus s = decide (q.num < 0) ∧ (bodyOf s).take j = decT q.num.natAbs ∧ (q.den = 1 → j = (bodyOf s).length) ∧ (q.den ≠ 1 → j < (bodyOf s).length ∧ (bodyOf s).drop (j + 1) = decT q.den) := by
  subst hs
  obtain ⟨h1, h2⟩ := ratT_minus q
  rw [h2] at hj ⊢
  have hu := hj.uniq (decT_all _).1 (by by_cases hd : q.den = 1 <;> simp [hd])
  subst hu
  refine ⟨h1, List.take_left' rfl, fun hd => by rw [if_pos hd]; simp, fun hd => ?_⟩
  rw [if_neg hd]
  refine ⟨by simp, ?_⟩
  rw [← List.drop_drop, List.drop_left' rfl]
  rfl
theorem bodyOf_len (s : List UInt8) : (bodyOf s).length ≤ s.length := by
  unfold bodyOf
  split
  · rw [List.length_drop]; omega
  · exact Nat.le_refl _
end Go.Proofs.YtokfihhdllmbmaaGreatDoor
namespace Go.Proofs.YtokfihhdllmbmaaGreatDoor
open Go Go.GL
section
variable {X : CtxF} {ops r : List Oper} {t : TF} {h : HF} {n : Nat} {w : List Nat} {Q : SV → Prop} {o : Oper} {d : Tmp}
theorem st_strLo {ty : TypeId} {x i : Operand} {s : List UInt8} {j : Nat} {ji : Int} {ik : IntKind} (hw : wantsF ops t o = true) (hd : o.dst = some d) (hn : dstOk X.nt (some d) = true) (ho : o.op = .slice ty x (some i) none none) (hu : X.E.und ty = some .string) (hx : evF t x = .string ⟨⟨s⟩⟩) (hj : evF t i = .int ik ji) (hji : ji = (j : Int)) (hl : j ≤ s.length)
    (k : EO X ops r ⟨upd t d (.string ⟨⟨s.drop j⟩⟩), h, n, w⟩ Q) : EO X ops (o :: r) ⟨t, h, n, w⟩ Q := by
  subst hji
  refine st_val hw hd hn (by rw [ho]; rfl) ?_ k
  rw [ho]
  show sliceE X.E ty (evF t x) (some (evF t i)) none = _
  rw [hx, hj]
  have h1 : (0 : Int) ≤ (j : Int) ∧ (j : Int) ≤ (s.length : Int) := by omega
  simp only [sliceE, hu, bnd, if_pos h1, Int.toNat_natCast]
  rw [List.take_of_length_le (by rw [List.length_drop]; exact Nat.le_refl _)]
theorem st_strHi {ty : TypeId} {x i : Operand} {s : List UInt8} {j : Nat} {ji : Int} {ik : IntKind} (hw : wantsF ops t o = true) (hd : o.dst = some d) (hn : dstOk X.nt (some d) = true) (ho : o.op = .slice ty x none (some i) none) (hu : X.E.und ty = some .string) (hx : evF t x = .string ⟨⟨s⟩⟩) (hj : evF t i = .int ik ji) (hji : ji = (j : Int)) (hl : j ≤ s.length)
    (k : EO X ops r ⟨upd t d (.string ⟨⟨s.take j⟩⟩), h, n, w⟩ Q) : EO X ops (o :: r) ⟨t, h, n, w⟩ Q := by
  subst hji
  refine st_val hw hd hn (by rw [ho]; rfl) ?_ k
  rw [ho]
  show sliceE X.E ty (evF t x) none (some (evF t i)) = _
  rw [hx, hj]
  have h1 : (0 : Int) ≤ (j : Int) ∧ (j : Int) ≤ (s.length : Int) := by omega
  simp only [sliceE, hu, bnd, if_pos h1, Int.toNat_natCast, List.drop_zero, Nat.sub_zero]
end
theorem RatR.off {h : HF} {n b : Nat} {n1 n2 d1 d2 : Value} {q : Rat} {ln ld : List Nat} {y : Option BF} (r : RatR h n n1 n2 d1 d2 q ln ld) (h1 : Off b n2) (h2 : Off b d2) : RatR (upd h b y) n n1 n2 d1 d2 q ln ld := ⟨r.num.off h1, r.neg, r.sl.off h2, r.norm, r.val⟩
theorem RatR.ones {h : HF} {n : Nat} {n1 n2 d1 d2 : Value} {q : Rat} {ln ld : List Nat} (r : RatR h n n1 n2 d1 d2 q ln ld) : ones [n1, n2, d1, d2] = true := by
  rw [r.num.neg]
  show GL.ones (n2 :: _) = true
  rw [r.num.sl.ones, r.neg]
  show GL.ones (d2 :: _) = true
  rw [r.sl.ones]
  rfl
theorem RatR.zero (h : HF) (n : Nat) : RatR h n (.bool false) (.slice none 0 0) (.bool false) (.slice none 0 0) 0 [] [] := ⟨⟨rfl, .nil (.inl rfl), Norm.nil, rfl⟩, rfl, .nil (.inl rfl), Norm.nil, rfl⟩
theorem rat_whole {q : Rat} (h : q.den = 1) : q = ((q.num : Int) : Rat) := by
  apply Rat.ext
  · rw [Rat.num_intCast]
  · rw [Rat.den_intCast, h]
theorem RatR.whole {h : HF} {n : Nat} {c1 c2 : Value} {x : Int} {l : List Nat} (r : IntR h n c1 c2 x l) : RatR h n c1 c2 (.bool false) (.slice none 0 0) (x : Rat) l [] := ⟨by rw [Rat.num_intCast]; exact r, rfl, .nil (.inl rfl), Norm.nil, by rw [Rat.den_intCast]; rfl⟩
def RdR (n : Nat) (h : HF) (s : List UInt8) (v : Value) (h' : HF) (n' : Nat) (w : List Nat) : Prop := w = [] ∧ n ≤ n' ∧ Ext n h h' ∧ ∃ n1 n2 d1 d2 q ln ld ok, v = .tuple #[.agg #[n1, n2, d1, d2], .bool ok] ∧ RatR h' n' n1 n2 d1 d2 q ln ld ∧ ln.length ≤ s.length ∧ ld.length ≤ s.length ∧ Fresh n n2 ∧ Fresh n d2 ∧ (ok = true → ratT q = s) ∧ (isNum s → ok = true)
set_option maxHeartbeats 1000000
theorem read_ok (k : Nat) (h : HF) (n : Nat) (s : List UInt8) (hs : s.length < 1000000) : CF (cal (k + 6)) 78 [.string ⟨⟨s⟩⟩] h n (RdR n h s) := by
  refine CF_heap (fn := Tryz.f78) rfl rfl rfl rfl ?_
  simp only [NV, reduceIte, Nat.reduceEqDiff, reduceCtorEq, Nat.one_ne_zero, Nat.zero_ne_one]
  refine st_alloc rfl rfl rfl rfl rfl ?_
  repeat (first | refine st_ltT rfl rfl rfl rfl rfl rfl (by omega) ?_ | refine st_ltF rfl rfl rfl rfl rfl rfl (by omega) ?_ | refine st_gtT rfl rfl rfl rfl rfl rfl (by omega) ?_ | refine st_gtF rfl rfl rfl rfl rfl rfl (by omega) ?_ | refine st_eqT rfl rfl rfl rfl rfl rfl (by omega) ?_ | refine st_eqF rfl rfl rfl rfl rfl rfl (by omega) ?_ | refine st_lt rfl rfl rfl rfl rfl rfl ?_ | refine st_eq rfl rfl rfl rfl rfl rfl ?_ | refine st_add rfl rfl rfl rfl rfl rfl (by omega) ?_ | refine st_I rfl rfl rfl rfl rfl ?_ | refine st_B rfl rfl rfl rfl rfl ?_ | refine st_P rfl rfl rfl rfl rfl ?_ | refine st_T rfl rfl rfl rfl rfl ?_ | refine st_A rfl rfl rfl rfl rfl ?_ | refine st_U rfl rfl rfl rfl rfl ?_ | refine st_val (v := .pointer none) rfl rfl rfl rfl rfl ?_ | refine st_off rfl rfl rfl ?_)
  simp only [NV, reduceIte, Nat.reduceEqDiff, reduceCtorEq, Nat.one_ne_zero, Nat.zero_ne_one]
  repeat (first | refine st_ltT rfl rfl rfl rfl rfl rfl (by omega) ?_ | refine st_ltF rfl rfl rfl rfl rfl rfl (by omega) ?_ | refine st_gtT rfl rfl rfl rfl rfl rfl (by omega) ?_ | refine st_gtF rfl rfl rfl rfl rfl rfl (by omega) ?_ | refine st_eqT rfl rfl rfl rfl rfl rfl (by omega) ?_ | refine st_eqF rfl rfl rfl rfl rfl rfl (by omega) ?_ | refine st_lt rfl rfl rfl rfl rfl rfl ?_ | refine st_eq rfl rfl rfl rfl rfl rfl ?_ | refine st_add rfl rfl rfl rfl rfl rfl (by omega) ?_ | refine st_I rfl rfl rfl rfl rfl ?_ | refine st_B rfl rfl rfl rfl rfl ?_ | refine st_P rfl rfl rfl rfl rfl ?_ | refine st_T rfl rfl rfl rfl rfl ?_ | refine st_A rfl rfl rfl rfl rfl ?_ | refine st_U rfl rfl rfl rfl rfl ?_ | refine st_val (v := .pointer none) rfl rfl rfl rfl rfl ?_ | refine st_off rfl rfl rfl ?_)
  simp only [EC_skip, EO_nil, after_normal, EC_seq]
  generalize hh : upd h (3 * n + 2) _ = h1
  have hr1 : ∃ e, h1 (3 * n + 2) = some (.row [.bool false, .slice none 0 0, .bool false, .slice none 0 0] e) := ⟨_, by rw [← hh, upd_same]; rfl⟩
  have hx1 : Ext n h h1 := by rw [← hh]; exact Ext.upd (by omega)
  clear hh
  obtain ⟨e1, hr1⟩ := hr1
  have hbl := bodyOf_len s
  refine EC_cut [(0, .string ⟨⟨s⟩⟩), (2, .pointer (some ⟨3 * n + 2, 0, none⟩)), (4, .string ⟨⟨s⟩⟩), (5, .bool (hasMinus s))] (fun h' n' w => h1 = h' ∧ n' = n + 1 ∧ w = []) ?_ ?_
  · simp only [NV, reduceIte, Nat.reduceEqDiff, reduceCtorEq, Nat.one_ne_zero, Nat.zero_ne_one]
    (first | refine st_I rfl rfl rfl rfl rfl ?_ | refine st_B rfl rfl rfl rfl rfl ?_ | refine st_P rfl rfl rfl rfl rfl ?_ | refine st_T rfl rfl rfl rfl rfl ?_ | refine st_A rfl rfl rfl rfl rfl ?_ | refine st_U rfl rfl rfl rfl rfl ?_ | refine st_val (v := .pointer none) rfl rfl rfl rfl rfl ?_ | refine st_off rfl rfl rfl ?_)
    refine st_I (ik := .i64) (a := (s.length : Int)) rfl rfl rfl rfl rfl ?_
    by_cases hs0 : s.length = 0
    · repeat (first | refine st_ltT rfl rfl rfl rfl rfl rfl (by omega) ?_ | refine st_ltF rfl rfl rfl rfl rfl rfl (by omega) ?_ | refine st_gtT rfl rfl rfl rfl rfl rfl (by omega) ?_ | refine st_gtF rfl rfl rfl rfl rfl rfl (by omega) ?_ | refine st_eqT rfl rfl rfl rfl rfl rfl (by omega) ?_ | refine st_eqF rfl rfl rfl rfl rfl rfl (by omega) ?_ | refine st_lt rfl rfl rfl rfl rfl rfl ?_ | refine st_eq rfl rfl rfl rfl rfl rfl ?_ | refine st_add rfl rfl rfl rfl rfl rfl (by omega) ?_ | refine st_I rfl rfl rfl rfl rfl ?_ | refine st_B rfl rfl rfl rfl rfl ?_ | refine st_P rfl rfl rfl rfl rfl ?_ | refine st_T rfl rfl rfl rfl rfl ?_ | refine st_A rfl rfl rfl rfl rfl ?_ | refine st_U rfl rfl rfl rfl rfl ?_ | refine st_val (v := .pointer none) rfl rfl rfl rfl rfl ?_ | refine st_off rfl rfl rfl ?_)
      simp only [NV, reduceIte, Nat.reduceEqDiff, reduceCtorEq, Nat.one_ne_zero, Nat.zero_ne_one]
      exact cut_mk ⟨rfl, rfl, rfl, by rw [List.length_eq_zero_iff.1 hs0]; rfl, trivial⟩ ⟨rfl, rfl, rfl⟩
    · obtain ⟨b, hb⟩ : ∃ b, s[0]? = some b := ⟨s[0]'(by omega), List.getElem?_eq_getElem (by omega)⟩
      refine st_gtT rfl rfl rfl rfl rfl rfl (by omega) ?_
      repeat (first | refine st_ltT rfl rfl rfl rfl rfl rfl (by omega) ?_ | refine st_ltF rfl rfl rfl rfl rfl rfl (by omega) ?_ | refine st_gtT rfl rfl rfl rfl rfl rfl (by omega) ?_ | refine st_gtF rfl rfl rfl rfl rfl rfl (by omega) ?_ | refine st_eqT rfl rfl rfl rfl rfl rfl (by omega) ?_ | refine st_eqF rfl rfl rfl rfl rfl rfl (by omega) ?_ | refine st_lt rfl rfl rfl rfl rfl rfl ?_ | refine st_eq rfl rfl rfl rfl rfl rfl ?_ | refine st_add rfl rfl rfl rfl rfl rfl (by omega) ?_ | refine st_I rfl rfl rfl rfl rfl ?_ | refine st_B rfl rfl rfl rfl rfl ?_ | refine st_P rfl rfl rfl rfl rfl ?_ | refine st_T rfl rfl rfl rfl rfl ?_ | refine st_A rfl rfl rfl rfl rfl ?_ | refine st_U rfl rfl rfl rfl rfl ?_ | refine st_val (v := .pointer none) rfl rfl rfl rfl rfl ?_ | refine st_off rfl rfl rfl ?_)
      refine st_byte (j := 0) rfl rfl rfl rfl rfl rfl rfl rfl hb ?_
      have hm : hasMinus s = decide (b.toNat = 45) := by
        unfold hasMinus
        rw [hb]
        by_cases h45 : b = 45
        · subst h45; rfl
        · rw [show decide (b.toNat = 45) = false from decide_eq_false (fun e => h45 (UInt8.toNat_inj.1 e))]
          simpa using h45
      by_cases h45 : b.toNat = 45
      · repeat (first | refine st_ltT rfl rfl rfl rfl rfl rfl (by omega) ?_ | refine st_ltF rfl rfl rfl rfl rfl rfl (by omega) ?_ | refine st_gtT rfl rfl rfl rfl rfl rfl (by omega) ?_ | refine st_gtF rfl rfl rfl rfl rfl rfl (by omega) ?_ | refine st_eqT rfl rfl rfl rfl rfl rfl (by omega) ?_ | refine st_eqF rfl rfl rfl rfl rfl rfl (by omega) ?_ | refine st_lt rfl rfl rfl rfl rfl rfl ?_ | refine st_eq rfl rfl rfl rfl rfl rfl ?_ | refine st_add rfl rfl rfl rfl rfl rfl (by omega) ?_ | refine st_I rfl rfl rfl rfl rfl ?_ | refine st_B rfl rfl rfl rfl rfl ?_ | refine st_P rfl rfl rfl rfl rfl ?_ | refine st_T rfl rfl rfl rfl rfl ?_ | refine st_A rfl rfl rfl rfl rfl ?_ | refine st_U rfl rfl rfl rfl rfl ?_ | refine st_val (v := .pointer none) rfl rfl rfl rfl rfl ?_ | refine st_off rfl rfl rfl ?_)
        simp only [NV, reduceIte, Nat.reduceEqDiff, reduceCtorEq, Nat.one_ne_zero, Nat.zero_ne_one]
        exact cut_mk ⟨rfl, rfl, rfl, by rw [hm, decide_eq_true h45]; rfl, trivial⟩ ⟨rfl, rfl, rfl⟩
      · repeat (first | refine st_ltT rfl rfl rfl rfl rfl rfl (by omega) ?_ | refine st_ltF rfl rfl rfl rfl rfl rfl (by omega) ?_ | refine st_gtT rfl rfl rfl rfl rfl rfl (by omega) ?_ | refine st_gtF rfl rfl rfl rfl rfl rfl (by omega) ?_ | refine st_eqT rfl rfl rfl rfl rfl rfl (by omega) ?_ | refine st_eqF rfl rfl rfl rfl rfl rfl (by omega) ?_ | refine st_lt rfl rfl rfl rfl rfl rfl ?_ | refine st_eq rfl rfl rfl rfl rfl rfl ?_ | refine st_add rfl rfl rfl rfl rfl rfl (by omega) ?_ | refine st_I rfl rfl rfl rfl rfl ?_ | refine st_B rfl rfl rfl rfl rfl ?_ | refine st_P rfl rfl rfl rfl rfl ?_ | refine st_T rfl rfl rfl rfl rfl ?_ | refine st_A rfl rfl rfl rfl rfl ?_ | refine st_U rfl rfl rfl rfl rfl ?_ | refine st_val (v := .pointer none) rfl rfl rfl rfl rfl ?_ | refine st_off rfl rfl rfl ?_)
        simp only [NV, reduceIte, Nat.reduceEqDiff, reduceCtorEq, Nat.one_ne_zero, Nat.zero_ne_one]
        exact cut_mk ⟨rfl, rfl, rfl, by rw [hm, decide_eq_false h45]; rfl, trivial⟩ ⟨rfl, rfl, rfl⟩
  rintro t _ _ _ ⟨rfl, rfl, rfl⟩
  simp only [NV, reduceIte, Nat.reduceEqDiff, reduceCtorEq, Nat.one_ne_zero, Nat.zero_ne_one]
  repeat (first | refine st_ltT rfl rfl rfl rfl rfl rfl (by omega) ?_ | refine st_ltF rfl rfl rfl rfl rfl rfl (by omega) ?_ | refine st_gtT rfl rfl rfl rfl rfl rfl (by omega) ?_ | refine st_gtF rfl rfl rfl rfl rfl rfl (by omega) ?_ | refine st_eqT rfl rfl rfl rfl rfl rfl (by omega) ?_ | refine st_eqF rfl rfl rfl rfl rfl rfl (by omega) ?_ | refine st_lt rfl rfl rfl rfl rfl rfl ?_ | refine st_eq rfl rfl rfl rfl rfl rfl ?_ | refine st_add rfl rfl rfl rfl rfl rfl (by omega) ?_ | refine st_I rfl rfl rfl rfl rfl ?_ | refine st_B rfl rfl rfl rfl rfl ?_ | refine st_P rfl rfl rfl rfl rfl ?_ | refine st_T rfl rfl rfl rfl rfl ?_ | refine st_A rfl rfl rfl rfl rfl ?_ | refine st_U rfl rfl rfl rfl rfl ?_ | refine st_val (v := .pointer none) rfl rfl rfl rfl rfl ?_ | refine st_off rfl rfl rfl ?_)
  simp only [NV, reduceIte, Nat.reduceEqDiff, reduceCtorEq, Nat.one_ne_zero, Nat.zero_ne_one]
  refine EC_cut [(0, .string ⟨⟨s⟩⟩), (2, .pointer (some ⟨3 * n + 2, 0, none⟩)), (4, .string ⟨⟨bodyOf s⟩⟩), (5, .bool (hasMinus s))] (fun h' n' w => h1 = h' ∧ n' = n + 1 ∧ w = []) ?_ ?_
  · by_cases hm : hasMinus s = true
    · rw [EC_cond_true (by show Value.bool (hasMinus s) = _; rw [hm])]
      simp only [NV, reduceIte, Nat.reduceEqDiff, reduceCtorEq, Nat.one_ne_zero, Nat.zero_ne_one]
      (first | refine st_I rfl rfl rfl rfl rfl ?_ | refine st_B rfl rfl rfl rfl rfl ?_ | refine st_P rfl rfl rfl rfl rfl ?_ | refine st_T rfl rfl rfl rfl rfl ?_ | refine st_A rfl rfl rfl rfl rfl ?_ | refine st_U rfl rfl rfl rfl rfl ?_ | refine st_val (v := .pointer none) rfl rfl rfl rfl rfl ?_ | refine st_off rfl rfl rfl ?_)
      have hs1 : 1 ≤ s.length := by
        unfold hasMinus at hm
        cases s with
        | nil => simp at hm
        | cons => simp
      refine st_strLo (j := 1) rfl rfl rfl rfl rfl rfl rfl rfl hs1 ?_
      repeat (first | refine st_ltT rfl rfl rfl rfl rfl rfl (by omega) ?_ | refine st_ltF rfl rfl rfl rfl rfl rfl (by omega) ?_ | refine st_gtT rfl rfl rfl rfl rfl rfl (by omega) ?_ | refine st_gtF rfl rfl rfl rfl rfl rfl (by omega) ?_ | refine st_eqT rfl rfl rfl rfl rfl rfl (by omega) ?_ | refine st_eqF rfl rfl rfl rfl rfl rfl (by omega) ?_ | refine st_lt rfl rfl rfl rfl rfl rfl ?_ | refine st_eq rfl rfl rfl rfl rfl rfl ?_ | refine st_add rfl rfl rfl rfl rfl rfl (by omega) ?_ | refine st_I rfl rfl rfl rfl rfl ?_ | refine st_B rfl rfl rfl rfl rfl ?_ | refine st_P rfl rfl rfl rfl rfl ?_ | refine st_T rfl rfl rfl rfl rfl ?_ | refine st_A rfl rfl rfl rfl rfl ?_ | refine st_U rfl rfl rfl rfl rfl ?_ | refine st_val (v := .pointer none) rfl rfl rfl rfl rfl ?_ | refine st_off rfl rfl rfl ?_)
      simp only [NV, reduceIte, Nat.reduceEqDiff, reduceCtorEq, Nat.one_ne_zero, Nat.zero_ne_one]
      exact cut_mk ⟨rfl, rfl, by unfold bodyOf; rw [if_pos hm]; rfl, rfl, trivial⟩ ⟨rfl, rfl, rfl⟩
    · rw [EC_cond_false (by show Value.bool (hasMinus s) = _; rw [Bool.eq_false_iff.2 hm])]
      simp only [NV, reduceIte, Nat.reduceEqDiff, reduceCtorEq, Nat.one_ne_zero, Nat.zero_ne_one]
      exact cut_mk ⟨rfl, rfl, by unfold bodyOf; rw [if_neg hm]; rfl, rfl, trivial⟩ ⟨rfl, rfl, rfl⟩
  rintro t _ _ _ ⟨rfl, rfl, rfl⟩
  generalize hT : bodyOf s = T at hbl
  simp only [NV, reduceIte, Nat.reduceEqDiff, reduceCtorEq, Nat.one_ne_zero, Nat.zero_ne_one]
  (first | refine st_I rfl rfl rfl rfl rfl ?_ | refine st_B rfl rfl rfl rfl rfl ?_ | refine st_P rfl rfl rfl rfl rfl ?_ | refine st_T rfl rfl rfl rfl rfl ?_ | refine st_A rfl rfl rfl rfl rfl ?_ | refine st_U rfl rfl rfl rfl rfl ?_ | refine st_val (v := .pointer none) rfl rfl rfl rfl rfl ?_ | refine st_off rfl rfl rfl ?_)
  refine st_I (ik := .i64) (a := (T.length : Int)) rfl rfl rfl rfl rfl ?_
  repeat (first | refine st_ltT rfl rfl rfl rfl rfl rfl (by omega) ?_ | refine st_ltF rfl rfl rfl rfl rfl rfl (by omega) ?_ | refine st_gtT rfl rfl rfl rfl rfl rfl (by omega) ?_ | refine st_gtF rfl rfl rfl rfl rfl rfl (by omega) ?_ | refine st_eqT rfl rfl rfl rfl rfl rfl (by omega) ?_ | refine st_eqF rfl rfl rfl rfl rfl rfl (by omega) ?_ | refine st_lt rfl rfl rfl rfl rfl rfl ?_ | refine st_eq rfl rfl rfl rfl rfl rfl ?_ | refine st_add rfl rfl rfl rfl rfl rfl (by omega) ?_ | refine st_I rfl rfl rfl rfl rfl ?_ | refine st_B rfl rfl rfl rfl rfl ?_ | refine st_P rfl rfl rfl rfl rfl ?_ | refine st_T rfl rfl rfl rfl rfl ?_ | refine st_A rfl rfl rfl rfl rfl ?_ | refine st_U rfl rfl rfl rfl rfl ?_ | refine st_val (v := .pointer none) rfl rfl rfl rfl rfl ?_ | refine st_off rfl rfl rfl ?_)
  simp only [NV, reduceIte, Nat.reduceEqDiff, reduceCtorEq, Nat.one_ne_zero, Nat.zero_ne_one]
  repeat (first | refine st_ltT rfl rfl rfl rfl rfl rfl (by omega) ?_ | refine st_ltF rfl rfl rfl rfl rfl rfl (by omega) ?_ | refine st_gtT rfl rfl rfl rfl rfl rfl (by omega) ?_ | refine st_gtF rfl rfl rfl rfl rfl rfl (by omega) ?_ | refine st_eqT rfl rfl rfl rfl rfl rfl (by omega) ?_ | refine st_eqF rfl rfl rfl rfl rfl rfl (by omega) ?_ | refine st_lt rfl rfl rfl rfl rfl rfl ?_ | refine st_eq rfl rfl rfl rfl rfl rfl ?_ | refine st_add rfl rfl rfl rfl rfl rfl (by omega) ?_ | refine st_I rfl rfl rfl rfl rfl ?_ | refine st_B rfl rfl rfl rfl rfl ?_ | refine st_P rfl rfl rfl rfl rfl ?_ | refine st_T rfl rfl rfl rfl rfl ?_ | refine st_A rfl rfl rfl rfl rfl ?_ | refine st_U rfl rfl rfl rfl rfl ?_ | refine st_val (v := .pointer none) rfl rfl rfl rfl rfl ?_ | refine st_off rfl rfl rfl ?_)
  simp only [EC_skip, EO_nil, after_normal, EC_seq]
  refine EC_cutx (α := Nat) (fun z => [(0, .string ⟨⟨s⟩⟩), (2, .pointer (some ⟨3 * n + 2, 0, none⟩)), (4, .string ⟨⟨T⟩⟩), (5, .bool (hasMinus s)), (6, .int .i64 (z : Int))]) (fun z h' n' w => h1 = h' ∧ n' = n + 1 ∧ w = [] ∧ Slash T z) ?_ ?_
  · simp only [NV, reduceIte, Nat.reduceEqDiff, reduceCtorEq, Nat.one_ne_zero, Nat.zero_ne_one]
    refine EC_for (α := Nat) (fun z => [(0, .string ⟨⟨s⟩⟩), (2, .pointer (some ⟨3 * n + 2, 0, none⟩)), (4, .string ⟨⟨T⟩⟩), (5, .bool (hasMinus s)), (6, .int .i64 (T.length : Int)), (7, .int .i64 (z : Int))]) (fun z h' n' w => h1 = h' ∧ n' = n + 1 ∧ w = [] ∧ z ≤ T.length ∧ ∀ i, i < z → T[i]? ≠ some 47) (fun z => T.length - z) 0 ⟨rfl, rfl, rfl, rfl, rfl, rfl, trivial⟩ ⟨rfl, rfl, rfl, Nat.zero_le _, fun i hi => absurd hi (Nat.not_lt_zero i)⟩ (by show T.length - 0 < LL; unfold LL; omega) ?_
    rintro z t _ _ _ ⟨rfl, rfl, rfl, hz, hno⟩
    simp only [NV, reduceIte, Nat.reduceEqDiff, reduceCtorEq, Nat.one_ne_zero, Nat.zero_ne_one]
    (first | refine st_I rfl rfl rfl rfl rfl ?_ | refine st_B rfl rfl rfl rfl rfl ?_ | refine st_P rfl rfl rfl rfl rfl ?_ | refine st_T rfl rfl rfl rfl rfl ?_ | refine st_A rfl rfl rfl rfl rfl ?_ | refine st_U rfl rfl rfl rfl rfl ?_ | refine st_val (v := .pointer none) rfl rfl rfl rfl rfl ?_ | refine st_off rfl rfl rfl ?_)
    (first | refine st_I rfl rfl rfl rfl rfl ?_ | refine st_B rfl rfl rfl rfl rfl ?_ | refine st_P rfl rfl rfl rfl rfl ?_ | refine st_T rfl rfl rfl rfl rfl ?_ | refine st_A rfl rfl rfl rfl rfl ?_ | refine st_U rfl rfl rfl rfl rfl ?_ | refine st_val (v := .pointer none) rfl rfl rfl rfl rfl ?_ | refine st_off rfl rfl rfl ?_)
    refine st_I (ik := .i64) (a := (T.length : Int)) rfl rfl rfl rfl rfl ?_
    by_cases hze : z = T.length
    · repeat (first | refine st_ltT rfl rfl rfl rfl rfl rfl (by omega) ?_ | refine st_ltF rfl rfl rfl rfl rfl rfl (by omega) ?_ | refine st_gtT rfl rfl rfl rfl rfl rfl (by omega) ?_ | refine st_gtF rfl rfl rfl rfl rfl rfl (by omega) ?_ | refine st_eqT rfl rfl rfl rfl rfl rfl (by omega) ?_ | refine st_eqF rfl rfl rfl rfl rfl rfl (by omega) ?_ | refine st_lt rfl rfl rfl rfl rfl rfl ?_ | refine st_eq rfl rfl rfl rfl rfl rfl ?_ | refine st_add rfl rfl rfl rfl rfl rfl (by omega) ?_ | refine st_I rfl rfl rfl rfl rfl ?_ | refine st_B rfl rfl rfl rfl rfl ?_ | refine st_P rfl rfl rfl rfl rfl ?_ | refine st_T rfl rfl rfl rfl rfl ?_ | refine st_A rfl rfl rfl rfl rfl ?_ | refine st_U rfl rfl rfl rfl rfl ?_ | refine st_val (v := .pointer none) rfl rfl rfl rfl rfl ?_ | refine st_off rfl rfl rfl ?_)
      simp only [NV, reduceIte, Nat.reduceEqDiff, reduceCtorEq, Nat.one_ne_zero, Nat.zero_ne_one]
      rw [EC_cond_false rfl]
      simp only [NV, reduceIte, Nat.reduceEqDiff, reduceCtorEq, Nat.one_ne_zero, Nat.zero_ne_one]
      exact cutx_mk T.length ⟨rfl, rfl, rfl, rfl, rfl, trivial⟩ ⟨rfl, rfl, rfl, Nat.le_refl _, by rw [← hze]; exact hno, .inl rfl⟩
    obtain ⟨b, hb⟩ : ∃ b, T[z]? = some b := ⟨T[z]'(by omega), List.getElem?_eq_getElem (by omega)⟩
    repeat (first | refine st_ltT rfl rfl rfl rfl rfl rfl (by omega) ?_ | refine st_ltF rfl rfl rfl rfl rfl rfl (by omega) ?_ | refine st_gtT rfl rfl rfl rfl rfl rfl (by omega) ?_ | refine st_gtF rfl rfl rfl rfl rfl rfl (by omega) ?_ | refine st_eqT rfl rfl rfl rfl rfl rfl (by omega) ?_ | refine st_eqF rfl rfl rfl rfl rfl rfl (by omega) ?_ | refine st_lt rfl rfl rfl rfl rfl rfl ?_ | refine st_eq rfl rfl rfl rfl rfl rfl ?_ | refine st_add rfl rfl rfl rfl rfl rfl (by omega) ?_ | refine st_I rfl rfl rfl rfl rfl ?_ | refine st_B rfl rfl rfl rfl rfl ?_ | refine st_P rfl rfl rfl rfl rfl ?_ | refine st_T rfl rfl rfl rfl rfl ?_ | refine st_A rfl rfl rfl rfl rfl ?_ | refine st_U rfl rfl rfl rfl rfl ?_ | refine st_val (v := .pointer none) rfl rfl rfl rfl rfl ?_ | refine st_off rfl rfl rfl ?_)
    simp only [NV, reduceIte, Nat.reduceEqDiff, reduceCtorEq, Nat.one_ne_zero, Nat.zero_ne_one]
    rw [EC_cond_true rfl]
    simp only [NV, reduceIte, Nat.reduceEqDiff, reduceCtorEq, Nat.one_ne_zero, Nat.zero_ne_one]
    (first | refine st_I rfl rfl rfl rfl rfl ?_ | refine st_B rfl rfl rfl rfl rfl ?_ | refine st_P rfl rfl rfl rfl rfl ?_ | refine st_T rfl rfl rfl rfl rfl ?_ | refine st_A rfl rfl rfl rfl rfl ?_ | refine st_U rfl rfl rfl rfl rfl ?_ | refine st_val (v := .pointer none) rfl rfl rfl rfl rfl ?_ | refine st_off rfl rfl rfl ?_)
    (first | refine st_I rfl rfl rfl rfl rfl ?_ | refine st_B rfl rfl rfl rfl rfl ?_ | refine st_P rfl rfl rfl rfl rfl ?_ | refine st_T rfl rfl rfl rfl rfl ?_ | refine st_A rfl rfl rfl rfl rfl ?_ | refine st_U rfl rfl rfl rfl rfl ?_ | refine st_val (v := .pointer none) rfl rfl rfl rfl rfl ?_ | refine st_off rfl rfl rfl ?_)
    refine st_byte (j := z) rfl rfl rfl rfl rfl rfl rfl rfl hb ?_
    by_cases h47 : b.toNat = 47
    · have hb47 : b = 47 := UInt8.toNat_inj.1 h47
      subst hb47
      repeat (first | refine st_ltT rfl rfl rfl rfl rfl rfl (by omega) ?_ | refine st_ltF rfl rfl rfl rfl rfl rfl (by omega) ?_ | refine st_gtT rfl rfl rfl rfl rfl rfl (by omega) ?_ | refine st_gtF rfl rfl rfl rfl rfl rfl (by omega) ?_ | refine st_eqT rfl rfl rfl rfl rfl rfl (by omega) ?_ | refine st_eqF rfl rfl rfl rfl rfl rfl (by omega) ?_ | refine st_lt rfl rfl rfl rfl rfl rfl ?_ | refine st_eq rfl rfl rfl rfl rfl rfl ?_ | refine st_add rfl rfl rfl rfl rfl rfl (by omega) ?_ | refine st_I rfl rfl rfl rfl rfl ?_ | refine st_B rfl rfl rfl rfl rfl ?_ | refine st_P rfl rfl rfl rfl rfl ?_ | refine st_T rfl rfl rfl rfl rfl ?_ | refine st_A rfl rfl rfl rfl rfl ?_ | refine st_U rfl rfl rfl rfl rfl ?_ | refine st_val (v := .pointer none) rfl rfl rfl rfl rfl ?_ | refine st_off rfl rfl rfl ?_)
      simp only [NV, reduceIte, Nat.reduceEqDiff, reduceCtorEq, Nat.one_ne_zero, Nat.zero_ne_one]
      rw [EC_cond_true rfl]
      simp only [NV, reduceIte, Nat.reduceEqDiff, reduceCtorEq, Nat.one_ne_zero, Nat.zero_ne_one]
      repeat (first | refine st_ltT rfl rfl rfl rfl rfl rfl (by omega) ?_ | refine st_ltF rfl rfl rfl rfl rfl rfl (by omega) ?_ | refine st_gtT rfl rfl rfl rfl rfl rfl (by omega) ?_ | refine st_gtF rfl rfl rfl rfl rfl rfl (by omega) ?_ | refine st_eqT rfl rfl rfl rfl rfl rfl (by omega) ?_ | refine st_eqF rfl rfl rfl rfl rfl rfl (by omega) ?_ | refine st_lt rfl rfl rfl rfl rfl rfl ?_ | refine st_eq rfl rfl rfl rfl rfl rfl ?_ | refine st_add rfl rfl rfl rfl rfl rfl (by omega) ?_ | refine st_I rfl rfl rfl rfl rfl ?_ | refine st_B rfl rfl rfl rfl rfl ?_ | refine st_P rfl rfl rfl rfl rfl ?_ | refine st_T rfl rfl rfl rfl rfl ?_ | refine st_A rfl rfl rfl rfl rfl ?_ | refine st_U rfl rfl rfl rfl rfl ?_ | refine st_val (v := .pointer none) rfl rfl rfl rfl rfl ?_ | refine st_off rfl rfl rfl ?_)
      simp only [NV, reduceIte, Nat.reduceEqDiff, reduceCtorEq, Nat.one_ne_zero, Nat.zero_ne_one]
      exact cutx_mk z ⟨rfl, rfl, rfl, rfl, rfl, trivial⟩ ⟨rfl, rfl, rfl, hz, hno, .inr hb⟩
    · repeat (first | refine st_ltT rfl rfl rfl rfl rfl rfl (by omega) ?_ | refine st_ltF rfl rfl rfl rfl rfl rfl (by omega) ?_ | refine st_gtT rfl rfl rfl rfl rfl rfl (by omega) ?_ | refine st_gtF rfl rfl rfl rfl rfl rfl (by omega) ?_ | refine st_eqT rfl rfl rfl rfl rfl rfl (by omega) ?_ | refine st_eqF rfl rfl rfl rfl rfl rfl (by omega) ?_ | refine st_lt rfl rfl rfl rfl rfl rfl ?_ | refine st_eq rfl rfl rfl rfl rfl rfl ?_ | refine st_add rfl rfl rfl rfl rfl rfl (by omega) ?_ | refine st_I rfl rfl rfl rfl rfl ?_ | refine st_B rfl rfl rfl rfl rfl ?_ | refine st_P rfl rfl rfl rfl rfl ?_ | refine st_T rfl rfl rfl rfl rfl ?_ | refine st_A rfl rfl rfl rfl rfl ?_ | refine st_U rfl rfl rfl rfl rfl ?_ | refine st_val (v := .pointer none) rfl rfl rfl rfl rfl ?_ | refine st_off rfl rfl rfl ?_)
      simp only [NV, reduceIte, Nat.reduceEqDiff, reduceCtorEq, Nat.one_ne_zero, Nat.zero_ne_one]
      rw [EC_cond_false rfl]
      simp only [NV, reduceIte, Nat.reduceEqDiff, reduceCtorEq, Nat.one_ne_zero, Nat.zero_ne_one]
      repeat (first | refine st_ltT rfl rfl rfl rfl rfl rfl (by omega) ?_ | refine st_ltF rfl rfl rfl rfl rfl rfl (by omega) ?_ | refine st_gtT rfl rfl rfl rfl rfl rfl (by omega) ?_ | refine st_gtF rfl rfl rfl rfl rfl rfl (by omega) ?_ | refine st_eqT rfl rfl rfl rfl rfl rfl (by omega) ?_ | refine st_eqF rfl rfl rfl rfl rfl rfl (by omega) ?_ | refine st_lt rfl rfl rfl rfl rfl rfl ?_ | refine st_eq rfl rfl rfl rfl rfl rfl ?_ | refine st_add rfl rfl rfl rfl rfl rfl (by omega) ?_ | refine st_I rfl rfl rfl rfl rfl ?_ | refine st_B rfl rfl rfl rfl rfl ?_ | refine st_P rfl rfl rfl rfl rfl ?_ | refine st_T rfl rfl rfl rfl rfl ?_ | refine st_A rfl rfl rfl rfl rfl ?_ | refine st_U rfl rfl rfl rfl rfl ?_ | refine st_val (v := .pointer none) rfl rfl rfl rfl rfl ?_ | refine st_off rfl rfl rfl ?_)
      simp only [NV, reduceIte, Nat.reduceEqDiff, reduceCtorEq, Nat.one_ne_zero, Nat.zero_ne_one]
      refine goOn (z + 1) (by show T.length - (z + 1) < T.length - z; omega) ⟨rfl, rfl, rfl, rfl, rfl, by show Value.int .i64 _ = Value.int .i64 _; congr 1, trivial⟩ ⟨rfl, rfl, rfl, by show z + 1 ≤ T.length; omega, fun i hi => ?_⟩
      by_cases hiz : i < z
      · exact hno i hiz
      · have : i = z := by omega
        subst this
        rw [hb]
        intro e
        injection e with e
        subst e
        exact h47 rfl
  rintro z t _ _ _ ⟨rfl, rfl, rfl, hsl⟩
  simp only [NV, reduceIte, Nat.reduceEqDiff, reduceCtorEq, Nat.one_ne_zero, Nat.zero_ne_one]
  have hzl : z ≤ T.length := hsl.1
  have hparts : ∀ q0, ratT q0 = s → hasMinus s = decide (q0.num < 0) ∧ T.take z = decT q0.num.natAbs ∧ (q0.den = 1 → z = T.length) ∧ (q0.den ≠ 1 → z < T.length ∧ T.drop (z + 1) = decT q0.den) := by
    intro q0 hq0
    have := ratT_parts hq0 (j := z) (by rw [hT]; exact hsl)
    rw [hT] at this
    exact this
  (first | refine st_I rfl rfl rfl rfl rfl ?_ | refine st_B rfl rfl rfl rfl rfl ?_ | refine st_P rfl rfl rfl rfl rfl ?_ | refine st_T rfl rfl rfl rfl rfl ?_ | refine st_A rfl rfl rfl rfl rfl ?_ | refine st_U rfl rfl rfl rfl rfl ?_ | refine st_val (v := .pointer none) rfl rfl rfl rfl rfl ?_ | refine st_off rfl rfl rfl ?_)
  (first | refine st_I rfl rfl rfl rfl rfl ?_ | refine st_B rfl rfl rfl rfl rfl ?_ | refine st_P rfl rfl rfl rfl rfl ?_ | refine st_T rfl rfl rfl rfl rfl ?_ | refine st_A rfl rfl rfl rfl rfl ?_ | refine st_U rfl rfl rfl rfl rfl ?_ | refine st_val (v := .pointer none) rfl rfl rfl rfl rfl ?_ | refine st_off rfl rfl rfl ?_)
  refine st_strHi (j := z) rfl rfl rfl rfl rfl rfl rfl rfl hzl ?_
  have htl : (T.take z).length ≤ s.length := by rw [List.length_take]; omega
  refine st_call _ rfl rfl rfl rfl rfl (fromDigits_ok (k + 2) _ _ (T.take z) (by omega)) ?_
  rintro _ h2 n2 _ ⟨rfl, hn2, hx2, c1, c2, L, ok, x, rfl, ix, hLl, fx, hok1, hok2⟩
  repeat (first | refine st_ltT rfl rfl rfl rfl rfl rfl (by omega) ?_ | refine st_ltF rfl rfl rfl rfl rfl rfl (by omega) ?_ | refine st_gtT rfl rfl rfl rfl rfl rfl (by omega) ?_ | refine st_gtF rfl rfl rfl rfl rfl rfl (by omega) ?_ | refine st_eqT rfl rfl rfl rfl rfl rfl (by omega) ?_ | refine st_eqF rfl rfl rfl rfl rfl rfl (by omega) ?_ | refine st_lt rfl rfl rfl rfl rfl rfl ?_ | refine st_eq rfl rfl rfl rfl rfl rfl ?_ | refine st_add rfl rfl rfl rfl rfl rfl (by omega) ?_ | refine st_I rfl rfl rfl rfl rfl ?_ | refine st_B rfl rfl rfl rfl rfl ?_ | refine st_P rfl rfl rfl rfl rfl ?_ | refine st_T rfl rfl rfl rfl rfl ?_ | refine st_A rfl rfl rfl rfl rfl ?_ | refine st_U rfl rfl rfl rfl rfl ?_ | refine st_val (v := .pointer none) rfl rfl rfl rfl rfl ?_ | refine st_off rfl rfl rfl ?_)
  refine st_alloc rfl rfl rfl rfl rfl ?_
  refine st_storeW [c1, c2] rfl rfl rfl rfl rfl rfl rfl ix.ones (upd_same _ _ _) rfl (by show 3 * n ≤ _; omega) ?_
  rw [upd_upd]
  generalize hh : upd h2 (3 * n2 + 2) _ = h3
  have hx3 : Ext n2 h2 h3 := by rw [← hh]; exact Ext.upd (by omega)
  have hp8 : ∃ e, h3 (3 * n2 + 2) = some (.row [c1, c2] e) := ⟨_, by rw [← hh, upd_same]⟩
  clear hh
  obtain ⟨e8, hp8⟩ := hp8
  have ix3 := ix.ext hx3 (Nat.le_succ _)
  have hr3 : h3 (3 * n + 2) = _ := (hx3 _ (by omega)).trans ((hx2 _ (by omega)).trans hr1)
  have hx13 : Ext n h h3 := fun b hb => (hx3 b (by omega)).trans ((hx2 b (by omega)).trans (hx1 b hb))
  repeat (first | refine st_ltT rfl rfl rfl rfl rfl rfl (by omega) ?_ | refine st_ltF rfl rfl rfl rfl rfl rfl (by omega) ?_ | refine st_gtT rfl rfl rfl rfl rfl rfl (by omega) ?_ | refine st_gtF rfl rfl rfl rfl rfl rfl (by omega) ?_ | refine st_eqT rfl rfl rfl rfl rfl rfl (by omega) ?_ | refine st_eqF rfl rfl rfl rfl rfl rfl (by omega) ?_ | refine st_lt rfl rfl rfl rfl rfl rfl ?_ | refine st_eq rfl rfl rfl rfl rfl rfl ?_ | refine st_add rfl rfl rfl rfl rfl rfl (by omega) ?_ | refine st_I rfl rfl rfl rfl rfl ?_ | refine st_B rfl rfl rfl rfl rfl ?_ | refine st_P rfl rfl rfl rfl rfl ?_ | refine st_T rfl rfl rfl rfl rfl ?_ | refine st_A rfl rfl rfl rfl rfl ?_ | refine st_U rfl rfl rfl rfl rfl ?_ | refine st_val (v := .pointer none) rfl rfl rfl rfl rfl ?_ | refine st_off rfl rfl rfl ?_)
  simp only [NV, reduceIte, Nat.reduceEqDiff, reduceCtorEq, Nat.one_ne_zero, Nat.zero_ne_one]
  cases ok with
  | false =>
    repeat (first | refine st_ltT rfl rfl rfl rfl rfl rfl (by omega) ?_ | refine st_ltF rfl rfl rfl rfl rfl rfl (by omega) ?_ | refine st_gtT rfl rfl rfl rfl rfl rfl (by omega) ?_ | refine st_gtF rfl rfl rfl rfl rfl rfl (by omega) ?_ | refine st_eqT rfl rfl rfl rfl rfl rfl (by omega) ?_ | refine st_eqF rfl rfl rfl rfl rfl rfl (by omega) ?_ | refine st_lt rfl rfl rfl rfl rfl rfl ?_ | refine st_eq rfl rfl rfl rfl rfl rfl ?_ | refine st_add rfl rfl rfl rfl rfl rfl (by omega) ?_ | refine st_I rfl rfl rfl rfl rfl ?_ | refine st_B rfl rfl rfl rfl rfl ?_ | refine st_P rfl rfl rfl rfl rfl ?_ | refine st_T rfl rfl rfl rfl rfl ?_ | refine st_A rfl rfl rfl rfl rfl ?_ | refine st_U rfl rfl rfl rfl rfl ?_ | refine st_val (v := .pointer none) rfl rfl rfl rfl rfl ?_ | refine st_off rfl rfl rfl ?_)
    simp only [NV, reduceIte, Nat.reduceEqDiff, reduceCtorEq, Nat.one_ne_zero, Nat.zero_ne_one]
    rw [EC_cond_true rfl]
    simp only [NV, reduceIte, Nat.reduceEqDiff, reduceCtorEq, Nat.one_ne_zero, Nat.zero_ne_one]
    refine st_val (v := .agg #[.bool false, .slice none 0 0, .bool false, .slice none 0 0]) rfl rfl rfl rfl rfl ?_
    refine st_storeW [.bool false, .slice none 0 0, .bool false, .slice none 0 0] rfl rfl rfl rfl rfl rfl rfl rfl hr3 rfl (by show 3 * n ≤ _; omega) ?_
    repeat (first | refine st_ltT rfl rfl rfl rfl rfl rfl (by omega) ?_ | refine st_ltF rfl rfl rfl rfl rfl rfl (by omega) ?_ | refine st_gtT rfl rfl rfl rfl rfl rfl (by omega) ?_ | refine st_gtF rfl rfl rfl rfl rfl rfl (by omega) ?_ | refine st_eqT rfl rfl rfl rfl rfl rfl (by omega) ?_ | refine st_eqF rfl rfl rfl rfl rfl rfl (by omega) ?_ | refine st_lt rfl rfl rfl rfl rfl rfl ?_ | refine st_eq rfl rfl rfl rfl rfl rfl ?_ | refine st_add rfl rfl rfl rfl rfl rfl (by omega) ?_ | refine st_I rfl rfl rfl rfl rfl ?_ | refine st_B rfl rfl rfl rfl rfl ?_ | refine st_P rfl rfl rfl rfl rfl ?_ | refine st_T rfl rfl rfl rfl rfl ?_ | refine st_A rfl rfl rfl rfl rfl ?_ | refine st_U rfl rfl rfl rfl rfl ?_ | refine st_val (v := .pointer none) rfl rfl rfl rfl rfl ?_ | refine st_off rfl rfl rfl ?_)
    simp only [NV, reduceIte, Nat.reduceEqDiff, reduceCtorEq, Nat.one_ne_zero, Nat.zero_ne_one]
    refine retCellT rfl rfl rfl rfl rfl rfl (upd_same _ _ _) rfl rfl ⟨rfl, by show n ≤ n2 + 1; omega, fun b hb => (upd_ne (by omega)).trans (hx13 b hb), _, _, _, _, 0, [], [], false, rfl, RatR.zero _ _, Nat.zero_le _, Nat.zero_le _, trivial, trivial, fun h => absurd h (by simp), ?_⟩
    rintro ⟨q0, hq0⟩
    obtain ⟨_, p2, _, _⟩ := hparts q0 hq0
    have hd := decT_all q0.num.natAbs
    rw [← p2] at hd
    exact absurd (hok1 ⟨hd.1, hd.2.2⟩).1 (by simp)
  | true =>
  repeat (first | refine st_ltT rfl rfl rfl rfl rfl rfl (by omega) ?_ | refine st_ltF rfl rfl rfl rfl rfl rfl (by omega) ?_ | refine st_gtT rfl rfl rfl rfl rfl rfl (by omega) ?_ | refine st_gtF rfl rfl rfl rfl rfl rfl (by omega) ?_ | refine st_eqT rfl rfl rfl rfl rfl rfl (by omega) ?_ | refine st_eqF rfl rfl rfl rfl rfl rfl (by omega) ?_ | refine st_lt rfl rfl rfl rfl rfl rfl ?_ | refine st_eq rfl rfl rfl rfl rfl rfl ?_ | refine st_add rfl rfl rfl rfl rfl rfl (by omega) ?_ | refine st_I rfl rfl rfl rfl rfl ?_ | refine st_B rfl rfl rfl rfl rfl ?_ | refine st_P rfl rfl rfl rfl rfl ?_ | refine st_T rfl rfl rfl rfl rfl ?_ | refine st_A rfl rfl rfl rfl rfl ?_ | refine st_U rfl rfl rfl rfl rfl ?_ | refine st_val (v := .pointer none) rfl rfl rfl rfl rfl ?_ | refine st_off rfl rfl rfl ?_)
  simp only [NV, reduceIte, Nat.reduceEqDiff, reduceCtorEq, Nat.one_ne_zero, Nat.zero_ne_one]
  rw [EC_cond_false rfl]
  simp only [NV, reduceIte, Nat.reduceEqDiff, reduceCtorEq, Nat.one_ne_zero, Nat.zero_ne_one]
  have hall := hok2 rfl
  have hxv := (hok1 hall).2
  obtain ⟨a, len, cap, rfl, _⟩ := ix3.sl.len
  have e1 := ix3.sl.lenU
  subst e1
  repeat (first | refine st_ltT rfl rfl rfl rfl rfl rfl (by omega) ?_ | refine st_ltF rfl rfl rfl rfl rfl rfl (by omega) ?_ | refine st_gtT rfl rfl rfl rfl rfl rfl (by omega) ?_ | refine st_gtF rfl rfl rfl rfl rfl rfl (by omega) ?_ | refine st_eqT rfl rfl rfl rfl rfl rfl (by omega) ?_ | refine st_eqF rfl rfl rfl rfl rfl rfl (by omega) ?_ | refine st_lt rfl rfl rfl rfl rfl rfl ?_ | refine st_eq rfl rfl rfl rfl rfl rfl ?_ | refine st_add rfl rfl rfl rfl rfl rfl (by omega) ?_ | refine st_I rfl rfl rfl rfl rfl ?_ | refine st_B rfl rfl rfl rfl rfl ?_ | refine st_P rfl rfl rfl rfl rfl ?_ | refine st_T rfl rfl rfl rfl rfl ?_ | refine st_A rfl rfl rfl rfl rfl ?_ | refine st_U rfl rfl rfl rfl rfl ?_ | refine st_val (v := .pointer none) rfl rfl rfl rfl rfl ?_ | refine st_off rfl rfl rfl ?_)
  refine st_load1 rfl rfl rfl rfl rfl rfl hp8 rfl (v := .slice a L.length cap) rfl ?_
  refine st_call _ rfl rfl rfl rfl rfl (make1_ok (k + 4) _ _ (hasMinus s) a L.length cap) ?_
  rintro _ h4 n4 _ ⟨rfl, rfl, rfl, hx4⟩
  refine st_val (v := .agg #[.bool (hasMinus s && decide (0 < L.length)), .slice a L.length cap, .bool false, .slice none 0 0]) rfl rfl rfl rfl rfl ?_
  refine st_alloc rfl rfl rfl rfl rfl ?_
  refine st_storeW [.bool (hasMinus s && decide (0 < L.length)), .slice a L.length cap, .bool false, .slice none 0 0] rfl rfl rfl rfl rfl rfl rfl rfl (upd_same _ _ _) rfl (by show 3 * n ≤ _; omega) ?_
  rw [upd_upd]
  generalize hh : upd h4 (3 * (n2 + 1 + 1) + 2) _ = h5
  have hx5 : Ext (n2 + 1 + 1) h4 h5 := by rw [← hh]; exact Ext.upd (by omega)
  have hp10 : ∃ e, h5 (3 * (n2 + 1 + 1) + 2) = some (.row [.bool (hasMinus s && decide (0 < L.length)), .slice a L.length cap, .bool false, .slice none 0 0] e) := ⟨_, by rw [← hh, upd_same]⟩
  clear hh
  have hr5 : h5 (3 * n + 2) = _ := (hx5 _ (by omega)).trans ((hx4 _ (by omega)).trans hr3)
  have hx15 : Ext n h h5 := fun b hb => (hx5 b (by omega)).trans ((hx4 b (by omega)).trans (hx13 b hb))
  obtain ⟨x', hx'⟩ : ∃ x' : Int, x' = if hasMinus s then -(x : Int) else x := ⟨_, rfl⟩
  have iN : IntR h5 (n2 + 1 + 1 + 1) (.bool (hasMinus s && decide (0 < L.length))) (.slice a L.length cap) x' L := by
    refine mk1_int ((ix3.sl.ext hx4 (Nat.le_succ _)).ext hx5 (Nat.le_succ _)) ix3.norm ?_ fun h0 => ?_
    · rw [ix3.val, hx']; split <;> omega
    · rw [hx'] at h0 ⊢
      by_cases hm : hasMinus s = true
      · rw [if_pos hm] at h0 ⊢
        rw [hm, decide_eq_true (by omega)]
      · rw [if_neg hm, Bool.eq_false_iff.2 hm, decide_eq_false (by omega)]
  have hnum : ∀ q0, ratT q0 = s → x' = q0.num := by
    intro q0 hq0
    obtain ⟨p1, p2, _, _⟩ := hparts q0 hq0
    rw [hx', hxv, p2, (decT_all _).2.1, p1]
    by_cases hn : q0.num < 0
    · rw [if_pos (decide_eq_true hn)]; omega
    · rw [if_neg (by simpa using hn)]; omega
  clear hx'
  simp only [NV, reduceIte, Nat.reduceEqDiff, reduceCtorEq, Nat.one_ne_zero, Nat.zero_ne_one]
  (first | refine st_I rfl rfl rfl rfl rfl ?_ | refine st_B rfl rfl rfl rfl rfl ?_ | refine st_P rfl rfl rfl rfl rfl ?_ | refine st_T rfl rfl rfl rfl rfl ?_ | refine st_A rfl rfl rfl rfl rfl ?_ | refine st_U rfl rfl rfl rfl rfl ?_ | refine st_val (v := .pointer none) rfl rfl rfl rfl rfl ?_ | refine st_off rfl rfl rfl ?_)
  (first | refine st_I rfl rfl rfl rfl rfl ?_ | refine st_B rfl rfl rfl rfl rfl ?_ | refine st_P rfl rfl rfl rfl rfl ?_ | refine st_T rfl rfl rfl rfl rfl ?_ | refine st_A rfl rfl rfl rfl rfl ?_ | refine st_U rfl rfl rfl rfl rfl ?_ | refine st_val (v := .pointer none) rfl rfl rfl rfl rfl ?_ | refine st_off rfl rfl rfl ?_)
  refine st_I (ik := .i64) (a := (T.length : Int)) rfl rfl rfl rfl rfl ?_
  refine st_lt rfl rfl rfl rfl rfl rfl ?_
  simp only [NV, reduceIte, Nat.reduceEqDiff, reduceCtorEq, Nat.one_ne_zero, Nat.zero_ne_one]
  refine EC_cutx (α := (Value × Value × Value × Value) × Rat × List Nat × List Nat) (fun _ => [(0, .string ⟨⟨s⟩⟩), (2, .pointer (some ⟨3 * n + 2, 0, none⟩)), (10, .pointer (some ⟨3 * (n2 + 1 + 1) + 2, 0, none⟩))])
    (fun z h' n' w => w = [] ∧ n2 + 1 + 1 + 1 ≤ n' ∧ Ext n h h' ∧ h' (3 * n + 2) = some (.row [.bool false, .slice none 0 0, .bool false, .slice none 0 0] e1) ∧ (∃ e, h' (3 * (n2 + 1 + 1) + 2) = some (.row [z.1.1, z.1.2.1, z.1.2.2.1, z.1.2.2.2] e)) ∧ RatR h' n' z.1.1 z.1.2.1 z.1.2.2.1 z.1.2.2.2 z.2.1 z.2.2.1 z.2.2.2 ∧ z.2.2.1.length ≤ s.length ∧ z.2.2.2.length ≤ s.length ∧ Fresh (n + 1) z.1.2.1 ∧ Fresh (n + 1) z.1.2.2.2 ∧ ∀ q0, ratT q0 = s → z.2.1 = q0) ?_ ?_
  · by_cases hzT : (z : Int) < (T.length : Int)
    · rw [EC_cond_true (by show Value.bool (decide ((z : Int) < (T.length : Int))) = _; rw [decide_eq_true hzT])]
      simp only [NV, reduceIte, Nat.reduceEqDiff, reduceCtorEq, Nat.one_ne_zero, Nat.zero_ne_one]
      repeat (first | refine st_ltT rfl rfl rfl rfl rfl rfl (by omega) ?_ | refine st_ltF rfl rfl rfl rfl rfl rfl (by omega) ?_ | refine st_gtT rfl rfl rfl rfl rfl rfl (by omega) ?_ | refine st_gtF rfl rfl rfl rfl rfl rfl (by omega) ?_ | refine st_eqT rfl rfl rfl rfl rfl rfl (by omega) ?_ | refine st_eqF rfl rfl rfl rfl rfl rfl (by omega) ?_ | refine st_lt rfl rfl rfl rfl rfl rfl ?_ | refine st_eq rfl rfl rfl rfl rfl rfl ?_ | refine st_add rfl rfl rfl rfl rfl rfl (by omega) ?_ | refine st_I rfl rfl rfl rfl rfl ?_ | refine st_B rfl rfl rfl rfl rfl ?_ | refine st_P rfl rfl rfl rfl rfl ?_ | refine st_T rfl rfl rfl rfl rfl ?_ | refine st_A rfl rfl rfl rfl rfl ?_ | refine st_U rfl rfl rfl rfl rfl ?_ | refine st_val (v := .pointer none) rfl rfl rfl rfl rfl ?_ | refine st_off rfl rfl rfl ?_)
      refine st_strLo (j := z + 1) rfl rfl rfl rfl rfl rfl rfl rfl (by omega) ?_
      have hdl : (T.drop (z + 1)).length ≤ s.length := by rw [List.length_drop]; omega
      refine st_call _ rfl rfl rfl rfl rfl (fromDigits_ok (k + 2) _ _ (T.drop (z + 1)) (by omega)) ?_
      rintro _ h6 n6 _ ⟨rfl, hn6, hx6, d1, d2, D, okd, y, rfl, iy, hDl, fy, hokd1, hokd2⟩
      repeat (first | refine st_ltT rfl rfl rfl rfl rfl rfl (by omega) ?_ | refine st_ltF rfl rfl rfl rfl rfl rfl (by omega) ?_ | refine st_gtT rfl rfl rfl rfl rfl rfl (by omega) ?_ | refine st_gtF rfl rfl rfl rfl rfl rfl (by omega) ?_ | refine st_eqT rfl rfl rfl rfl rfl rfl (by omega) ?_ | refine st_eqF rfl rfl rfl rfl rfl rfl (by omega) ?_ | refine st_lt rfl rfl rfl rfl rfl rfl ?_ | refine st_eq rfl rfl rfl rfl rfl rfl ?_ | refine st_add rfl rfl rfl rfl rfl rfl (by omega) ?_ | refine st_I rfl rfl rfl rfl rfl ?_ | refine st_B rfl rfl rfl rfl rfl ?_ | refine st_P rfl rfl rfl rfl rfl ?_ | refine st_T rfl rfl rfl rfl rfl ?_ | refine st_A rfl rfl rfl rfl rfl ?_ | refine st_U rfl rfl rfl rfl rfl ?_ | refine st_val (v := .pointer none) rfl rfl rfl rfl rfl ?_ | refine st_off rfl rfl rfl ?_)
      refine st_alloc rfl rfl rfl rfl rfl ?_
      refine st_storeW [d1, d2] rfl rfl rfl rfl rfl rfl rfl iy.ones (upd_same _ _ _) rfl (by show 3 * n ≤ _; omega) ?_
      rw [upd_upd]
      generalize hh : upd h6 (3 * n6 + 2) _ = h7
      have hx7 : Ext n6 h6 h7 := by rw [← hh]; exact Ext.upd (by omega)
      have hp11 : ∃ e, h7 (3 * n6 + 2) = some (.row [d1, d2] e) := ⟨_, by rw [← hh, upd_same]⟩
      clear hh
      obtain ⟨e11, hp11⟩ := hp11
      have hr7 : h7 (3 * n + 2) = _ := (hx7 _ (by omega)).trans ((hx6 _ (by omega)).trans hr5)
      have hx17 : Ext n h h7 := fun b hb => (hx7 b (by omega)).trans ((hx6 b (by omega)).trans (hx15 b hb))
      have iy7 := iy.ext hx7 (Nat.le_succ _)
      have hden : ∀ q0, ratT q0 = s → okd = true ∧ y = q0.den := by
        intro q0 hq0
        obtain ⟨p1, p2, p3, p4⟩ := hparts q0 hq0
        have hd1 : q0.den ≠ 1 := fun e => by have := p3 e; omega
        have hd := decT_all q0.den
        rw [← (p4 hd1).2] at hd
        have := hokd1 ⟨hd.1, hd.2.2⟩
        rw [hd.2.1] at this
        exact this
      repeat (first | refine st_ltT rfl rfl rfl rfl rfl rfl (by omega) ?_ | refine st_ltF rfl rfl rfl rfl rfl rfl (by omega) ?_ | refine st_gtT rfl rfl rfl rfl rfl rfl (by omega) ?_ | refine st_gtF rfl rfl rfl rfl rfl rfl (by omega) ?_ | refine st_eqT rfl rfl rfl rfl rfl rfl (by omega) ?_ | refine st_eqF rfl rfl rfl rfl rfl rfl (by omega) ?_ | refine st_lt rfl rfl rfl rfl rfl rfl ?_ | refine st_eq rfl rfl rfl rfl rfl rfl ?_ | refine st_add rfl rfl rfl rfl rfl rfl (by omega) ?_ | refine st_I rfl rfl rfl rfl rfl ?_ | refine st_B rfl rfl rfl rfl rfl ?_ | refine st_P rfl rfl rfl rfl rfl ?_ | refine st_T rfl rfl rfl rfl rfl ?_ | refine st_A rfl rfl rfl rfl rfl ?_ | refine st_U rfl rfl rfl rfl rfl ?_ | refine st_val (v := .pointer none) rfl rfl rfl rfl rfl ?_ | refine st_off rfl rfl rfl ?_)
      simp only [NV, reduceIte, Nat.reduceEqDiff, reduceCtorEq, Nat.one_ne_zero, Nat.zero_ne_one]
      by_cases hfine : okd = true ∧ y ≠ 0
      · obtain ⟨rfl, hy0⟩ := hfine
        repeat (first | refine st_ltT rfl rfl rfl rfl rfl rfl (by omega) ?_ | refine st_ltF rfl rfl rfl rfl rfl rfl (by omega) ?_ | refine st_gtT rfl rfl rfl rfl rfl rfl (by omega) ?_ | refine st_gtF rfl rfl rfl rfl rfl rfl (by omega) ?_ | refine st_eqT rfl rfl rfl rfl rfl rfl (by omega) ?_ | refine st_eqF rfl rfl rfl rfl rfl rfl (by omega) ?_ | refine st_lt rfl rfl rfl rfl rfl rfl ?_ | refine st_eq rfl rfl rfl rfl rfl rfl ?_ | refine st_add rfl rfl rfl rfl rfl rfl (by omega) ?_ | refine st_I rfl rfl rfl rfl rfl ?_ | refine st_B rfl rfl rfl rfl rfl ?_ | refine st_P rfl rfl rfl rfl rfl ?_ | refine st_T rfl rfl rfl rfl rfl ?_ | refine st_A rfl rfl rfl rfl rfl ?_ | refine st_U rfl rfl rfl rfl rfl ?_ | refine st_val (v := .pointer none) rfl rfl rfl rfl rfl ?_ | refine st_off rfl rfl rfl ?_)
        refine st_load (v := .agg #[d1, d2]) rfl rfl rfl rfl rfl (loadn_eq rfl rfl hp11 rfl (Nat.le_of_ble_eq_true rfl) rfl) ?_
        refine st_vf _ rfl rfl rfl rfl rfl (sign_ok (k + 4) iy7) ?_
        rintro _ rfl
        rw [Int.sign_eq_one_of_pos (by omega)]
        repeat (first | refine st_ltT rfl rfl rfl rfl rfl rfl (by omega) ?_ | refine st_ltF rfl rfl rfl rfl rfl rfl (by omega) ?_ | refine st_gtT rfl rfl rfl rfl rfl rfl (by omega) ?_ | refine st_gtF rfl rfl rfl rfl rfl rfl (by omega) ?_ | refine st_eqT rfl rfl rfl rfl rfl rfl (by omega) ?_ | refine st_eqF rfl rfl rfl rfl rfl rfl (by omega) ?_ | refine st_lt rfl rfl rfl rfl rfl rfl ?_ | refine st_eq rfl rfl rfl rfl rfl rfl ?_ | refine st_add rfl rfl rfl rfl rfl rfl (by omega) ?_ | refine st_I rfl rfl rfl rfl rfl ?_ | refine st_B rfl rfl rfl rfl rfl ?_ | refine st_P rfl rfl rfl rfl rfl ?_ | refine st_T rfl rfl rfl rfl rfl ?_ | refine st_A rfl rfl rfl rfl rfl ?_ | refine st_U rfl rfl rfl rfl rfl ?_ | refine st_val (v := .pointer none) rfl rfl rfl rfl rfl ?_ | refine st_off rfl rfl rfl ?_)
        simp only [NV, reduceIte, Nat.reduceEqDiff, reduceCtorEq, Nat.one_ne_zero, Nat.zero_ne_one]
        rw [EC_cond_false rfl]
        simp only [NV, reduceIte, Nat.reduceEqDiff, reduceCtorEq, Nat.one_ne_zero, Nat.zero_ne_one]
        obtain ⟨e10, hp10⟩ := hp10
        have hp10' : h7 (3 * (n2 + 1 + 1) + 2) = _ := (hx7 _ (by omega)).trans ((hx6 _ (by omega)).trans hp10)
        repeat (first | refine st_ltT rfl rfl rfl rfl rfl rfl (by omega) ?_ | refine st_ltF rfl rfl rfl rfl rfl rfl (by omega) ?_ | refine st_gtT rfl rfl rfl rfl rfl rfl (by omega) ?_ | refine st_gtF rfl rfl rfl rfl rfl rfl (by omega) ?_ | refine st_eqT rfl rfl rfl rfl rfl rfl (by omega) ?_ | refine st_eqF rfl rfl rfl rfl rfl rfl (by omega) ?_ | refine st_lt rfl rfl rfl rfl rfl rfl ?_ | refine st_eq rfl rfl rfl rfl rfl rfl ?_ | refine st_add rfl rfl rfl rfl rfl rfl (by omega) ?_ | refine st_I rfl rfl rfl rfl rfl ?_ | refine st_B rfl rfl rfl rfl rfl ?_ | refine st_P rfl rfl rfl rfl rfl ?_ | refine st_T rfl rfl rfl rfl rfl ?_ | refine st_A rfl rfl rfl rfl rfl ?_ | refine st_U rfl rfl rfl rfl rfl ?_ | refine st_val (v := .pointer none) rfl rfl rfl rfl rfl ?_ | refine st_off rfl rfl rfl ?_)
        refine st_load (v := .agg #[.bool (hasMinus s && decide (0 < L.length)), .slice a L.length cap]) rfl rfl rfl rfl rfl (loadn_eq rfl rfl hp10' rfl (Nat.le_of_ble_eq_true rfl) rfl) ?_
        refine st_load (v := .agg #[d1, d2]) rfl rfl rfl rfl rfl (loadn_eq rfl rfl hp11 rfl (Nat.le_of_ble_eq_true rfl) rfl) ?_
        have iN7 := (iN.ext hx6 hn6).ext hx7 (Nat.le_succ _)
        refine st_call _ rfl rfl rfl rfl rfl (frac_ok k iN7 iy7 (by omega) (by omega)) ?_
        rintro _ h8 n8 _ ⟨rfl, hn8, hx8, u1, u2, v1, v2, ln, ld, rfl, rq, hl1, hl2, o1, o2⟩
        have hp10'' : h8 (3 * (n2 + 1 + 1) + 2) = _ := (hx8 _ (by omega)).trans hp10'
        refine st_storeW [u1, u2, v1, v2] rfl rfl rfl rfl rfl rfl rfl rq.ones hp10'' rfl (by show 3 * n ≤ _; omega) ?_
        simp only [NV, reduceIte, Nat.reduceEqDiff, reduceCtorEq, Nat.one_ne_zero, Nat.zero_ne_one]
        have f1 : Fresh (n + 1) u2 := by
          rcases o1 with rfl | o1
          · exact fx
          · exact o1.mono (by omega)
        have f2 : Fresh (n + 1) v2 := by
          rcases o2 with rfl | o2
          · exact fy.mono (by omega)
          · exact o2.mono (by omega)
        have g1 : Off (3 * (n2 + 1 + 1) + 2) u2 := by
          rcases o1 with rfl | o1
          · exact ix.sl.below.off (by omega)
          · exact o1.off (by omega)
        have g2 : Off (3 * (n2 + 1 + 1) + 2) v2 := by
          rcases o2 with rfl | o2
          · exact fy.off (by omega)
          · exact o2.off (by omega)
        refine cutx_mk ((u1, u2, v1, v2), Rat.divInt x' (y : Int), ln, ld) ⟨rfl, rfl, rfl, trivial⟩ ⟨rfl, by show n2 + 1 + 1 + 1 ≤ n8; omega, fun b hb => (upd_ne (by omega)).trans ((hx8 b (by omega)).trans (hx17 b hb)), (upd_ne (by omega)).trans ((hx8 _ (by omega)).trans hr7), ⟨_, upd_same _ _ _⟩, rq.off g1 g2, by show ln.length ≤ s.length; omega, by show ld.length ≤ s.length; omega, f1, f2, fun q0 hq0 => ?_⟩
        show Rat.divInt x' (y : Int) = q0
        rw [hnum q0 hq0, (hden q0 hq0).2]
        exact Rat.num_divInt_den q0
      · have hbad : ¬ isNum s := fun ⟨q0, hq0⟩ => hfine ⟨(hden q0 hq0).1, by rw [(hden q0 hq0).2]; exact q0.den_nz⟩
        cases okd with
        | false =>
          repeat (first | refine st_ltT rfl rfl rfl rfl rfl rfl (by omega) ?_ | refine st_ltF rfl rfl rfl rfl rfl rfl (by omega) ?_ | refine st_gtT rfl rfl rfl rfl rfl rfl (by omega) ?_ | refine st_gtF rfl rfl rfl rfl rfl rfl (by omega) ?_ | refine st_eqT rfl rfl rfl rfl rfl rfl (by omega) ?_ | refine st_eqF rfl rfl rfl rfl rfl rfl (by omega) ?_ | refine st_lt rfl rfl rfl rfl rfl rfl ?_ | refine st_eq rfl rfl rfl rfl rfl rfl ?_ | refine st_add rfl rfl rfl rfl rfl rfl (by omega) ?_ | refine st_I rfl rfl rfl rfl rfl ?_ | refine st_B rfl rfl rfl rfl rfl ?_ | refine st_P rfl rfl rfl rfl rfl ?_ | refine st_T rfl rfl rfl rfl rfl ?_ | refine st_A rfl rfl rfl rfl rfl ?_ | refine st_U rfl rfl rfl rfl rfl ?_ | refine st_val (v := .pointer none) rfl rfl rfl rfl rfl ?_ | refine st_off rfl rfl rfl ?_)
          simp only [NV, reduceIte, Nat.reduceEqDiff, reduceCtorEq, Nat.one_ne_zero, Nat.zero_ne_one]
          rw [EC_cond_true rfl]
          simp only [NV, reduceIte, Nat.reduceEqDiff, reduceCtorEq, Nat.one_ne_zero, Nat.zero_ne_one]
          refine st_val (v := .agg #[.bool false, .slice none 0 0, .bool false, .slice none 0 0]) rfl rfl rfl rfl rfl ?_
          refine st_storeW [.bool false, .slice none 0 0, .bool false, .slice none 0 0] rfl rfl rfl rfl rfl rfl rfl rfl hr7 rfl (by show 3 * n ≤ _; omega) ?_
          repeat (first | refine st_ltT rfl rfl rfl rfl rfl rfl (by omega) ?_ | refine st_ltF rfl rfl rfl rfl rfl rfl (by omega) ?_ | refine st_gtT rfl rfl rfl rfl rfl rfl (by omega) ?_ | refine st_gtF rfl rfl rfl rfl rfl rfl (by omega) ?_ | refine st_eqT rfl rfl rfl rfl rfl rfl (by omega) ?_ | refine st_eqF rfl rfl rfl rfl rfl rfl (by omega) ?_ | refine st_lt rfl rfl rfl rfl rfl rfl ?_ | refine st_eq rfl rfl rfl rfl rfl rfl ?_ | refine st_add rfl rfl rfl rfl rfl rfl (by omega) ?_ | refine st_I rfl rfl rfl rfl rfl ?_ | refine st_B rfl rfl rfl rfl rfl ?_ | refine st_P rfl rfl rfl rfl rfl ?_ | refine st_T rfl rfl rfl rfl rfl ?_ | refine st_A rfl rfl rfl rfl rfl ?_ | refine st_U rfl rfl rfl rfl rfl ?_ | refine st_val (v := .pointer none) rfl rfl rfl rfl rfl ?_ | refine st_off rfl rfl rfl ?_)
          simp only [NV, reduceIte, Nat.reduceEqDiff, reduceCtorEq, Nat.one_ne_zero, Nat.zero_ne_one]
          exact retCellT rfl rfl rfl rfl rfl rfl (upd_same _ _ _) rfl rfl ⟨rfl, by show n ≤ n6 + 1; omega, fun b hb => (upd_ne (by omega)).trans (hx17 b hb), _, _, _, _, 0, [], [], false, rfl, RatR.zero _ _, Nat.zero_le _, Nat.zero_le _, trivial, trivial, fun h => absurd h (by simp), fun hs => absurd hs hbad⟩
        | true =>
          have hy0 : y = 0 := Classical.byContradiction fun e => hfine ⟨rfl, e⟩
          subst hy0
          repeat (first | refine st_ltT rfl rfl rfl rfl rfl rfl (by omega) ?_ | refine st_ltF rfl rfl rfl rfl rfl rfl (by omega) ?_ | refine st_gtT rfl rfl rfl rfl rfl rfl (by omega) ?_ | refine st_gtF rfl rfl rfl rfl rfl rfl (by omega) ?_ | refine st_eqT rfl rfl rfl rfl rfl rfl (by omega) ?_ | refine st_eqF rfl rfl rfl rfl rfl rfl (by omega) ?_ | refine st_lt rfl rfl rfl rfl rfl rfl ?_ | refine st_eq rfl rfl rfl rfl rfl rfl ?_ | refine st_add rfl rfl rfl rfl rfl rfl (by omega) ?_ | refine st_I rfl rfl rfl rfl rfl ?_ | refine st_B rfl rfl rfl rfl rfl ?_ | refine st_P rfl rfl rfl rfl rfl ?_ | refine st_T rfl rfl rfl rfl rfl ?_ | refine st_A rfl rfl rfl rfl rfl ?_ | refine st_U rfl rfl rfl rfl rfl ?_ | refine st_val (v := .pointer none) rfl rfl rfl rfl rfl ?_ | refine st_off rfl rfl rfl ?_)
          refine st_load (v := .agg #[d1, d2]) rfl rfl rfl rfl rfl (loadn_eq rfl rfl hp11 rfl (Nat.le_of_ble_eq_true rfl) rfl) ?_
          refine st_vf _ rfl rfl rfl rfl rfl (sign_ok (k + 4) iy7) ?_
          rintro _ rfl
          repeat (first | refine st_ltT rfl rfl rfl rfl rfl rfl (by omega) ?_ | refine st_ltF rfl rfl rfl rfl rfl rfl (by omega) ?_ | refine st_gtT rfl rfl rfl rfl rfl rfl (by omega) ?_ | refine st_gtF rfl rfl rfl rfl rfl rfl (by omega) ?_ | refine st_eqT rfl rfl rfl rfl rfl rfl (by omega) ?_ | refine st_eqF rfl rfl rfl rfl rfl rfl (by omega) ?_ | refine st_lt rfl rfl rfl rfl rfl rfl ?_ | refine st_eq rfl rfl rfl rfl rfl rfl ?_ | refine st_add rfl rfl rfl rfl rfl rfl (by omega) ?_ | refine st_I rfl rfl rfl rfl rfl ?_ | refine st_B rfl rfl rfl rfl rfl ?_ | refine st_P rfl rfl rfl rfl rfl ?_ | refine st_T rfl rfl rfl rfl rfl ?_ | refine st_A rfl rfl rfl rfl rfl ?_ | refine st_U rfl rfl rfl rfl rfl ?_ | refine st_val (v := .pointer none) rfl rfl rfl rfl rfl ?_ | refine st_off rfl rfl rfl ?_)
          simp only [NV, reduceIte, Nat.reduceEqDiff, reduceCtorEq, Nat.one_ne_zero, Nat.zero_ne_one]
          rw [EC_cond_true rfl]
          simp only [NV, reduceIte, Nat.reduceEqDiff, reduceCtorEq, Nat.one_ne_zero, Nat.zero_ne_one]
          refine st_val (v := .agg #[.bool false, .slice none 0 0, .bool false, .slice none 0 0]) rfl rfl rfl rfl rfl ?_
          refine st_storeW [.bool false, .slice none 0 0, .bool false, .slice none 0 0] rfl rfl rfl rfl rfl rfl rfl rfl hr7 rfl (by show 3 * n ≤ _; omega) ?_
          repeat (first | refine st_ltT rfl rfl rfl rfl rfl rfl (by omega) ?_ | refine st_ltF rfl rfl rfl rfl rfl rfl (by omega) ?_ | refine st_gtT rfl rfl rfl rfl rfl rfl (by omega) ?_ | refine st_gtF rfl rfl rfl rfl rfl rfl (by omega) ?_ | refine st_eqT rfl rfl rfl rfl rfl rfl (by omega) ?_ | refine st_eqF rfl rfl rfl rfl rfl rfl (by omega) ?_ | refine st_lt rfl rfl rfl rfl rfl rfl ?_ | refine st_eq rfl rfl rfl rfl rfl rfl ?_ | refine st_add rfl rfl rfl rfl rfl rfl (by omega) ?_ | refine st_I rfl rfl rfl rfl rfl ?_ | refine st_B rfl rfl rfl rfl rfl ?_ | refine st_P rfl rfl rfl rfl rfl ?_ | refine st_T rfl rfl rfl rfl rfl ?_ | refine st_A rfl rfl rfl rfl rfl ?_ | refine st_U rfl rfl rfl rfl rfl ?_ | refine st_val (v := .pointer none) rfl rfl rfl rfl rfl ?_ | refine st_off rfl rfl rfl ?_)
          simp only [NV, reduceIte, Nat.reduceEqDiff, reduceCtorEq, Nat.one_ne_zero, Nat.zero_ne_one]
          exact retCellT rfl rfl rfl rfl rfl rfl (upd_same _ _ _) rfl rfl ⟨rfl, by show n ≤ n6 + 1; omega, fun b hb => (upd_ne (by omega)).trans (hx17 b hb), _, _, _, _, 0, [], [], false, rfl, RatR.zero _ _, Nat.zero_le _, Nat.zero_le _, trivial, trivial, fun h => absurd h (by simp), fun hs => absurd hs hbad⟩
    · rw [EC_cond_false (by show Value.bool (decide ((z : Int) < (T.length : Int))) = _; rw [decide_eq_false hzT])]
      simp only [NV, reduceIte, Nat.reduceEqDiff, reduceCtorEq, Nat.one_ne_zero, Nat.zero_ne_one]
      refine cutx_mk ((.bool (hasMinus s && decide (0 < L.length)), .slice a L.length cap, .bool false, .slice none 0 0), (x' : Rat), L, []) ⟨rfl, rfl, rfl, trivial⟩ ⟨rfl, Nat.le_refl _, hx15, hr5, hp10, RatR.whole iN, by show L.length ≤ s.length; omega, Nat.zero_le _, fx, trivial, fun q0 hq0 => ?_⟩
      obtain ⟨p1, p2, p3, p4⟩ := hparts q0 hq0
      have hd : q0.den = 1 := Classical.byContradiction fun e => by have := (p4 e).1; omega
      show (x' : Rat) = q0
      rw [hnum q0 hq0]
      exact (rat_whole hd).symm
  clear hx15 hr5 hp10 iN hx5 hx4 hr3 hx13 hp8
  rintro ⟨⟨u1, u2, v1, v2⟩, q, ln, ld⟩ t h9 n9 _ ⟨rfl, hn9, hx9, hr9, ⟨e10, hp9⟩, rq, hl1, hl2, f1, f2, hq0⟩
  simp only at hp9 rq hl1 hl2 f1 f2 hq0
  simp only [NV, reduceIte, Nat.reduceEqDiff, reduceCtorEq, Nat.one_ne_zero, Nat.zero_ne_one]
  refine EC_draw [0, 0, 2, 0, 14, 7, 63] rfl ?_
  refine dr_load (v := .agg #[u1, u2, v1, v2]) rfl rfl rfl rfl rfl rfl (loadn_eq rfl rfl hp9 rfl (Nat.le_of_ble_eq_true rfl) rfl) rfl rfl ?_
  refine dr_load (v := .agg #[u1, u2, v1, v2]) rfl rfl rfl rfl rfl rfl (loadn_eq rfl rfl hp9 rfl (Nat.le_of_ble_eq_true rfl) rfl) rfl rfl ?_
  refine dr_vf _ rfl rfl rfl rfl rfl rfl rfl (text_ok (k + 1) rq (by omega)) ?_
  rintro _ rfl
  (first | refine dr_B rfl rfl rfl rfl rfl ?_ | refine dr_T rfl rfl rfl rfl rfl ?_)
  refine dr_B (a := ratT q == s) rfl rfl rfl rfl rfl ?_
  refine dr_storeN (cs := [u1, u2, v1, v2]) rfl rfl rfl rfl rfl rfl rfl rq.ones hr9 (Nat.le_of_ble_eq_true rfl) (by show 3 * n ≤ _; omega) rfl rfl rfl ?_
  repeat (first | refine dr_B rfl rfl rfl rfl rfl ?_ | refine dr_T rfl rfl rfl rfl rfl ?_)
  simp only [NV, reduceIte, Nat.reduceEqDiff, reduceCtorEq, Nat.one_ne_zero, Nat.zero_ne_one]
  exact retCellT rfl rfl rfl rfl rfl rfl (upd_same _ _ _) rfl rfl ⟨rfl, by show n ≤ n9; omega, fun b hb => (upd_ne (by omega)).trans (hx9 b hb), _, _, _, _, q, ln, ld, _, rfl, rq.off (f1.off (by omega)) (f2.off (by omega)), hl1, hl2, f1.mono (by omega), f2.mono (by omega), fun he => eq_of_beq he, fun ⟨q0, hq⟩ => by rw [hq0 q0 hq, hq]; exact beq_self_eq_true s⟩
end Go.Proofs.YtokfihhdllmbmaaGreatDoor
namespace Go.Proofs.YtokfihhdllmbmaaGreatDoor
open Go Go.GL
def i64s (l : List Int) : List Value := l.map (Value.int .i64)
structure TapeI where
  m : Nat
  bt : Nat
  a : Option Addr
  len : Nat
  cap : Nat
  L : List Int
structure Tp (h : HF) (T : TapeI) : Prop where
  bt : T.bt < 3 * T.m
  len : T.L.length = T.len
  le : T.len ≤ 400
  ne : ∀ x, T.a = some x → x.block ≠ T.bt
  sl : Sl h T.m 1 (.slice T.a T.len T.cap) (i64s T.L)
  row : ∃ (pos : Nat) (e : TypeId), h T.bt = some (.row [.slice T.a T.len T.cap, .int .i64 (pos : Int)] e) ∧ pos ≤ T.len
def ExtT (n bt : Nat) (h h' : HF) : Prop := ∀ b, b < 3 * n → b ≠ bt → h' b = h b
theorem ExtT.refl (n bt : Nat) (h : HF) : ExtT n bt h h := fun _ _ _ => rfl
theorem ExtT.trans {n n' bt : Nat} {a b c : HF} (h : ExtT n bt a b) (h' : ExtT n' bt b c) (hn : n ≤ n') : ExtT n bt a c := fun k hk hb => (h' k (by omega) hb).trans (h k hk hb)
theorem Ext.t {n bt : Nat} {h h' : HF} (e : Ext n h h') : ExtT n bt h h' := fun k hk _ => e k hk
theorem ExtT.mono {n n' bt : Nat} {h h' : HF} (e : ExtT n' bt h h') (hn : n ≤ n') : ExtT n bt h h' := fun k hk hb => e k (by omega) hb
theorem Tp.ext {h h' : HF} {T : TapeI} {n : Nat} (t : Tp h T) (e : Ext n h h') (hn : T.m ≤ n) : Tp h' T := by
  obtain ⟨pos, ty, h1, h2⟩ := t.row
  exact ⟨t.bt, t.len, t.le, t.ne, t.sl.ext (e.mono hn) (Nat.le_refl _), pos, ty, by rw [e _ (by have := t.bt; omega)]; exact h1, h2⟩
theorem Tp.upd {h : HF} {T : TapeI} {b : Nat} {x : Option BF} (t : Tp h T) (hb : 3 * T.m ≤ b) : Tp (GL.upd h b x) T := t.ext (n := T.m) (Ext.upd hb) (Nat.le_refl _)
theorem tmod_range (v m : Int) (hm : 0 < m) : 0 ≤ (v.tmod m + m).tmod m ∧ (v.tmod m + m).tmod m < m ∧ -m < v.tmod m ∧ v.tmod m < m := by
  have h1 := Int.lt_tmod_of_pos v hm
  have h2 := Int.tmod_lt_of_pos v hm
  have h3 := Int.tmod_nonneg m (show 0 ≤ v.tmod m + m by omega)
  have h4 := Int.tmod_lt_of_pos (v.tmod m + m) hm
  exact ⟨h3, h4, h1, h2⟩
set_option maxHeartbeats 1000000
theorem next_ok (k : Nat) {h : HF} {n : Nat} {T : TapeI} {m : Int} (hm : 0 < m ∧ m < 1000000000) (ht : Tp h T) (hn : T.m ≤ n) : CF (cal (k + 1)) 20 [.pointer (some ⟨T.bt, 0, none⟩), .int .i64 m] h n fun v h' n' w => (∀ b ∈ w, b = T.bt) ∧ n' = n ∧ Tp h' T ∧ (∀ b, b ≠ T.bt → h' b = h b) ∧ ∃ r, v = .int .i64 r ∧ 0 ≤ r ∧ r < m := by
  obtain ⟨M, bt, a, len, cap, L⟩ := T
  obtain ⟨hbt, hL, hlen, hne, hsl, pos, e, hrow, hpos⟩ := ht
  simp only at hbt hL hlen hne hsl hrow hpos hn ⊢
  refine CF_intro (fn := Tryz.f20) rfl rfl rfl rfl ?_
  simp only [NV, reduceIte, Nat.reduceEqDiff, reduceCtorEq, Nat.one_ne_zero, Nat.zero_ne_one]
  repeat (first | refine st_geT rfl rfl rfl rfl rfl rfl (by omega) ?_ | refine st_geF rfl rfl rfl rfl rfl rfl (by omega) ?_ | refine st_add rfl rfl rfl rfl rfl rfl (by omega) ?_ | refine st_I rfl rfl rfl rfl rfl ?_ | refine st_P rfl rfl rfl rfl rfl ?_)
  simp only [NV, reduceIte, Nat.reduceEqDiff, reduceCtorEq, Nat.one_ne_zero, Nat.zero_ne_one]
  rw [EC_quiet rfl]
  repeat (first | refine st_geT rfl rfl rfl rfl rfl rfl (by omega) ?_ | refine st_geF rfl rfl rfl rfl rfl rfl (by omega) ?_ | refine st_add rfl rfl rfl rfl rfl rfl (by omega) ?_ | refine st_I rfl rfl rfl rfl rfl ?_ | refine st_P rfl rfl rfl rfl rfl ?_)
  refine st_load1 rfl rfl rfl rfl rfl rfl hrow rfl (v := .int .i64 (pos : Int)) rfl ?_
  repeat (first | refine st_geT rfl rfl rfl rfl rfl rfl (by omega) ?_ | refine st_geF rfl rfl rfl rfl rfl rfl (by omega) ?_ | refine st_add rfl rfl rfl rfl rfl rfl (by omega) ?_ | refine st_I rfl rfl rfl rfl rfl ?_ | refine st_P rfl rfl rfl rfl rfl ?_)
  refine st_load1 rfl rfl rfl rfl rfl rfl hrow rfl (v := .slice a len cap) rfl ?_
  (first | refine st_I rfl rfl rfl rfl rfl ?_ | refine st_P rfl rfl rfl rfl rfl ?_)
  by_cases hp : pos = len
  · repeat (first | refine st_geT rfl rfl rfl rfl rfl rfl (by omega) ?_ | refine st_geF rfl rfl rfl rfl rfl rfl (by omega) ?_ | refine st_add rfl rfl rfl rfl rfl rfl (by omega) ?_ | refine st_I rfl rfl rfl rfl rfl ?_ | refine st_P rfl rfl rfl rfl rfl ?_)
    simp only [NV, reduceIte, Nat.reduceEqDiff, reduceCtorEq, Nat.one_ne_zero, Nat.zero_ne_one]
    rw [EC_cond_true rfl]
    simp only [NV, reduceIte, Nat.reduceEqDiff, reduceCtorEq, Nat.one_ne_zero, Nat.zero_ne_one]
    repeat (first | refine st_geT rfl rfl rfl rfl rfl rfl (by omega) ?_ | refine st_geF rfl rfl rfl rfl rfl rfl (by omega) ?_ | refine st_add rfl rfl rfl rfl rfl rfl (by omega) ?_ | refine st_I rfl rfl rfl rfl rfl ?_ | refine st_P rfl rfl rfl rfl rfl ?_)
    simp only [NV, reduceIte, Nat.reduceEqDiff, reduceCtorEq, Nat.one_ne_zero, Nat.zero_ne_one]
    exact ⟨rfl, _, resF_tmp rfl, fun b hb => absurd hb List.not_mem_nil, rfl, ⟨hbt, hL, hlen, hne, hsl, pos, e, hrow, hpos⟩, fun _ _ => rfl, 0, rfl, Int.le_refl _, hm.1⟩
  · obtain ⟨b, off, x, cs, rfl, hb3, hx, hc, hcap, hle, he⟩ := hsl.inv (by omega)
    obtain ⟨v, hv⟩ : ∃ v, L[pos]? = some v := ⟨L[pos]'(by omega), List.getElem?_eq_getElem (by omega)⟩
    have hcell : cs[off + pos]? = some (.int .i64 v) := cell_at he (by rw [i64s, List.getElem?_map, hv]; rfl)
    have hbne : b ≠ bt := hne _ rfl
    repeat (first | refine st_geT rfl rfl rfl rfl rfl rfl (by omega) ?_ | refine st_geF rfl rfl rfl rfl rfl rfl (by omega) ?_ | refine st_add rfl rfl rfl rfl rfl rfl (by omega) ?_ | refine st_I rfl rfl rfl rfl rfl ?_ | refine st_P rfl rfl rfl rfl rfl ?_)
    simp only [NV, reduceIte, Nat.reduceEqDiff, reduceCtorEq, Nat.one_ne_zero, Nat.zero_ne_one]
    rw [EC_cond_false rfl]
    simp only [NV, reduceIte, Nat.reduceEqDiff, reduceCtorEq, Nat.one_ne_zero, Nat.zero_ne_one]
    rw [EC_quiet rfl]
    repeat (first | refine st_geT rfl rfl rfl rfl rfl rfl (by omega) ?_ | refine st_geF rfl rfl rfl rfl rfl rfl (by omega) ?_ | refine st_add rfl rfl rfl rfl rfl rfl (by omega) ?_ | refine st_I rfl rfl rfl rfl rfl ?_ | refine st_P rfl rfl rfl rfl rfl ?_)
    refine st_load1 rfl rfl rfl rfl rfl rfl hrow rfl (v := .slice (some ⟨b, off, none⟩) len cap) rfl ?_
    repeat (first | refine st_geT rfl rfl rfl rfl rfl rfl (by omega) ?_ | refine st_geF rfl rfl rfl rfl rfl rfl (by omega) ?_ | refine st_add rfl rfl rfl rfl rfl rfl (by omega) ?_ | refine st_I rfl rfl rfl rfl rfl ?_ | refine st_P rfl rfl rfl rfl rfl ?_)
    refine st_load1 rfl rfl rfl rfl rfl rfl hrow rfl (v := .int .i64 (pos : Int)) rfl ?_
    refine st_idx rfl rfl rfl rfl rfl rfl rfl rfl (by omega) ?_
    refine st_load1 rfl rfl rfl rfl rfl rfl hx hc (v := .int .i64 v) (by rw [← hcell]; congr 1; omega) ?_
    repeat (first | refine st_geT rfl rfl rfl rfl rfl rfl (by omega) ?_ | refine st_geF rfl rfl rfl rfl rfl rfl (by omega) ?_ | refine st_add rfl rfl rfl rfl rfl rfl (by omega) ?_ | refine st_I rfl rfl rfl rfl rfl ?_ | refine st_P rfl rfl rfl rfl rfl ?_)
    simp only [NV, reduceIte, Nat.reduceEqDiff, reduceCtorEq, Nat.one_ne_zero, Nat.zero_ne_one]
    repeat (first | refine st_geT rfl rfl rfl rfl rfl rfl (by omega) ?_ | refine st_geF rfl rfl rfl rfl rfl rfl (by omega) ?_ | refine st_add rfl rfl rfl rfl rfl rfl (by omega) ?_ | refine st_I rfl rfl rfl rfl rfl ?_ | refine st_P rfl rfl rfl rfl rfl ?_)
    refine st_load1 rfl rfl rfl rfl rfl rfl hrow rfl (v := .int .i64 (pos : Int)) rfl ?_
    repeat (first | refine st_geT rfl rfl rfl rfl rfl rfl (by omega) ?_ | refine st_geF rfl rfl rfl rfl rfl rfl (by omega) ?_ | refine st_add rfl rfl rfl rfl rfl rfl (by omega) ?_ | refine st_I rfl rfl rfl rfl rfl ?_ | refine st_P rfl rfl rfl rfl rfl ?_)
    refine st_storeO (cs := [.int .i64 ((pos : Int) + 1)]) rfl rfl rfl rfl rfl rfl rfl rfl hrow (Nat.le_of_ble_eq_true rfl) (by show bt < 3 * n; omega) ?_
    simp only [NV, reduceIte, Nat.reduceEqDiff, reduceCtorEq, Nat.one_ne_zero, Nat.zero_ne_one]
    obtain ⟨r1, r2, r3, r4⟩ := tmod_range v m hm.1
    repeat (first | refine st_geT rfl rfl rfl rfl rfl rfl (by omega) ?_ | refine st_geF rfl rfl rfl rfl rfl rfl (by omega) ?_ | refine st_add rfl rfl rfl rfl rfl rfl (by omega) ?_ | refine st_I rfl rfl rfl rfl rfl ?_ | refine st_P rfl rfl rfl rfl rfl ?_)
    refine st_rem rfl rfl rfl rfl rfl rfl (by omega) ?_
    repeat (first | refine st_geT rfl rfl rfl rfl rfl rfl (by omega) ?_ | refine st_geF rfl rfl rfl rfl rfl rfl (by omega) ?_ | refine st_add rfl rfl rfl rfl rfl rfl (by omega) ?_ | refine st_I rfl rfl rfl rfl rfl ?_ | refine st_P rfl rfl rfl rfl rfl ?_)
    refine st_rem rfl rfl rfl rfl rfl rfl (by omega) ?_
    repeat (first | refine st_geT rfl rfl rfl rfl rfl rfl (by omega) ?_ | refine st_geF rfl rfl rfl rfl rfl rfl (by omega) ?_ | refine st_add rfl rfl rfl rfl rfl rfl (by omega) ?_ | refine st_I rfl rfl rfl rfl rfl ?_ | refine st_P rfl rfl rfl rfl rfl ?_)
    simp only [NV, reduceIte, Nat.reduceEqDiff, reduceCtorEq, Nat.one_ne_zero, Nat.zero_ne_one]
    refine ⟨rfl, _, resF_tmp rfl, fun b hb => ?_, rfl, ⟨hbt, hL, hlen, hne, hsl.keep (fun a l c e => ?_) (Nat.le_refl _), pos + 1, e, upd_same _ _ _, by show pos + 1 ≤ len; omega⟩, fun b hb => upd_ne hb, _, rfl, r1, r2⟩
    · exact List.mem_singleton.1 hb
    · injection e with e1
      injection e1 with e1
      subst e1
      exact upd_ne hbne
theorem RatR.old {h : HF} {n m b : Nat} {n1 n2 d1 d2 : Value} {q : Rat} {ln ld : List Nat} {y : Option BF} (r : RatR h n n1 n2 d1 d2 q ln ld) (hf : Fresh m n2) (hf2 : Fresh m d2) (hb : b < 3 * m) : RatR (upd h b y) n n1 n2 d1 d2 q ln ld := ⟨r.num.old hf hb, r.neg, r.sl.old hf2 hb, r.norm, r.val⟩
theorem addW_bt {n0 bt : Nat} : ∀ {W w : List Nat}, (∀ b ∈ W, b = bt) → (∀ b ∈ w, b = bt) → ∀ b ∈ addW n0 W w, b = bt := by
  intro W w h1 h2 b hb
  rcases mem_addW.1 hb with h | ⟨h, _⟩
  · exact h2 b h
  · exact h1 b h
theorem whole_ok (k : Nat) {h : HF} {n : Nat} {T : TapeI} {K : Int} (hK : 0 ≤ K ∧ K < 1000000) (ht : Tp h T) (hn : T.m ≤ n) : CF (cal (k + 4)) 68 [.pointer (some ⟨T.bt, 0, none⟩), .int .i64 K] h n fun v h' n' w => (∀ b ∈ w, b = T.bt) ∧ n ≤ n' ∧ Tp h' T ∧ ExtT n T.bt h h' ∧ ∃ n1 n2 ln x, v = .agg #[n1, n2, .bool false, .slice none 0 0] ∧ RatR h' n' n1 n2 (.bool false) (.slice none 0 0) ((x : Int) : Rat) ln [] ∧ -K ≤ x ∧ x ≤ K ∧ Fresh n n2 ∧ ln.length ≤ 2 := by
  have hbt := ht.bt
  refine CF_heap (fn := Tryz.f68) rfl rfl rfl rfl ?_
  simp only [NV, reduceIte, Nat.reduceEqDiff, reduceCtorEq, Nat.one_ne_zero, Nat.zero_ne_one]
  refine st_alloc rfl rfl rfl rfl rfl ?_
  simp only [NV, reduceIte, Nat.reduceEqDiff, reduceCtorEq, Nat.one_ne_zero, Nat.zero_ne_one]
  (first | refine st_I rfl rfl rfl rfl rfl ?_ | refine st_P rfl rfl rfl rfl rfl ?_)
  (first | refine st_I rfl rfl rfl rfl rfl ?_ | refine st_P rfl rfl rfl rfl rfl ?_)
  refine st_mul rfl rfl rfl rfl rfl rfl (by omega) ?_
  repeat (first | refine st_add rfl rfl rfl rfl rfl rfl (by omega) ?_ | refine st_sub rfl rfl rfl rfl rfl rfl (by omega) ?_ | refine st_I rfl rfl rfl rfl rfl ?_ | refine st_P rfl rfl rfl rfl rfl ?_)
  refine st_call _ rfl rfl rfl rfl rfl (next_ok (k + 2) (by omega) (ht.upd (by omega)) (by omega)) ?_
  rintro _ h1 _ w1 ⟨hw1, rfl, ht1, hx1, r, rfl, hr0, hr1⟩
  repeat (first | refine st_add rfl rfl rfl rfl rfl rfl (by omega) ?_ | refine st_sub rfl rfl rfl rfl rfl rfl (by omega) ?_ | refine st_I rfl rfl rfl rfl rfl ?_ | refine st_P rfl rfl rfl rfl rfl ?_)
  refine st_call _ rfl rfl rfl rfl rfl (r_ok k _ _ (r - K) (by omega)) ?_
  rintro _ h2 n2 _ ⟨rfl, hn2, hx2, n1, n2', ln, rfl, hq, hf, hln⟩
  have hcell : ∃ e, h2 (3 * n + 2) = some (.row [.bool false, .slice none 0 0, .bool false, .slice none 0 0] e) := ⟨_, by rw [hx2 _ (by omega), hx1 _ (by omega), upd_same]; rfl⟩
  obtain ⟨e, hcell⟩ := hcell
  have h1s : ones [n1, n2', .bool false, .slice none 0 0] = true := by
    rw [hq.num.neg]
    show ones (n2' :: _) = true
    rw [hq.num.sl.ones]; rfl
  refine st_storeW [n1, n2', .bool false, .slice none 0 0] rfl rfl rfl rfl rfl rfl rfl h1s hcell rfl (by show 3 * n ≤ _; omega) ?_
  simp only [NV, reduceIte, Nat.reduceEqDiff, reduceCtorEq, Nat.one_ne_zero, Nat.zero_ne_one]
  refine retCell rfl rfl rfl rfl rfl (upd_same _ _ _) rfl ⟨?_, by omega, (ht1.ext hx2 (by omega)).upd (by omega), fun b hb hne => by rw [upd_ne (by omega), hx2 b (by omega), hx1 b hne, upd_ne (by omega)], n1, n2', ln, r - K, rfl, hq.old hf trivial (by omega), by omega, by omega, hf.mono (by omega), hln⟩
  exact addW_bt (W := []) (fun b hb => absurd hb List.not_mem_nil) (addW_bt hw1 (fun b hb => absurd hb List.not_mem_nil))
end Go.Proofs.YtokfihhdllmbmaaGreatDoor
namespace Go.Proofs.YtokfihhdllmbmaaGreatDoor
open Go Go.GL
theorem Gro.extT {h h' : HF} {lo n n' bt : Nat} {e : TypeId} {sz len : Nat} {v : Value} {c : List Value} (g : Gro h lo n e sz v len c) (he : ExtT n bt h h') (hbt : bt < 3 * lo) (hn : n ≤ n') : Gro h' lo n' e sz v len c := by
  cases g with
  | nil => exact .nil
  | at_ hg hlo hb hr hl ho => exact .at_ hg hlo (by omega) (by rw [he _ hb (by omega)]; exact hr) hl ho
theorem Sl.addr {h : HF} {n sz : Nat} {a : Option Addr} {len cap : Nat} {c : List Value} (s : Sl h n sz (.slice a len cap) c) : a = none ∨ ∃ b off, a = some ⟨b, off, none⟩ := by
  cases a with
  | none => exact .inl rfl
  | some x =>
    by_cases h0 : len = 0
    · subst h0
      generalize hv : Value.slice (some x) 0 cap = v at s
      cases s with
      | nil ha =>
        injection hv with e1 e2 e3
        rcases ha with ha | ⟨b, off, ha, _⟩
        · rw [ha] at e1; cases e1
        · rw [ha] at e1; exact .inr ⟨b, off, e1⟩
      | at_ hb hx hc hcap hl he =>
        injection hv with e1 e2 e3
        exact .inr ⟨_, _, e1⟩
    · obtain ⟨b, off, x, cs, e, _⟩ := s.inv h0
      exact .inr ⟨b, off, e⟩
theorem Sl.cap {h : HF} {n sz : Nat} {a : Option Addr} {len cap : Nat} {c : List Value} (s : Sl h n sz (.slice a len cap) c) : len ≤ cap := by
  by_cases h0 : len = 0
  · omega
  · obtain ⟨_, _, _, _, _, _, _, _, h, _⟩ := s.inv h0
    exact h
def strs (l : List (List UInt8)) : List Value := l.map fun s => Value.string ⟨⟨s⟩⟩
theorem strs_append (a b : List (List UInt8)) : strs (a ++ b) = strs a ++ strs b := by simp [strs]
theorem strs_len (a : List (List UInt8)) : (strs a).length = a.length := by simp [strs]
def SmallS (K : Int) (s : List UInt8) : Prop := ∃ x : Int, -K ≤ x ∧ x ≤ K ∧ s = ratT (x : Rat)
set_option maxHeartbeats 1000000
theorem new_ok (k : Nat) {h : HF} {n : Nat} {a : Option Addr} {len cap : Nat} {L : List Int} (hs : Sl h n 1 (.slice a len cap) (i64s L)) : CF (cal (k + 1)) 17 [.slice a len cap] h n fun v h' n' w => w = [] ∧ n' = n + 1 ∧ Ext n h h' ∧ v = .pointer (some ⟨3 * n + 2, 0, none⟩) ∧ Tp h' ⟨n + 1, 3 * n + 2, a, min len 400, cap, L.take 400⟩ := by
  have hL : L.length = len := by
    obtain ⟨a', len', cap', e, hl⟩ := hs.len
    injection e with e1 e2 e3
    simp [i64s] at hl
    omega
  refine CF_heap (fn := Tryz.f17) rfl rfl rfl rfl ?_
  have fin : ∀ t : TF, t 2 = .pointer (some ⟨3 * n + 2, 0, none⟩) → ∀ e, RetH Tryz.f17 (fun v h' n' w => w = [] ∧ n' = n + 1 ∧ Ext n h h' ∧ v = .pointer (some ⟨3 * n + 2, 0, none⟩) ∧ Tp h' ⟨n + 1, 3 * n + 2, a, min len 400, cap, L.take 400⟩) .ret ⟨t, upd h (3 * n + 2) (some (.row [.slice a (min len 400) cap, .int .i64 0] e)), n + 1, []⟩ := fun t ht e => by
    refine retH _ rfl (resF_tmp rfl) ?_ ⟨rfl, rfl, Ext.upd (by omega), ht, by show 3 * n + 2 < 3 * (n + 1); omega, by show (L.take 400).length = min len 400; simp; omega, by show min len 400 ≤ 400; omega, fun x hx => ?_, ?_, 0, e, upd_same _ _ _, Nat.zero_le _⟩
    · show flats [t 2] = false
      rw [ht]; rfl
    · have hx : a = some x := hx
      subst hx
      have : x.block < 3 * n := hs.below
      show x.block ≠ 3 * n + 2
      omega
    · show Sl _ (n + 1) 1 (.slice a (min len 400) cap) (i64s (L.take 400))
      have := hs.take (min len 400) (by omega)
      rw [show (i64s L).take (min len 400 * 1) = i64s (L.take 400) from by simp [i64s, List.map_take]; omega] at this
      exact this.ext (Ext.upd (by omega)) (Nat.le_succ _)
  simp only [NV, reduceIte, Nat.reduceEqDiff, reduceCtorEq, Nat.one_ne_zero, Nat.zero_ne_one]
  repeat (first | refine st_I rfl rfl rfl rfl rfl ?_ | refine st_S rfl rfl rfl rfl rfl ?_ | refine st_P rfl rfl rfl rfl rfl ?_ | refine st_val (v := .pointer none) rfl rfl rfl rfl rfl ?_)
  simp only [NV, reduceIte, Nat.reduceEqDiff, reduceCtorEq, Nat.one_ne_zero, Nat.zero_ne_one]
  repeat (first | refine st_I rfl rfl rfl rfl rfl ?_ | refine st_S rfl rfl rfl rfl rfl ?_ | refine st_P rfl rfl rfl rfl rfl ?_ | refine st_val (v := .pointer none) rfl rfl rfl rfl rfl ?_)
  have hmin : (if (400 : Int) < (len : Int) then 400 else (len : Int)) = ((min len 400 : Nat) : Int) := by
    split <;> omega
  have hcap := hs.cap
  rcases hs.addr with rfl | ⟨b, off, rfl⟩
  · refine st_sliceHiN (min len 400) rfl rfl rfl rfl rfl rfl rfl rfl hmin (by omega) ?_
    refine st_val (v := .agg #[.slice none (min len 400) cap, .int .i64 0]) rfl rfl rfl rfl rfl ?_
    refine st_mkp (cs := [.slice none (min len 400) cap, .int .i64 0]) rfl rfl rfl rfl rfl ?_
    repeat (first | refine st_I rfl rfl rfl rfl rfl ?_ | refine st_S rfl rfl rfl rfl rfl ?_ | refine st_P rfl rfl rfl rfl rfl ?_ | refine st_val (v := .pointer none) rfl rfl rfl rfl rfl ?_)
    simp only [NV, reduceIte, Nat.reduceEqDiff, reduceCtorEq, Nat.one_ne_zero, Nat.zero_ne_one]
    exact fin _ rfl _
  · refine st_sliceHi (min len 400) rfl rfl rfl rfl rfl rfl rfl rfl hmin (by omega) ?_
    refine st_val (v := .agg #[.slice (some ⟨b, off, none⟩) (min len 400) cap, .int .i64 0]) rfl rfl rfl rfl rfl ?_
    refine st_mkp (cs := [.slice (some ⟨b, off, none⟩) (min len 400) cap, .int .i64 0]) rfl rfl rfl rfl rfl ?_
    repeat (first | refine st_I rfl rfl rfl rfl rfl ?_ | refine st_S rfl rfl rfl rfl rfl ?_ | refine st_P rfl rfl rfl rfl rfl ?_ | refine st_val (v := .pointer none) rfl rfl rfl rfl rfl ?_)
    simp only [NV, reduceIte, Nat.reduceEqDiff, reduceCtorEq, Nat.one_ne_zero, Nat.zero_ne_one]
    exact fin _ rfl _
structure TLeft (T : TapeI) (h : HF) (n : Nat) (h' : HF) (n' : Nat) (w : List Nat) : Prop where
  w : ∀ b ∈ w, b = T.bt
  le : n ≤ n'
  tp : Tp h' T
  ext : ExtT n T.bt h h'
theorem wholes_ok (k : Nat) {h : HF} {n : Nat} {T : TapeI} {N : Nat} (hN : N ≤ 1000) (ht : Tp h T) (hn : T.m ≤ n) : CF (cal (k + 5)) 67 [.pointer (some ⟨T.bt, 0, none⟩), .int .i64 (N : Int)] h n fun v h' n' w => TLeft T h n h' n' w ∧ ∃ S, S.length = N ∧ (∀ s ∈ S, SmallS 2 s) ∧ Gro h' n n' 9 1 v N (strs S) := by
  have hbt := ht.bt
  refine CF_heap (fn := Tryz.f67) rfl rfl rfl rfl ?_
  simp only [NV, reduceIte, Nat.reduceEqDiff, reduceCtorEq, Nat.one_ne_zero, Nat.zero_ne_one]
  repeat (first | refine st_ltT rfl rfl rfl rfl rfl rfl (by omega) ?_ | refine st_ltF rfl rfl rfl rfl rfl rfl (by omega) ?_ | refine st_add rfl rfl rfl rfl rfl rfl (by omega) ?_ | refine st_I rfl rfl rfl rfl rfl ?_ | refine st_S rfl rfl rfl rfl rfl ?_ | refine st_P rfl rfl rfl rfl rfl ?_)
  simp only [NV, reduceIte, Nat.reduceEqDiff, reduceCtorEq, Nat.one_ne_zero, Nat.zero_ne_one]
  repeat (first | refine st_ltT rfl rfl rfl rfl rfl rfl (by omega) ?_ | refine st_ltF rfl rfl rfl rfl rfl rfl (by omega) ?_ | refine st_add rfl rfl rfl rfl rfl rfl (by omega) ?_ | refine st_I rfl rfl rfl rfl rfl ?_ | refine st_S rfl rfl rfl rfl rfl ?_ | refine st_P rfl rfl rfl rfl rfl ?_)
  simp only [NV, reduceIte, Nat.reduceEqDiff, reduceCtorEq, Nat.one_ne_zero, Nat.zero_ne_one]
  repeat (first | refine st_ltT rfl rfl rfl rfl rfl rfl (by omega) ?_ | refine st_ltF rfl rfl rfl rfl rfl rfl (by omega) ?_ | refine st_add rfl rfl rfl rfl rfl rfl (by omega) ?_ | refine st_I rfl rfl rfl rfl rfl ?_ | refine st_S rfl rfl rfl rfl rfl ?_ | refine st_P rfl rfl rfl rfl rfl ?_)
  simp only [NV, reduceIte, Nat.reduceEqDiff, reduceCtorEq, Nat.one_ne_zero, Nat.zero_ne_one]
  refine EC_for (α := Nat × Value × List (List UInt8)) (fun z => [(0, .pointer (some ⟨T.bt, 0, none⟩)), (1, .int .i64 (N : Int)), (5, z.2.1), (6, .int .i64 (z.1 : Int))])
    (fun z h' n' w => TLeft T h n h' n' w ∧ z.1 ≤ N ∧ z.2.2.length = z.1 ∧ (∀ s ∈ z.2.2, SmallS 2 s) ∧ Gro h' n n' 9 1 z.2.1 z.1 (strs z.2.2)) (fun z => N - z.1)
    (0, .slice none 0 0, []) ⟨rfl, rfl, rfl, rfl, trivial⟩ ⟨⟨fun b hb => absurd hb List.not_mem_nil, Nat.le_refl _, ht, ExtT.refl _ _ _⟩, Nat.zero_le _, rfl, fun s hs => absurd hs List.not_mem_nil, .nil⟩ (by show N - 0 < LL; unfold LL; omega) ?_
  rintro ⟨j, v5, S⟩ t h1 n1 w1 ⟨⟨hw1, hn1, ht1, hx1⟩, hj, hS, hsm, hg⟩
  simp only at hj hS hsm hg
  obtain ⟨a5, rfl, _⟩ := hg.shape
  simp only [NV, reduceIte, Nat.reduceEqDiff, reduceCtorEq, Nat.one_ne_zero, Nat.zero_ne_one]
  by_cases hjN : j = N
  · repeat (first | refine st_ltT rfl rfl rfl rfl rfl rfl (by omega) ?_ | refine st_ltF rfl rfl rfl rfl rfl rfl (by omega) ?_ | refine st_add rfl rfl rfl rfl rfl rfl (by omega) ?_ | refine st_I rfl rfl rfl rfl rfl ?_ | refine st_S rfl rfl rfl rfl rfl ?_ | refine st_P rfl rfl rfl rfl rfl ?_)
    simp only [NV, reduceIte, Nat.reduceEqDiff, reduceCtorEq, Nat.one_ne_zero, Nat.zero_ne_one]
    rw [EC_cond_false rfl]
    simp only [NV, reduceIte, Nat.reduceEqDiff, reduceCtorEq, Nat.one_ne_zero, Nat.zero_ne_one]
    repeat (first | refine st_ltT rfl rfl rfl rfl rfl rfl (by omega) ?_ | refine st_ltF rfl rfl rfl rfl rfl rfl (by omega) ?_ | refine st_add rfl rfl rfl rfl rfl rfl (by omega) ?_ | refine st_I rfl rfl rfl rfl rfl ?_ | refine st_S rfl rfl rfl rfl rfl ?_ | refine st_P rfl rfl rfl rfl rfl ?_)
    simp only [NV, reduceIte, Nat.reduceEqDiff, reduceCtorEq, Nat.one_ne_zero, Nat.zero_ne_one]
    refine retH _ rfl (resF_tmp rfl) rfl ⟨⟨hw1, hn1, ht1, hx1⟩, S, by omega, hsm, ?_⟩
    subst hjN
    exact hg
  · repeat (first | refine st_ltT rfl rfl rfl rfl rfl rfl (by omega) ?_ | refine st_ltF rfl rfl rfl rfl rfl rfl (by omega) ?_ | refine st_add rfl rfl rfl rfl rfl rfl (by omega) ?_ | refine st_I rfl rfl rfl rfl rfl ?_ | refine st_S rfl rfl rfl rfl rfl ?_ | refine st_P rfl rfl rfl rfl rfl ?_)
    simp only [NV, reduceIte, Nat.reduceEqDiff, reduceCtorEq, Nat.one_ne_zero, Nat.zero_ne_one]
    rw [EC_cond_true rfl]
    simp only [NV, reduceIte, Nat.reduceEqDiff, reduceCtorEq, Nat.one_ne_zero, Nat.zero_ne_one]
    repeat (first | refine st_ltT rfl rfl rfl rfl rfl rfl (by omega) ?_ | refine st_ltF rfl rfl rfl rfl rfl rfl (by omega) ?_ | refine st_add rfl rfl rfl rfl rfl rfl (by omega) ?_ | refine st_I rfl rfl rfl rfl rfl ?_ | refine st_S rfl rfl rfl rfl rfl ?_ | refine st_P rfl rfl rfl rfl rfl ?_)
    refine st_call _ rfl rfl rfl rfl rfl (whole_ok k (K := 2) (by omega) ht1 (by omega)) ?_
    rintro _ h2 n2 w2 ⟨hw2, hn2, ht2, hx2, m1, m2, ln, x, rfl, hq, hx0, hx1', hf, hln⟩
    refine st_vf _ rfl rfl rfl rfl rfl (text_ok k hq (by simp; omega)) ?_
    rintro _ rfl
    refine st_mks (cs := strs [ratT (x : Rat)]) rfl rfl rfl rfl rfl ?_
    refine st_app (m := 1) rfl rfl rfl rfl rfl rfl rfl rfl (by decide) ((hg.extT hx2 (by omega) hn2).ext (Ext.upd (by omega)) (Nat.le_succ _)) (argS_of (upd_same _ _ _) rfl rfl) (Nat.le_refl _) (by omega) rfl rfl (by show n ≤ n ∧ _; omega) ?_
    intro v3 h3 hg3 hx3 hk3
    obtain ⟨a3, rfl, _⟩ := hg3.shape
    repeat (first | refine st_ltT rfl rfl rfl rfl rfl rfl (by omega) ?_ | refine st_ltF rfl rfl rfl rfl rfl rfl (by omega) ?_ | refine st_add rfl rfl rfl rfl rfl rfl (by omega) ?_ | refine st_I rfl rfl rfl rfl rfl ?_ | refine st_S rfl rfl rfl rfl rfl ?_ | refine st_P rfl rfl rfl rfl rfl ?_)
    simp only [NV, reduceIte, Nat.reduceEqDiff, reduceCtorEq, Nat.one_ne_zero, Nat.zero_ne_one]
    repeat (first | refine st_ltT rfl rfl rfl rfl rfl rfl (by omega) ?_ | refine st_ltF rfl rfl rfl rfl rfl rfl (by omega) ?_ | refine st_add rfl rfl rfl rfl rfl rfl (by omega) ?_ | refine st_I rfl rfl rfl rfl rfl ?_ | refine st_S rfl rfl rfl rfl rfl ?_ | refine st_P rfl rfl rfl rfl rfl ?_)
    simp only [NV, reduceIte, Nat.reduceEqDiff, reduceCtorEq, Nat.one_ne_zero, Nat.zero_ne_one]
    refine goOn (j + 1, .slice a3 (j + 1) (j + 1), S ++ [ratT (x : Rat)]) (by show N - (j + 1) < N - j; omega) ⟨rfl, rfl, rfl, by show Value.int .i64 _ = Value.int .i64 _; congr 1, trivial⟩ ⟨⟨?_, by show n ≤ n2 + 1 + 1; omega, (ht2.upd (by omega)).ext hx3 (by omega), fun b hb hne => ?_⟩, by show j + 1 ≤ N; omega, by show (S ++ [_]).length = j + 1; simp; omega, ?_, ?_⟩
    · exact addW_bt hw2 hw1
    · exact (hx3 b hb).trans ((upd_ne (by omega)).trans ((hx2 b (by omega) hne).trans (hx1 b hb hne)))
    · intro s hs
      rcases List.mem_append.1 hs with hs | hs
      · exact hsm s hs
      · simp at hs; subst hs; exact ⟨x, hx0, hx1', rfl⟩
    · show Gro _ _ _ _ _ _ (j + 1) (strs (S ++ [_]))
      rw [strs_append]
      exact hg3
end Go.Proofs.YtokfihhdllmbmaaGreatDoor
namespace Go.Proofs.YtokfihhdllmbmaaGreatDoor
open Go Go.GL
structure Ent where
  b : Int
  r : Int
  c : Int
  v : List UInt8
def entC (e : Ent) : List Value := [.int .i64 e.b, .int .i64 e.r, .int .i64 e.c, .string ⟨⟨e.v⟩⟩]
def ents (l : List Ent) : List Value := l.flatMap entC
theorem ents_append (a b : List Ent) : ents (a ++ b) = ents a ++ ents b := by simp [ents]
theorem ents_len (a : List Ent) : (ents a).length = a.length * 4 := by
  induction a with
  | nil => rfl
  | cons e a ih => simp only [ents, List.flatMap_cons, List.length_append, List.length_cons] at *; rw [ih]; simp [entC]; omega
def ltP (e : Ent) (b r c : Int) : Prop := e.b < b ∨ (e.b = b ∧ (e.r < r ∨ (e.r = r ∧ e.c < c)))
def ltE (e f : Ent) : Prop := ltP e f.b f.r f.c
structure EntOk (B : List Int) (e : Ent) : Prop where
  b : 0 ≤ e.b ∧ e.b < B.length
  rc : 0 ≤ e.r ∧ e.r ≤ e.c
  c : ∀ d, B[e.b.toNat]? = some d → e.c < d
  v : ∃ x : Int, -2 ≤ x ∧ x ≤ 2 ∧ x ≠ 0 ∧ e.v = ratT (x : Rat)
structure EOk (B : List Int) (E : List Ent) (b r c : Int) : Prop where
  ok : ∀ e ∈ E, EntOk B e
  asc : E.Pairwise ltE
  lt : ∀ e ∈ E, ltP e b r c
theorem ltP_mono {e : Ent} {b r c b' r' c' : Int} (h : ltP e b r c) (h' : b < b' ∨ (b = b' ∧ (r < r' ∨ (r = r' ∧ c ≤ c')))) : ltP e b' r' c' := by
  unfold ltP at *
  omega
theorem EOk.mono {B : List Int} {E : List Ent} {b r c b' r' c' : Int} (h : EOk B E b r c) (h' : b < b' ∨ (b = b' ∧ (r < r' ∨ (r = r' ∧ c ≤ c')))) : EOk B E b' r' c' := ⟨h.ok, h.asc, fun e he => ltP_mono (h.lt e he) h'⟩
theorem EOk.snoc {B : List Int} {E : List Ent} {e : Ent} (h : EOk B E e.b e.r e.c) (he : EntOk B e) : EOk B (E ++ [e]) e.b e.r (e.c + 1) := by
  refine ⟨fun x hx => ?_, ?_, fun x hx => ?_⟩
  · rcases List.mem_append.1 hx with hx | hx
    · exact h.ok x hx
    · simp at hx; subst hx; exact he
  · rw [List.pairwise_append]
    refine ⟨h.asc, by simp, fun x hx y hy => ?_⟩
    simp at hy; subst hy
    exact h.lt x hx
  · rcases List.mem_append.1 hx with hx | hx
    · exact ltP_mono (h.lt x hx) (.inr ⟨rfl, .inr ⟨rfl, by omega⟩⟩)
    · simp at hx; subst hx; exact .inr ⟨rfl, .inr ⟨rfl, by omega⟩⟩
theorem TLeft.refl {T : TapeI} {h : HF} {n : Nat} (ht : Tp h T) : TLeft T h n h n [] := ⟨fun b hb => absurd hb List.not_mem_nil, Nat.le_refl _, ht, ExtT.refl _ _ _⟩
theorem Sl.extT {h h' : HF} {n n' bt sz : Nat} {v : Value} {c : List Value} (s : Sl h n sz v c) (e : ExtT n bt h h') (hb : ∀ a l cap, v = .slice (some a) l cap → a.block ≠ bt) (hn : n ≤ n') : Sl h' n' sz v c :=
  s.keep (fun a l cap ev => e _ (by have := s.below; subst ev; exact this) (hb a l cap ev)) hn
set_option maxHeartbeats 2000000
theorem entries_ok (k : Nat) {h : HF} {n : Nat} {T : TapeI} {a : Option Addr} {cap : Nat} {B : List Int} (hB : B.length ≤ 4 ∧ ∀ d ∈ B, 0 ≤ d ∧ d ≤ 8) (ht : Tp h T) (hn : T.m ≤ n) (hs : Sl h n 1 (.slice a B.length cap) (i64s B)) (hbt : ∀ x, a = some x → x.block ≠ T.bt) :
    CF (cal (k + 5)) 66 [.pointer (some ⟨T.bt, 0, none⟩), .slice a B.length cap] h n fun v h' n' w => TLeft T h n h' n' w ∧ ∃ E, EOk B E B.length 0 0 ∧ E.length ≤ 256 ∧ Gro h' n n' 37 4 v E.length (ents E) := by
  have hbt0 := ht.bt
  refine CF_heap (fn := Tryz.f66) rfl rfl rfl rfl ?_
  simp only [NV, reduceIte, Nat.reduceEqDiff, reduceCtorEq, Nat.one_ne_zero, Nat.zero_ne_one]
  repeat (first | refine st_ltT rfl rfl rfl rfl rfl rfl (by omega) ?_ | refine st_ltF rfl rfl rfl rfl rfl rfl (by omega) ?_ | refine st_eqT rfl rfl rfl rfl rfl rfl (by omega) ?_ | refine st_eqF rfl rfl rfl rfl rfl rfl (by omega) ?_ | refine st_neqT rfl rfl rfl rfl rfl rfl (by omega) ?_ | refine st_neq rfl rfl rfl rfl rfl rfl ?_ | refine st_add rfl rfl rfl rfl rfl rfl (by omega) ?_ | refine st_I rfl rfl rfl rfl rfl ?_ | refine st_B rfl rfl rfl rfl rfl ?_ | refine st_S rfl rfl rfl rfl rfl ?_ | refine st_P rfl rfl rfl rfl rfl ?_ | refine st_val (v := .pointer none) rfl rfl rfl rfl rfl ?_ | refine st_off rfl rfl rfl ?_)
  simp only [NV, reduceIte, Nat.reduceEqDiff, reduceCtorEq, Nat.one_ne_zero, Nat.zero_ne_one]
  repeat (first | refine st_ltT rfl rfl rfl rfl rfl rfl (by omega) ?_ | refine st_ltF rfl rfl rfl rfl rfl rfl (by omega) ?_ | refine st_eqT rfl rfl rfl rfl rfl rfl (by omega) ?_ | refine st_eqF rfl rfl rfl rfl rfl rfl (by omega) ?_ | refine st_neqT rfl rfl rfl rfl rfl rfl (by omega) ?_ | refine st_neq rfl rfl rfl rfl rfl rfl ?_ | refine st_add rfl rfl rfl rfl rfl rfl (by omega) ?_ | refine st_I rfl rfl rfl rfl rfl ?_ | refine st_B rfl rfl rfl rfl rfl ?_ | refine st_S rfl rfl rfl rfl rfl ?_ | refine st_P rfl rfl rfl rfl rfl ?_ | refine st_val (v := .pointer none) rfl rfl rfl rfl rfl ?_ | refine st_off rfl rfl rfl ?_)
  simp only [NV, reduceIte, Nat.reduceEqDiff, reduceCtorEq, Nat.one_ne_zero, Nat.zero_ne_one]
  repeat (first | refine st_ltT rfl rfl rfl rfl rfl rfl (by omega) ?_ | refine st_ltF rfl rfl rfl rfl rfl rfl (by omega) ?_ | refine st_eqT rfl rfl rfl rfl rfl rfl (by omega) ?_ | refine st_eqF rfl rfl rfl rfl rfl rfl (by omega) ?_ | refine st_neqT rfl rfl rfl rfl rfl rfl (by omega) ?_ | refine st_neq rfl rfl rfl rfl rfl rfl ?_ | refine st_add rfl rfl rfl rfl rfl rfl (by omega) ?_ | refine st_I rfl rfl rfl rfl rfl ?_ | refine st_B rfl rfl rfl rfl rfl ?_ | refine st_S rfl rfl rfl rfl rfl ?_ | refine st_P rfl rfl rfl rfl rfl ?_ | refine st_val (v := .pointer none) rfl rfl rfl rfl rfl ?_ | refine st_off rfl rfl rfl ?_)
  simp only [NV, reduceIte, Nat.reduceEqDiff, reduceCtorEq, Nat.one_ne_zero, Nat.zero_ne_one]
  refine EC_for (α := Nat × Value × List Ent) (fun z => [(0, .pointer (some ⟨T.bt, 0, none⟩)), (5, z.2.1), (11, .slice a B.length cap), (12, .int .i64 (B.length : Int)), (13, .int .i64 (z.1 : Int))])
    (fun z h' n' w => TLeft T h n h' n' w ∧ z.1 ≤ B.length ∧ EOk B z.2.2 z.1 0 0 ∧ z.2.2.length ≤ 64 * z.1 ∧ Gro h' n n' 37 4 z.2.1 z.2.2.length (ents z.2.2)) (fun z => B.length - z.1)
    (0, .slice none 0 0, []) ⟨rfl, rfl, rfl, rfl, rfl, trivial⟩ ⟨TLeft.refl ht, Nat.zero_le _, ⟨fun e he => absurd he List.not_mem_nil, List.Pairwise.nil, fun e he => absurd he List.not_mem_nil⟩, Nat.le_refl _, .nil⟩ (by show B.length - 0 < LL; unfold LL; omega) ?_
  rintro ⟨j, v5, E⟩ t h1 n1 w1 ⟨hT1, hj, hE, hEl, hg⟩
  simp only at hj hE hEl hg
  obtain ⟨a5, rfl, _⟩ := hg.shape
  simp only [NV, reduceIte, Nat.reduceEqDiff, reduceCtorEq, Nat.one_ne_zero, Nat.zero_ne_one]
  by_cases hjB : j = B.length
  · repeat (first | refine st_ltT rfl rfl rfl rfl rfl rfl (by omega) ?_ | refine st_ltF rfl rfl rfl rfl rfl rfl (by omega) ?_ | refine st_eqT rfl rfl rfl rfl rfl rfl (by omega) ?_ | refine st_eqF rfl rfl rfl rfl rfl rfl (by omega) ?_ | refine st_neqT rfl rfl rfl rfl rfl rfl (by omega) ?_ | refine st_neq rfl rfl rfl rfl rfl rfl ?_ | refine st_add rfl rfl rfl rfl rfl rfl (by omega) ?_ | refine st_I rfl rfl rfl rfl rfl ?_ | refine st_B rfl rfl rfl rfl rfl ?_ | refine st_S rfl rfl rfl rfl rfl ?_ | refine st_P rfl rfl rfl rfl rfl ?_ | refine st_val (v := .pointer none) rfl rfl rfl rfl rfl ?_ | refine st_off rfl rfl rfl ?_)
    simp only [NV, reduceIte, Nat.reduceEqDiff, reduceCtorEq, Nat.one_ne_zero, Nat.zero_ne_one]
    rw [EC_cond_false rfl]
    simp only [NV, reduceIte, Nat.reduceEqDiff, reduceCtorEq, Nat.one_ne_zero, Nat.zero_ne_one]
    repeat (first | refine st_ltT rfl rfl rfl rfl rfl rfl (by omega) ?_ | refine st_ltF rfl rfl rfl rfl rfl rfl (by omega) ?_ | refine st_eqT rfl rfl rfl rfl rfl rfl (by omega) ?_ | refine st_eqF rfl rfl rfl rfl rfl rfl (by omega) ?_ | refine st_neqT rfl rfl rfl rfl rfl rfl (by omega) ?_ | refine st_neq rfl rfl rfl rfl rfl rfl ?_ | refine st_add rfl rfl rfl rfl rfl rfl (by omega) ?_ | refine st_I rfl rfl rfl rfl rfl ?_ | refine st_B rfl rfl rfl rfl rfl ?_ | refine st_S rfl rfl rfl rfl rfl ?_ | refine st_P rfl rfl rfl rfl rfl ?_ | refine st_val (v := .pointer none) rfl rfl rfl rfl rfl ?_ | refine st_off rfl rfl rfl ?_)
    simp only [NV, reduceIte, Nat.reduceEqDiff, reduceCtorEq, Nat.one_ne_zero, Nat.zero_ne_one]
    exact retH _ rfl (resF_tmp rfl) rfl ⟨hT1, E, hjB ▸ hE, by omega, hg⟩
  obtain ⟨d, hd⟩ : ∃ d, B[j]? = some d := ⟨B[j]'(by omega), List.getElem?_eq_getElem (by omega)⟩
  have hd8 := hB.2 d (List.mem_of_getElem? hd)
  obtain ⟨bb, off, x, cs, rfl, hb3, hx, hc, hcap, hle, he⟩ := hs.inv (by omega)
  have hcell : cs[off + j]? = some (.int .i64 d) := cell_at he (by rw [i64s, List.getElem?_map, hd]; rfl)
  have hx1 : h1 bb = some x := by rw [hT1.ext bb hb3 (hbt _ rfl)]; exact hx
  obtain ⟨D, rfl⟩ : ∃ D : Nat, d = (D : Int) := ⟨d.toNat, by omega⟩
  repeat (first | refine st_ltT rfl rfl rfl rfl rfl rfl (by omega) ?_ | refine st_ltF rfl rfl rfl rfl rfl rfl (by omega) ?_ | refine st_eqT rfl rfl rfl rfl rfl rfl (by omega) ?_ | refine st_eqF rfl rfl rfl rfl rfl rfl (by omega) ?_ | refine st_neqT rfl rfl rfl rfl rfl rfl (by omega) ?_ | refine st_neq rfl rfl rfl rfl rfl rfl ?_ | refine st_add rfl rfl rfl rfl rfl rfl (by omega) ?_ | refine st_I rfl rfl rfl rfl rfl ?_ | refine st_B rfl rfl rfl rfl rfl ?_ | refine st_S rfl rfl rfl rfl rfl ?_ | refine st_P rfl rfl rfl rfl rfl ?_ | refine st_val (v := .pointer none) rfl rfl rfl rfl rfl ?_ | refine st_off rfl rfl rfl ?_)
  simp only [NV, reduceIte, Nat.reduceEqDiff, reduceCtorEq, Nat.one_ne_zero, Nat.zero_ne_one]
  rw [EC_cond_true rfl]
  simp only [NV, reduceIte, Nat.reduceEqDiff, reduceCtorEq, Nat.one_ne_zero, Nat.zero_ne_one]
  repeat (first | refine st_ltT rfl rfl rfl rfl rfl rfl (by omega) ?_ | refine st_ltF rfl rfl rfl rfl rfl rfl (by omega) ?_ | refine st_eqT rfl rfl rfl rfl rfl rfl (by omega) ?_ | refine st_eqF rfl rfl rfl rfl rfl rfl (by omega) ?_ | refine st_neqT rfl rfl rfl rfl rfl rfl (by omega) ?_ | refine st_neq rfl rfl rfl rfl rfl rfl ?_ | refine st_add rfl rfl rfl rfl rfl rfl (by omega) ?_ | refine st_I rfl rfl rfl rfl rfl ?_ | refine st_B rfl rfl rfl rfl rfl ?_ | refine st_S rfl rfl rfl rfl rfl ?_ | refine st_P rfl rfl rfl rfl rfl ?_ | refine st_val (v := .pointer none) rfl rfl rfl rfl rfl ?_ | refine st_off rfl rfl rfl ?_)
  refine st_idx rfl rfl rfl rfl rfl rfl rfl rfl (by omega) ?_
  refine st_load1 rfl rfl rfl rfl rfl rfl hx1 hc (v := .int .i64 (D : Int)) (by rw [← hcell]; congr 1; omega) ?_
  repeat (first | refine st_ltT rfl rfl rfl rfl rfl rfl (by omega) ?_ | refine st_ltF rfl rfl rfl rfl rfl rfl (by omega) ?_ | refine st_eqT rfl rfl rfl rfl rfl rfl (by omega) ?_ | refine st_eqF rfl rfl rfl rfl rfl rfl (by omega) ?_ | refine st_neqT rfl rfl rfl rfl rfl rfl (by omega) ?_ | refine st_neq rfl rfl rfl rfl rfl rfl ?_ | refine st_add rfl rfl rfl rfl rfl rfl (by omega) ?_ | refine st_I rfl rfl rfl rfl rfl ?_ | refine st_B rfl rfl rfl rfl rfl ?_ | refine st_S rfl rfl rfl rfl rfl ?_ | refine st_P rfl rfl rfl rfl rfl ?_ | refine st_val (v := .pointer none) rfl rfl rfl rfl rfl ?_ | refine st_off rfl rfl rfl ?_)
  simp only [NV, reduceIte, Nat.reduceEqDiff, reduceCtorEq, Nat.one_ne_zero, Nat.zero_ne_one]
  repeat (first | refine st_ltT rfl rfl rfl rfl rfl rfl (by omega) ?_ | refine st_ltF rfl rfl rfl rfl rfl rfl (by omega) ?_ | refine st_eqT rfl rfl rfl rfl rfl rfl (by omega) ?_ | refine st_eqF rfl rfl rfl rfl rfl rfl (by omega) ?_ | refine st_neqT rfl rfl rfl rfl rfl rfl (by omega) ?_ | refine st_neq rfl rfl rfl rfl rfl rfl ?_ | refine st_add rfl rfl rfl rfl rfl rfl (by omega) ?_ | refine st_I rfl rfl rfl rfl rfl ?_ | refine st_B rfl rfl rfl rfl rfl ?_ | refine st_S rfl rfl rfl rfl rfl ?_ | refine st_P rfl rfl rfl rfl rfl ?_ | refine st_val (v := .pointer none) rfl rfl rfl rfl rfl ?_ | refine st_off rfl rfl rfl ?_)
  simp only [NV, reduceIte, Nat.reduceEqDiff, reduceCtorEq, Nat.one_ne_zero, Nat.zero_ne_one]
  refine EC_for (α := Nat × Value × List Ent) (fun z => [(0, .pointer (some ⟨T.bt, 0, none⟩)), (5, z.2.1), (6, .int .i64 (j : Int)), (7, .int .i64 (D : Int)), (8, .int .i64 (z.1 : Int)), (11, .slice (some ⟨bb, off, none⟩) B.length cap), (12, .int .i64 (B.length : Int)), (13, .int .i64 (j : Int))])
    (fun z h' n' w => TLeft T h n h' n' w ∧ z.1 ≤ D ∧ EOk B z.2.2 j z.1 0 ∧ z.2.2.length ≤ 64 * j + 8 * z.1 ∧ Gro h' n n' 37 4 z.2.1 z.2.2.length (ents z.2.2)) (fun z => D - z.1)
    (0, .slice a5 E.length E.length, E) ⟨rfl, rfl, rfl, rfl, rfl, rfl, rfl, rfl, trivial⟩ ⟨hT1, Nat.zero_le _, hE, by show E.length ≤ 64 * j + 0; omega, hg⟩ (by show D - 0 < LL; unfold LL; omega) ?_
  rintro ⟨r, v5, E⟩ t h1 n1 w1 ⟨hT1, hr, hE, hEl, hg⟩
  simp only at hr hE hEl hg
  obtain ⟨a5, rfl, _⟩ := hg.shape
  simp only [NV, reduceIte, Nat.reduceEqDiff, reduceCtorEq, Nat.one_ne_zero, Nat.zero_ne_one]
  by_cases hrD : r = D
  · repeat (first | refine st_ltT rfl rfl rfl rfl rfl rfl (by omega) ?_ | refine st_ltF rfl rfl rfl rfl rfl rfl (by omega) ?_ | refine st_eqT rfl rfl rfl rfl rfl rfl (by omega) ?_ | refine st_eqF rfl rfl rfl rfl rfl rfl (by omega) ?_ | refine st_neqT rfl rfl rfl rfl rfl rfl (by omega) ?_ | refine st_neq rfl rfl rfl rfl rfl rfl ?_ | refine st_add rfl rfl rfl rfl rfl rfl (by omega) ?_ | refine st_I rfl rfl rfl rfl rfl ?_ | refine st_B rfl rfl rfl rfl rfl ?_ | refine st_S rfl rfl rfl rfl rfl ?_ | refine st_P rfl rfl rfl rfl rfl ?_ | refine st_val (v := .pointer none) rfl rfl rfl rfl rfl ?_ | refine st_off rfl rfl rfl ?_)
    simp only [NV, reduceIte, Nat.reduceEqDiff, reduceCtorEq, Nat.one_ne_zero, Nat.zero_ne_one]
    rw [EC_cond_false rfl]
    simp only [NV, reduceIte, Nat.reduceEqDiff, reduceCtorEq, Nat.one_ne_zero, Nat.zero_ne_one]
    repeat (first | refine st_ltT rfl rfl rfl rfl rfl rfl (by omega) ?_ | refine st_ltF rfl rfl rfl rfl rfl rfl (by omega) ?_ | refine st_eqT rfl rfl rfl rfl rfl rfl (by omega) ?_ | refine st_eqF rfl rfl rfl rfl rfl rfl (by omega) ?_ | refine st_neqT rfl rfl rfl rfl rfl rfl (by omega) ?_ | refine st_neq rfl rfl rfl rfl rfl rfl ?_ | refine st_add rfl rfl rfl rfl rfl rfl (by omega) ?_ | refine st_I rfl rfl rfl rfl rfl ?_ | refine st_B rfl rfl rfl rfl rfl ?_ | refine st_S rfl rfl rfl rfl rfl ?_ | refine st_P rfl rfl rfl rfl rfl ?_ | refine st_val (v := .pointer none) rfl rfl rfl rfl rfl ?_ | refine st_off rfl rfl rfl ?_)
    simp only [NV, reduceIte, Nat.reduceEqDiff, reduceCtorEq, Nat.one_ne_zero, Nat.zero_ne_one]
    exact goOn (j + 1, .slice a5 E.length E.length, E) (by show B.length - (j + 1) < B.length - j; omega) ⟨rfl, rfl, rfl, rfl, by show Value.int .i64 _ = Value.int .i64 _; congr 1, trivial⟩ ⟨hT1, by show j + 1 ≤ _; omega, hE.mono (.inl (by show (j : Int) < ((j + 1 : Nat) : Int); omega)), by show E.length ≤ 64 * (j + 1); omega, hg⟩
  repeat (first | refine st_ltT rfl rfl rfl rfl rfl rfl (by omega) ?_ | refine st_ltF rfl rfl rfl rfl rfl rfl (by omega) ?_ | refine st_eqT rfl rfl rfl rfl rfl rfl (by omega) ?_ | refine st_eqF rfl rfl rfl rfl rfl rfl (by omega) ?_ | refine st_neqT rfl rfl rfl rfl rfl rfl (by omega) ?_ | refine st_neq rfl rfl rfl rfl rfl rfl ?_ | refine st_add rfl rfl rfl rfl rfl rfl (by omega) ?_ | refine st_I rfl rfl rfl rfl rfl ?_ | refine st_B rfl rfl rfl rfl rfl ?_ | refine st_S rfl rfl rfl rfl rfl ?_ | refine st_P rfl rfl rfl rfl rfl ?_ | refine st_val (v := .pointer none) rfl rfl rfl rfl rfl ?_ | refine st_off rfl rfl rfl ?_)
  simp only [NV, reduceIte, Nat.reduceEqDiff, reduceCtorEq, Nat.one_ne_zero, Nat.zero_ne_one]
  rw [EC_cond_true rfl]
  simp only [NV, reduceIte, Nat.reduceEqDiff, reduceCtorEq, Nat.one_ne_zero, Nat.zero_ne_one]
  repeat (first | refine st_ltT rfl rfl rfl rfl rfl rfl (by omega) ?_ | refine st_ltF rfl rfl rfl rfl rfl rfl (by omega) ?_ | refine st_eqT rfl rfl rfl rfl rfl rfl (by omega) ?_ | refine st_eqF rfl rfl rfl rfl rfl rfl (by omega) ?_ | refine st_neqT rfl rfl rfl rfl rfl rfl (by omega) ?_ | refine st_neq rfl rfl rfl rfl rfl rfl ?_ | refine st_add rfl rfl rfl rfl rfl rfl (by omega) ?_ | refine st_I rfl rfl rfl rfl rfl ?_ | refine st_B rfl rfl rfl rfl rfl ?_ | refine st_S rfl rfl rfl rfl rfl ?_ | refine st_P rfl rfl rfl rfl rfl ?_ | refine st_val (v := .pointer none) rfl rfl rfl rfl rfl ?_ | refine st_off rfl rfl rfl ?_)
  simp only [NV, reduceIte, Nat.reduceEqDiff, reduceCtorEq, Nat.one_ne_zero, Nat.zero_ne_one]
  refine EC_for (α := Nat × Value × List Ent) (fun z => [(0, .pointer (some ⟨T.bt, 0, none⟩)), (5, z.2.1), (6, .int .i64 (j : Int)), (7, .int .i64 (D : Int)), (8, .int .i64 (r : Int)), (9, .int .i64 (z.1 : Int)), (11, .slice (some ⟨bb, off, none⟩) B.length cap), (12, .int .i64 (B.length : Int)), (13, .int .i64 (j : Int))])
    (fun z h' n' w => TLeft T h n h' n' w ∧ r ≤ z.1 ∧ z.1 ≤ D ∧ EOk B z.2.2 j r z.1 ∧ z.2.2.length ≤ 64 * j + 8 * r + (z.1 - r) ∧ Gro h' n n' 37 4 z.2.1 z.2.2.length (ents z.2.2)) (fun z => D - z.1)
    (r, .slice a5 E.length E.length, E) ⟨rfl, rfl, rfl, rfl, rfl, rfl, rfl, rfl, rfl, trivial⟩ ⟨hT1, Nat.le_refl _, hr, hE.mono (.inr ⟨rfl, .inr ⟨rfl, by omega⟩⟩), by show E.length ≤ 64 * j + 8 * r + (r - r); omega, hg⟩ (by show D - r < LL; unfold LL; omega) ?_
  rintro ⟨c, v5, E⟩ t h1 n1 w1 ⟨hT1, hrc, hc8, hE, hEl, hg⟩
  simp only at hrc hc8 hE hEl hg
  obtain ⟨a5, rfl, _⟩ := hg.shape
  simp only [NV, reduceIte, Nat.reduceEqDiff, reduceCtorEq, Nat.one_ne_zero, Nat.zero_ne_one]
  by_cases hcD : c = D
  · repeat (first | refine st_ltT rfl rfl rfl rfl rfl rfl (by omega) ?_ | refine st_ltF rfl rfl rfl rfl rfl rfl (by omega) ?_ | refine st_eqT rfl rfl rfl rfl rfl rfl (by omega) ?_ | refine st_eqF rfl rfl rfl rfl rfl rfl (by omega) ?_ | refine st_neqT rfl rfl rfl rfl rfl rfl (by omega) ?_ | refine st_neq rfl rfl rfl rfl rfl rfl ?_ | refine st_add rfl rfl rfl rfl rfl rfl (by omega) ?_ | refine st_I rfl rfl rfl rfl rfl ?_ | refine st_B rfl rfl rfl rfl rfl ?_ | refine st_S rfl rfl rfl rfl rfl ?_ | refine st_P rfl rfl rfl rfl rfl ?_ | refine st_val (v := .pointer none) rfl rfl rfl rfl rfl ?_ | refine st_off rfl rfl rfl ?_)
    simp only [NV, reduceIte, Nat.reduceEqDiff, reduceCtorEq, Nat.one_ne_zero, Nat.zero_ne_one]
    rw [EC_cond_false rfl]
    simp only [NV, reduceIte, Nat.reduceEqDiff, reduceCtorEq, Nat.one_ne_zero, Nat.zero_ne_one]
    repeat (first | refine st_ltT rfl rfl rfl rfl rfl rfl (by omega) ?_ | refine st_ltF rfl rfl rfl rfl rfl rfl (by omega) ?_ | refine st_eqT rfl rfl rfl rfl rfl rfl (by omega) ?_ | refine st_eqF rfl rfl rfl rfl rfl rfl (by omega) ?_ | refine st_neqT rfl rfl rfl rfl rfl rfl (by omega) ?_ | refine st_neq rfl rfl rfl rfl rfl rfl ?_ | refine st_add rfl rfl rfl rfl rfl rfl (by omega) ?_ | refine st_I rfl rfl rfl rfl rfl ?_ | refine st_B rfl rfl rfl rfl rfl ?_ | refine st_S rfl rfl rfl rfl rfl ?_ | refine st_P rfl rfl rfl rfl rfl ?_ | refine st_val (v := .pointer none) rfl rfl rfl rfl rfl ?_ | refine st_off rfl rfl rfl ?_)
    simp only [NV, reduceIte, Nat.reduceEqDiff, reduceCtorEq, Nat.one_ne_zero, Nat.zero_ne_one]
    exact goOn (r + 1, .slice a5 E.length E.length, E) (by show D - (r + 1) < D - r; omega) ⟨rfl, rfl, rfl, rfl, by show Value.int .i64 _ = Value.int .i64 _; congr 1, rfl, rfl, rfl, trivial⟩ ⟨hT1, by show r + 1 ≤ _; omega, hE.mono (.inr ⟨rfl, .inl (by show (r : Int) < ((r + 1 : Nat) : Int); omega)⟩), by show E.length ≤ 64 * j + 8 * (r + 1); omega, hg⟩
  have hcDD : c < D := by omega
  repeat (first | refine st_ltT rfl rfl rfl rfl rfl rfl (by omega) ?_ | refine st_ltF rfl rfl rfl rfl rfl rfl (by omega) ?_ | refine st_eqT rfl rfl rfl rfl rfl rfl (by omega) ?_ | refine st_eqF rfl rfl rfl rfl rfl rfl (by omega) ?_ | refine st_neqT rfl rfl rfl rfl rfl rfl (by omega) ?_ | refine st_neq rfl rfl rfl rfl rfl rfl ?_ | refine st_add rfl rfl rfl rfl rfl rfl (by omega) ?_ | refine st_I rfl rfl rfl rfl rfl ?_ | refine st_B rfl rfl rfl rfl rfl ?_ | refine st_S rfl rfl rfl rfl rfl ?_ | refine st_P rfl rfl rfl rfl rfl ?_ | refine st_val (v := .pointer none) rfl rfl rfl rfl rfl ?_ | refine st_off rfl rfl rfl ?_)
  simp only [NV, reduceIte, Nat.reduceEqDiff, reduceCtorEq, Nat.one_ne_zero, Nat.zero_ne_one]
  rw [EC_cond_true rfl]
  simp only [EC_skip, EO_nil, after_normal, EC_seq]
  refine EC_cutx (α := Value × List Ent) (fun z => [(0, .pointer (some ⟨T.bt, 0, none⟩)), (5, z.1), (6, .int .i64 (j : Int)), (7, .int .i64 (D : Int)), (8, .int .i64 (r : Int)), (9, .int .i64 (c : Int)), (11, .slice (some ⟨bb, off, none⟩) B.length cap), (12, .int .i64 (B.length : Int)), (13, .int .i64 (j : Int))])
    (fun z h' n' w => TLeft T h n h' n' w ∧ EOk B z.2 j r (c + 1 : Nat) ∧ z.2.length ≤ E.length + 1 ∧ Gro h' n n' 37 4 z.1 z.2.length (ents z.2)) ?_ ?_
  · simp only [NV, reduceIte, Nat.reduceEqDiff, reduceCtorEq, Nat.one_ne_zero, Nat.zero_ne_one]
    repeat (first | refine st_ltT rfl rfl rfl rfl rfl rfl (by omega) ?_ | refine st_ltF rfl rfl rfl rfl rfl rfl (by omega) ?_ | refine st_eqT rfl rfl rfl rfl rfl rfl (by omega) ?_ | refine st_eqF rfl rfl rfl rfl rfl rfl (by omega) ?_ | refine st_neqT rfl rfl rfl rfl rfl rfl (by omega) ?_ | refine st_neq rfl rfl rfl rfl rfl rfl ?_ | refine st_add rfl rfl rfl rfl rfl rfl (by omega) ?_ | refine st_I rfl rfl rfl rfl rfl ?_ | refine st_B rfl rfl rfl rfl rfl ?_ | refine st_S rfl rfl rfl rfl rfl ?_ | refine st_P rfl rfl rfl rfl rfl ?_ | refine st_val (v := .pointer none) rfl rfl rfl rfl rfl ?_ | refine st_off rfl rfl rfl ?_)
    refine st_call _ rfl rfl rfl rfl rfl (whole_ok k (K := 2) (by omega) hT1.tp (by have := hT1.le; omega)) ?_
    rintro _ h2 n2 w2 ⟨hw2, hn2, ht2, hx2, m1, m2, ln, y, rfl, hq, hy0, hy1, hf, hln⟩
    have hn1 := hT1.le
    refine st_alloc rfl rfl rfl rfl rfl ?_
    have h1s : ones [m1, m2, .bool false, .slice none 0 0] = true := by
      rw [hq.num.neg]
      show ones (m2 :: _) = true
      rw [hq.num.sl.ones]; rfl
    refine st_storeW [m1, m2, .bool false, .slice none 0 0] rfl rfl rfl rfl rfl rfl rfl h1s (upd_same _ _ _) rfl (by show 3 * n ≤ _; omega) ?_
    rw [upd_upd]
    simp only [NV, reduceIte, Nat.reduceEqDiff, reduceCtorEq, Nat.one_ne_zero, Nat.zero_ne_one]
    generalize hh : upd h2 (3 * n2 + 2) _ = h3
    have hx3 : Ext n2 h2 h3 := by rw [← hh]; exact Ext.upd (by omega)
    have hrow3 : ∃ e, h3 (3 * n2 + 2) = some (.row [m1, m2, .bool false, .slice none 0 0] e) := ⟨_, by rw [← hh, upd_same]⟩
    obtain ⟨e3, hrow3⟩ := hrow3
    have hq3 := hq.ext hx3 (Nat.le_succ n2)
    have ht3 := ht2.ext hx3 (by omega)
    have hg3 := (hg.extT hx2 (by omega) hn2).ext hx3 (Nat.le_succ n2)
    have hbx3 : ∀ b, b < 3 * n → b ≠ T.bt → h3 b = h b := fun b hb hne => (hx3 b (by omega)).trans ((hx2 b (by omega) hne).trans (hT1.ext b hb hne))
    have hw3 : ∀ b ∈ addW (ctx (k + 4) n (Tryz.f66).ntmps).n0 w2 w1, b = T.bt := addW_bt hw2 hT1.w
    refine st_load (v := .agg #[m1, m2, .bool false, .slice none 0 0]) rfl rfl rfl rfl rfl (loadn_eq rfl rfl hrow3 rfl (Nat.le_of_ble_eq_true rfl) rfl) ?_
    refine st_vf _ rfl rfl rfl rfl rfl (rsign_ok (k + 2) hq3) ?_
    rintro _ rfl
    rw [Rat.num_intCast]
    by_cases hy : y = 0
    · subst hy
      repeat (first | refine st_ltT rfl rfl rfl rfl rfl rfl (by omega) ?_ | refine st_ltF rfl rfl rfl rfl rfl rfl (by omega) ?_ | refine st_eqT rfl rfl rfl rfl rfl rfl (by omega) ?_ | refine st_eqF rfl rfl rfl rfl rfl rfl (by omega) ?_ | refine st_neqT rfl rfl rfl rfl rfl rfl (by omega) ?_ | refine st_neq rfl rfl rfl rfl rfl rfl ?_ | refine st_add rfl rfl rfl rfl rfl rfl (by omega) ?_ | refine st_I rfl rfl rfl rfl rfl ?_ | refine st_B rfl rfl rfl rfl rfl ?_ | refine st_S rfl rfl rfl rfl rfl ?_ | refine st_P rfl rfl rfl rfl rfl ?_ | refine st_val (v := .pointer none) rfl rfl rfl rfl rfl ?_ | refine st_off rfl rfl rfl ?_)
      simp only [NV, reduceIte, Nat.reduceEqDiff, reduceCtorEq, Nat.one_ne_zero, Nat.zero_ne_one]
      rw [EC_cond_false rfl]
      simp only [NV, reduceIte, Nat.reduceEqDiff, reduceCtorEq, Nat.one_ne_zero, Nat.zero_ne_one]
      exact cutx_mk (.slice a5 E.length E.length, E) ⟨rfl, rfl, rfl, rfl, rfl, rfl, rfl, rfl, rfl, trivial⟩ ⟨⟨hw3, by show n ≤ n2 + 1; omega, ht3, hbx3⟩, hE.mono (.inr ⟨rfl, .inr ⟨rfl, by omega⟩⟩), by show E.length ≤ E.length + 1; omega, hg3⟩
    have hsg : ¬ y.sign = 0 := fun e => hy (Int.sign_eq_zero_iff_zero.1 e)
    repeat (first | refine st_ltT rfl rfl rfl rfl rfl rfl (by omega) ?_ | refine st_ltF rfl rfl rfl rfl rfl rfl (by omega) ?_ | refine st_eqT rfl rfl rfl rfl rfl rfl (by omega) ?_ | refine st_eqF rfl rfl rfl rfl rfl rfl (by omega) ?_ | refine st_neqT rfl rfl rfl rfl rfl rfl (by omega) ?_ | refine st_neq rfl rfl rfl rfl rfl rfl ?_ | refine st_add rfl rfl rfl rfl rfl rfl (by omega) ?_ | refine st_I rfl rfl rfl rfl rfl ?_ | refine st_B rfl rfl rfl rfl rfl ?_ | refine st_S rfl rfl rfl rfl rfl ?_ | refine st_P rfl rfl rfl rfl rfl ?_ | refine st_val (v := .pointer none) rfl rfl rfl rfl rfl ?_ | refine st_off rfl rfl rfl ?_)
    refine st_call _ rfl rfl rfl rfl rfl (next_ok (k + 3) (m := 2) (by omega) ht3 (by omega)) ?_
    rintro _ h4 _ w4 ⟨hw4, rfl, ht4, hx4, rr, rfl, hr0, hr1⟩
    have hg4 : Gro h4 n (n2 + 1) 37 4 (.slice a5 E.length E.length) E.length (ents E) := hg3.extT (fun b hb hne => hx4 b hne) (by omega) (Nat.le_refl _)
    have hrow4 : h4 (3 * n2 + 2) = some (.row [m1, m2, .bool false, .slice none 0 0] e3) := by rw [hx4 _ (by omega)]; exact hrow3
    have hw4' := addW_bt (n0 := (ctx (k + 4) n (Tryz.f66).ntmps).n0) hw4 hw3
    by_cases hrr : rr = 0
    · repeat (first | refine st_ltT rfl rfl rfl rfl rfl rfl (by omega) ?_ | refine st_ltF rfl rfl rfl rfl rfl rfl (by omega) ?_ | refine st_eqT rfl rfl rfl rfl rfl rfl (by omega) ?_ | refine st_eqF rfl rfl rfl rfl rfl rfl (by omega) ?_ | refine st_neqT rfl rfl rfl rfl rfl rfl (by omega) ?_ | refine st_neq rfl rfl rfl rfl rfl rfl ?_ | refine st_add rfl rfl rfl rfl rfl rfl (by omega) ?_ | refine st_I rfl rfl rfl rfl rfl ?_ | refine st_B rfl rfl rfl rfl rfl ?_ | refine st_S rfl rfl rfl rfl rfl ?_ | refine st_P rfl rfl rfl rfl rfl ?_ | refine st_val (v := .pointer none) rfl rfl rfl rfl rfl ?_ | refine st_off rfl rfl rfl ?_)
      simp only [NV, reduceIte, Nat.reduceEqDiff, reduceCtorEq, Nat.one_ne_zero, Nat.zero_ne_one]
      rw [EC_cond_true rfl]
      simp only [NV, reduceIte, Nat.reduceEqDiff, reduceCtorEq, Nat.one_ne_zero, Nat.zero_ne_one]
      repeat (first | refine st_ltT rfl rfl rfl rfl rfl rfl (by omega) ?_ | refine st_ltF rfl rfl rfl rfl rfl rfl (by omega) ?_ | refine st_eqT rfl rfl rfl rfl rfl rfl (by omega) ?_ | refine st_eqF rfl rfl rfl rfl rfl rfl (by omega) ?_ | refine st_neqT rfl rfl rfl rfl rfl rfl (by omega) ?_ | refine st_neq rfl rfl rfl rfl rfl rfl ?_ | refine st_add rfl rfl rfl rfl rfl rfl (by omega) ?_ | refine st_I rfl rfl rfl rfl rfl ?_ | refine st_B rfl rfl rfl rfl rfl ?_ | refine st_S rfl rfl rfl rfl rfl ?_ | refine st_P rfl rfl rfl rfl rfl ?_ | refine st_val (v := .pointer none) rfl rfl rfl rfl rfl ?_ | refine st_off rfl rfl rfl ?_)
      refine st_load (v := .agg #[m1, m2, .bool false, .slice none 0 0]) rfl rfl rfl rfl rfl (loadn_eq rfl rfl hrow4 rfl (Nat.le_of_ble_eq_true rfl) rfl) ?_
      have hq4 : RatR h4 (n2 + 1) m1 m2 (.bool false) (.slice none 0 0) ((y : Int) : Rat) ln [] := by
        refine ⟨⟨hq3.num.neg, hq3.num.sl.keep (fun a l cc e => hx4 _ ?_) (Nat.le_refl _), hq3.num.norm, hq3.num.val⟩, rfl, .nil (.inl rfl), Norm.nil, hq3.val⟩
        subst e
        have hf : 3 * n1 ≤ a.block := hf
        omega
      refine st_vf _ rfl rfl rfl rfl rfl (text_ok k hq4 (by simp; omega)) ?_
      rintro _ rfl
      refine st_val (v := .agg #[.int .i64 (j : Int), .int .i64 (r : Int), .int .i64 (c : Int), .string ⟨⟨ratT ((y : Int) : Rat)⟩⟩]) rfl rfl rfl rfl rfl ?_
      refine st_mks (cs := ents [⟨j, r, c, ratT ((y : Int) : Rat)⟩]) rfl rfl rfl rfl rfl ?_
      refine st_app (m := 1) rfl rfl rfl rfl rfl rfl rfl rfl (by decide) (hg4.ext (Ext.upd (by omega)) (Nat.le_succ _)) (argS_of (upd_same _ _ _) rfl rfl) (Nat.le_refl _) (by omega) rfl rfl (by show n ≤ n ∧ _; omega) ?_
      intro v6 h6 hg6 hx6 hk6
      obtain ⟨a6, rfl, _⟩ := hg6.shape
      repeat (first | refine st_ltT rfl rfl rfl rfl rfl rfl (by omega) ?_ | refine st_ltF rfl rfl rfl rfl rfl rfl (by omega) ?_ | refine st_eqT rfl rfl rfl rfl rfl rfl (by omega) ?_ | refine st_eqF rfl rfl rfl rfl rfl rfl (by omega) ?_ | refine st_neqT rfl rfl rfl rfl rfl rfl (by omega) ?_ | refine st_neq rfl rfl rfl rfl rfl rfl ?_ | refine st_add rfl rfl rfl rfl rfl rfl (by omega) ?_ | refine st_I rfl rfl rfl rfl rfl ?_ | refine st_B rfl rfl rfl rfl rfl ?_ | refine st_S rfl rfl rfl rfl rfl ?_ | refine st_P rfl rfl rfl rfl rfl ?_ | refine st_val (v := .pointer none) rfl rfl rfl rfl rfl ?_ | refine st_off rfl rfl rfl ?_)
      simp only [NV, reduceIte, Nat.reduceEqDiff, reduceCtorEq, Nat.one_ne_zero, Nat.zero_ne_one]
      refine cutx_mk (.slice a6 (E.length + 1) (E.length + 1), E ++ [⟨j, r, c, ratT ((y : Int) : Rat)⟩]) ⟨rfl, rfl, rfl, rfl, rfl, rfl, rfl, rfl, rfl, trivial⟩ ⟨⟨hw4', by show n ≤ n2 + 1 + 1 + 1; omega, (ht4.upd (by omega)).ext hx6 (by omega), fun b hb hne => ?_⟩, ?_, by show (E ++ [_]).length ≤ E.length + 1; simp, ?_⟩
      · exact (hx6 b hb).trans ((upd_ne (by omega)).trans ((hx4 b hne).trans (hbx3 b hb hne)))
      · refine EOk.snoc (e := ⟨j, r, c, ratT ((y : Int) : Rat)⟩) hE ⟨by simp only; omega, by simp only; omega, fun d' hd' => ?_, y, hy0, hy1, hy, rfl⟩
        simp only [Int.toNat_natCast] at hd' ⊢
        rw [hd] at hd'
        injection hd' with hd'
        omega
      · show Gro _ _ _ _ _ _ (E ++ [_]).length (ents (E ++ [_]))
        rw [ents_append, List.length_append]
        exact hg6
    · repeat (first | refine st_ltT rfl rfl rfl rfl rfl rfl (by omega) ?_ | refine st_ltF rfl rfl rfl rfl rfl rfl (by omega) ?_ | refine st_eqT rfl rfl rfl rfl rfl rfl (by omega) ?_ | refine st_eqF rfl rfl rfl rfl rfl rfl (by omega) ?_ | refine st_neqT rfl rfl rfl rfl rfl rfl (by omega) ?_ | refine st_neq rfl rfl rfl rfl rfl rfl ?_ | refine st_add rfl rfl rfl rfl rfl rfl (by omega) ?_ | refine st_I rfl rfl rfl rfl rfl ?_ | refine st_B rfl rfl rfl rfl rfl ?_ | refine st_S rfl rfl rfl rfl rfl ?_ | refine st_P rfl rfl rfl rfl rfl ?_ | refine st_val (v := .pointer none) rfl rfl rfl rfl rfl ?_ | refine st_off rfl rfl rfl ?_)
      simp only [NV, reduceIte, Nat.reduceEqDiff, reduceCtorEq, Nat.one_ne_zero, Nat.zero_ne_one]
      rw [EC_cond_false rfl]
      simp only [NV, reduceIte, Nat.reduceEqDiff, reduceCtorEq, Nat.one_ne_zero, Nat.zero_ne_one]
      exact cutx_mk (.slice a5 E.length E.length, E) ⟨rfl, rfl, rfl, rfl, rfl, rfl, rfl, rfl, rfl, trivial⟩ ⟨⟨hw4', by show n ≤ n2 + 1; omega, ht4, fun b hb hne => (hx4 b hne).trans (hbx3 b hb hne)⟩, hE.mono (.inr ⟨rfl, .inr ⟨rfl, by omega⟩⟩), by show E.length ≤ E.length + 1; omega, hg4⟩
  · rintro ⟨v7, E7⟩ t h7 n7 w7 ⟨hT7, hE7, hEl7, hg7⟩
    simp only at hE7 hEl7 hg7
    obtain ⟨a7, rfl, _⟩ := hg7.shape
    simp only [NV, reduceIte, Nat.reduceEqDiff, reduceCtorEq, Nat.one_ne_zero, Nat.zero_ne_one]
    repeat (first | refine st_ltT rfl rfl rfl rfl rfl rfl (by omega) ?_ | refine st_ltF rfl rfl rfl rfl rfl rfl (by omega) ?_ | refine st_eqT rfl rfl rfl rfl rfl rfl (by omega) ?_ | refine st_eqF rfl rfl rfl rfl rfl rfl (by omega) ?_ | refine st_neqT rfl rfl rfl rfl rfl rfl (by omega) ?_ | refine st_neq rfl rfl rfl rfl rfl rfl ?_ | refine st_add rfl rfl rfl rfl rfl rfl (by omega) ?_ | refine st_I rfl rfl rfl rfl rfl ?_ | refine st_B rfl rfl rfl rfl rfl ?_ | refine st_S rfl rfl rfl rfl rfl ?_ | refine st_P rfl rfl rfl rfl rfl ?_ | refine st_val (v := .pointer none) rfl rfl rfl rfl rfl ?_ | refine st_off rfl rfl rfl ?_)
    simp only [NV, reduceIte, Nat.reduceEqDiff, reduceCtorEq, Nat.one_ne_zero, Nat.zero_ne_one]
    exact goOn (c + 1, .slice a7 E7.length E7.length, E7) (by show D - (c + 1) < D - c; omega) ⟨rfl, rfl, rfl, rfl, rfl, by show Value.int .i64 _ = Value.int .i64 _; congr 1, rfl, rfl, rfl, trivial⟩ ⟨hT7, by show r ≤ c + 1; omega, by show c + 1 ≤ D; omega, hE7, by show E7.length ≤ 64 * j + 8 * r + (c + 1 - r); omega, hg7⟩
end Go.Proofs.YtokfihhdllmbmaaGreatDoor
namespace Go.Proofs.YtokfihhdllmbmaaGreatDoor
open Go Go.GL
theorem okLoads_mask {m : Nat} {W : List Nat} : ∀ {l : List (Nat × Nat)}, allAl m l = true → okLoads m W l = true := by
  intro l
  induction l with
  | nil => intro _; rfl
  | cons x l ih =>
    intro h
    obtain ⟨i, b⟩ := x
    unfold allAl at h
    split at h
    · rename_i hb
      unfold okLoads
      rw [hb, Bool.true_or]
      exact ih h
    · cases h
theorem memN_bt {b bt : Nat} : ∀ {W : List Nat}, (∀ c ∈ W, c = bt) → b ≠ bt → memN b W = false := by
  intro W
  induction W with
  | nil => intro _ _; rfl
  | cons c W ih =>
    intro h hb
    unfold memN
    have hc := h c (by simp)
    have : Nat.beq b c = false := by
      cases he : Nat.beq b c with
      | false => rfl
      | true => exact absurd ((Nat.eq_of_beq_eq_true he).trans hc) hb
    rw [this]
    exact ih (fun x hx => h x (by simp [hx])) hb
theorem okLoads_bt {m bt : Nat} {W : List Nat} (hW : ∀ c ∈ W, c = bt) : ∀ {l : List (Nat × Nat)}, (∀ x ∈ l, x.2 ≠ bt) → okLoads m W l = true := by
  intro l
  induction l with
  | nil => intro _; rfl
  | cons x l ih =>
    intro h
    obtain ⟨i, b⟩ := x
    unfold okLoads
    rw [memN_bt hW (h (i, b) (by simp)), Bool.not_false, Bool.or_true]
    exact ih fun y hy => h y (by simp [hy])
theorem okEffsF_bt {u b bt : Nat} (hb : b ≠ bt) : ∀ {l : List (Nat × HF × List Nat)}, (∀ x ∈ l, ∀ c ∈ x.2.2, c = bt) → okEffsF u b l = true := by
  intro l
  induction l with
  | nil => intro _; rfl
  | cons x l ih =>
    intro h
    obtain ⟨e, g, W⟩ := x
    unfold okEffsF
    rw [memN_bt (h (e, g, W) (by simp)) hb, Bool.not_false, Bool.or_true]
    exact ih fun y hy => h y (by simp [hy])
section
variable {X : CtxF} {ops r : List Oper} {ms : List Nat} {i m : Nat} {t : TF} {h : HF} {n : Nat} {w : List Nat} {al ld : List (Nat × Nat)} {ef : List (Nat × HF × List Nat)} {Q : SV → Prop} {o : Oper} {d : Tmp}
theorem dr_app {xT sT e : TypeId} {s x : Operand} {lo len size bytes mm : Nat} {z : Value} {c new : List Value} (hw : wantsF ops t o = true) (hd : o.dst = some d) (hn : dstOk X.nt (some d) = true) (ho : o.op = .call { callee := .builtin .append, args := #[s, x], argTypes := #[sT, xT] }) (hxT : (match X.E.und xT with | some (.int _) => false | none => false | _ => true) = true)
    (hu : X.E.und sT = some (.slice e)) (hi : X.E.inf e = some (size, bytes, z)) (hz : (vcells z).length = size) (h1 : 1 ≤ size ∧ 1 ≤ bytes) (g1 : allEfF m ef = true) (g2 : allAl m al = true) (g3 : allAl m ld = true) (hg : Gro h lo n e size (evF t s) len c) (hx : argS h size (evF t x) mm new) (hm : 1 ≤ mm) (hb : (len + mm) * bytes ≤ 1099511627776) (hl : new.length = mm * size) (hon : ones new = true) (hlo : X.n0 ≤ lo ∧ lo ≤ n)
    (k : ∀ v' h' W, Gro h' lo (n + 1) e size v' (len + mm) (c ++ new) → Ext lo h h' → Keep (evF t s) n h h' → Fresh n v' → ED X ops r ms (i + 1) ⟨⟨upd t d v', h', n + 1, w⟩, al, ld, (i, h, W) :: ef⟩ Q) : ED X ops (o :: r) (m :: ms) i ⟨⟨t, h, n, w⟩, al, ld, ef⟩ Q := by
  obtain ⟨v', h', W, h2, h3, h4, h6, h5, h7⟩ := append_Gro hu hi hz h1 hg hx hm hb hl hon hlo.2
  refine dr_append hw hd hn ho hxT h2 g1 g2 (okLoads_mask g3) (Nat.le_succ _) ?_
  rw [addW_big fun b hb => by have := h5 b hb; omega]
  exact k v' h' W h3 h4 h6 h7
theorem dr_tape {f : FuncId} {args : List Value} {bt : Nat} (P : Value → HF → Nat → List Nat → Prop) (hw : wantsF ops t o = true) (hd : o.dst = some d) (hn : dstOk X.nt (some d) = true) (hc : cls o.op = 3) (he : effF X.E o.op (evF t) h n = some (.enter f args)) (h1 : allEfF m ef = true) (h2 : allAl m al = true) (hcall : CF X.C f args h n P) (hP : ∀ v h' n' W, P v h' n' W → (∀ b ∈ W, b = bt) ∧ n ≤ n') (hld : ∀ x ∈ ld, x.2 ≠ bt)
    (k : ∀ v h' n' W, P v h' n' W → ED X ops r ms (i + 1) ⟨⟨upd t d v, h', n', addW X.n0 W w⟩, al, ld, (i, h, W) :: ef⟩ Q) : ED X ops (o :: r) (m :: ms) i ⟨⟨t, h, n, w⟩, al, ld, ef⟩ Q :=
  dr_call P hw hd hn hc he h1 h2 hcall fun v h' n' W hp => ⟨okLoads_bt (hP v h' n' W hp).1 hld, (hP v h' n' W hp).2, k v h' n' W hp⟩
end
structure Eqn where
  es : List Ent
  fr : List (List UInt8)
  rhs : List UInt8
structure Sdp where
  blocks : List Int
  free : Nat
  obj : List Ent
  objFree : List (List UInt8)
  eqs : List Eqn
inductive EqR (h : HF) (n : Nat) : List Value → List Eqn → Prop
  | nil : EqR h n [] []
  | cons {ve vf : Value} {q : Eqn} {cs : List Value} {qs : List Eqn} (h1 : Sl h n 4 ve (ents q.es)) (h2 : Sl h n 1 vf (strs q.fr)) (h3 : EqR h n cs qs) : EqR h n (ve :: vf :: .string ⟨⟨q.rhs⟩⟩ :: cs) (q :: qs)
theorem EqR.mapS {h h' : HF} {n n' : Nat} {cs : List Value} {qs : List Eqn} (e : EqR h n cs qs) (hS : ∀ v ∈ cs, ∀ sz c, Sl h n sz v c → Sl h' n' sz v c) : EqR h' n' cs qs := by
  induction e with
  | nil => exact .nil
  | cons h1 h2 h3 ih => exact .cons (hS _ (by simp) _ _ h1) (hS _ (by simp) _ _ h2) (ih fun v hv => hS v (by simp [hv]))
theorem EqR.ext {h h' : HF} {n n' : Nat} {cs : List Value} {qs : List Eqn} (e : EqR h n cs qs) (hx : Ext n h h') (hn : n ≤ n') : EqR h' n' cs qs := e.mapS fun _ _ _ _ s => s.ext hx hn
def Pt (φ : Nat → Prop) (v : Value) : Prop := ∀ a l c, v = .slice (some a) l c → φ a.block
theorem Pt.of_fresh {n : Nat} {v : Value} (h : Fresh n v) : Pt (fun b => 3 * n ≤ b) v := fun a l c e => by subst e; exact h
theorem Pt.of_below {n : Nat} {v : Value} (h : Below n v) : Pt (fun b => b < 3 * n) v := fun a l c e => by subst e; exact h
theorem EqR.belows {h : HF} {n : Nat} {cs : List Value} {qs : List Eqn} (e : EqR h n cs qs) : ∀ v ∈ cs, Pt (fun b => b < 3 * n) v := by
  induction e with
  | nil => intro v hv; cases hv
  | cons h1 h2 h3 ih =>
    intro v hv
    simp only [List.mem_cons] at hv
    rcases hv with rfl | rfl | rfl | hv
    · exact Pt.of_below h1.below
    · exact Pt.of_below h2.below
    · exact fun a l c e => by cases e
    · exact ih v hv
theorem EqR.len {h : HF} {n : Nat} {cs : List Value} {qs : List Eqn} (e : EqR h n cs qs) : cs.length = qs.length * 3 := by
  induction e with
  | nil => rfl
  | cons h1 h2 h3 ih => simp [ih]; omega
theorem EqR.snoc {h : HF} {n : Nat} {cs : List Value} {qs : List Eqn} {ve vf : Value} {q : Eqn} (e : EqR h n cs qs) (h1 : Sl h n 4 ve (ents q.es)) (h2 : Sl h n 1 vf (strs q.fr)) : EqR h n (cs ++ [ve, vf, .string ⟨⟨q.rhs⟩⟩]) (qs ++ [q]) := by
  induction e with
  | nil => exact .cons h1 h2 .nil
  | cons g1 g2 g3 ih => exact .cons g1 g2 ih
structure SdpR (h : HF) (n : Nat) (vB vO vF vE : Value) (p : Sdp) : Prop where
  blocks : Sl h n 1 vB (i64s p.blocks)
  obj : Sl h n 4 vO (ents p.obj)
  objFree : Sl h n 1 vF (strs p.objFree)
  eqs : ∃ ce, Sl h n 3 vE ce ∧ EqR h n ce p.eqs
structure SdpOk (F least : Nat) (p : Sdp) : Prop where
  bl : 1 ≤ p.blocks.length ∧ p.blocks.length ≤ 2
  b3 : ∀ d ∈ p.blocks, 1 ≤ d ∧ d ≤ 3
  free : p.free ≤ F
  obj : EOk p.blocks p.obj p.blocks.length 0 0
  objl : p.obj.length ≤ 256
  ofl : p.objFree.length = p.free
  ofs : ∀ s ∈ p.objFree, SmallS 2 s
  eql : least ≤ p.eqs.length ∧ p.eqs.length ≤ 4
  eqo : ∀ q ∈ p.eqs, EOk p.blocks q.es p.blocks.length 0 0 ∧ q.es.length ≤ 256 ∧ q.fr.length = p.free ∧ (∀ s ∈ q.fr, SmallS 2 s) ∧ SmallS 4 q.rhs
set_option maxHeartbeats 4000000
end Go.Proofs.YtokfihhdllmbmaaGreatDoor
namespace Go.Proofs.YtokfihhdllmbmaaGreatDoor
open Go Go.GL
set_option maxHeartbeats 1000000
theorem strs_at {S : List (List UInt8)} {h : HF} {n : Nat} {a : Option Addr} {len cap : Nat} (hs : Sl h n 1 (.slice a len cap) (strs S)) : len = S.length := by
  obtain ⟨a', len', cap', e, hl⟩ := hs.len
  injection e with e1 e2 e3
  rw [strs_len] at hl
  omega
theorem rep_len (m : Nat) (l : List Value) : (rep m l).length = m * l.length := by
  induction m with
  | zero => simp [rep]
  | succ m ih => rw [rep, List.length_append, ih, Nat.succ_mul]; omega
theorem nums_ok (k : Nat) {h : HF} {n : Nat} {a : Option Addr} {len cap : Nat} {S : List (List UInt8)} (hs : Sl h n 1 (.slice a len cap) (strs S)) (hl : ∀ s ∈ S, s.length < 1000000) (hb : S.length < 1000000) :
    CF (cal (k + 7)) 26 [.slice a len cap] h n fun v h' n' w => w = [] ∧ n ≤ n' ∧ Ext n h h' ∧ ∃ a' l' c' ok, v = .tuple #[.slice a' l' c', .bool ok] ∧ (ok = true ↔ ∀ s ∈ S, isNum s) := by
  refine CF_heap (fn := Tryz.f26) rfl rfl rfl rfl ?_
  have e1 := strs_at hs
  subst e1
  simp only [NV, reduceIte, Nat.reduceEqDiff, reduceCtorEq, Nat.one_ne_zero, Nat.zero_ne_one]
  repeat (first | refine st_ltT rfl rfl rfl rfl rfl rfl (by omega) ?_ | refine st_ltF rfl rfl rfl rfl rfl rfl (by omega) ?_ | refine st_add rfl rfl rfl rfl rfl rfl (by omega) ?_ | refine st_I rfl rfl rfl rfl rfl ?_ | refine st_B rfl rfl rfl rfl rfl ?_ | refine st_S rfl rfl rfl rfl rfl ?_ | refine st_A rfl rfl rfl rfl rfl ?_ | refine st_U rfl rfl rfl rfl rfl ?_)
  simp only [NV, reduceIte, Nat.reduceEqDiff, reduceCtorEq, Nat.one_ne_zero, Nat.zero_ne_one]
  repeat (first | refine st_ltT rfl rfl rfl rfl rfl rfl (by omega) ?_ | refine st_ltF rfl rfl rfl rfl rfl rfl (by omega) ?_ | refine st_add rfl rfl rfl rfl rfl rfl (by omega) ?_ | refine st_I rfl rfl rfl rfl rfl ?_ | refine st_B rfl rfl rfl rfl rfl ?_ | refine st_S rfl rfl rfl rfl rfl ?_ | refine st_A rfl rfl rfl rfl rfl ?_ | refine st_U rfl rfl rfl rfl rfl ?_)
  refine st_make rfl rfl rfl rfl rfl rfl rfl rfl rfl (by omega) ?_
  repeat (first | refine st_ltT rfl rfl rfl rfl rfl rfl (by omega) ?_ | refine st_ltF rfl rfl rfl rfl rfl rfl (by omega) ?_ | refine st_add rfl rfl rfl rfl rfl rfl (by omega) ?_ | refine st_I rfl rfl rfl rfl rfl ?_ | refine st_B rfl rfl rfl rfl rfl ?_ | refine st_S rfl rfl rfl rfl rfl ?_ | refine st_A rfl rfl rfl rfl rfl ?_ | refine st_U rfl rfl rfl rfl rfl ?_)
  simp only [NV, reduceIte, Nat.reduceEqDiff, reduceCtorEq, Nat.one_ne_zero, Nat.zero_ne_one]
  repeat (first | refine st_ltT rfl rfl rfl rfl rfl rfl (by omega) ?_ | refine st_ltF rfl rfl rfl rfl rfl rfl (by omega) ?_ | refine st_add rfl rfl rfl rfl rfl rfl (by omega) ?_ | refine st_I rfl rfl rfl rfl rfl ?_ | refine st_B rfl rfl rfl rfl rfl ?_ | refine st_S rfl rfl rfl rfl rfl ?_ | refine st_A rfl rfl rfl rfl rfl ?_ | refine st_U rfl rfl rfl rfl rfl ?_)
  simp only [NV, reduceIte, Nat.reduceEqDiff, reduceCtorEq, Nat.one_ne_zero, Nat.zero_ne_one]
  generalize hh : upd h (3 * n + 2) _ = h1
  have hr1 : ∃ cs e, h1 (3 * n + 2) = some (.row cs e) ∧ cs.length = S.length * 4 := ⟨_, _, by rw [← hh, upd_same], by rw [rep_len]; rfl⟩
  have hx1 : Ext n h h1 := by rw [← hh]; exact Ext.upd (by omega)
  clear hh
  refine EC_for (α := Nat) (fun z => [(0, .slice a S.length cap), (4, .slice (some ⟨3 * n + 2, 0, none⟩) S.length S.length), (5, .int .i64 (z : Int))])
    (fun z h' n' w' => w' = [] ∧ n + 1 ≤ n' ∧ Ext n h h' ∧ (∃ cs e, h' (3 * n + 2) = some (.row cs e) ∧ cs.length = S.length * 4) ∧ z ≤ S.length ∧ ∀ s ∈ S.take z, isNum s) (fun z => S.length - z)
    0 ⟨rfl, rfl, rfl, trivial⟩ ⟨rfl, Nat.le_refl _, hx1, hr1, Nat.zero_le _, fun s hs => absurd hs (by simp)⟩ (by show S.length - 0 < LL; unfold LL; omega) ?_
  rintro z t h2 n2 _ ⟨rfl, hn2, hx2, ⟨cs, e2, hr2, hcs⟩, hz, hall⟩
  simp only [NV, reduceIte, Nat.reduceEqDiff, reduceCtorEq, Nat.one_ne_zero, Nat.zero_ne_one]
  by_cases hze : z = S.length
  · repeat (first | refine st_ltT rfl rfl rfl rfl rfl rfl (by omega) ?_ | refine st_ltF rfl rfl rfl rfl rfl rfl (by omega) ?_ | refine st_add rfl rfl rfl rfl rfl rfl (by omega) ?_ | refine st_I rfl rfl rfl rfl rfl ?_ | refine st_B rfl rfl rfl rfl rfl ?_ | refine st_S rfl rfl rfl rfl rfl ?_ | refine st_A rfl rfl rfl rfl rfl ?_ | refine st_U rfl rfl rfl rfl rfl ?_)
    simp only [NV, reduceIte, Nat.reduceEqDiff, reduceCtorEq, Nat.one_ne_zero, Nat.zero_ne_one]
    rw [EC_cond_false rfl]
    simp only [NV, reduceIte, Nat.reduceEqDiff, reduceCtorEq, Nat.one_ne_zero, Nat.zero_ne_one]
    repeat (first | refine st_ltT rfl rfl rfl rfl rfl rfl (by omega) ?_ | refine st_ltF rfl rfl rfl rfl rfl rfl (by omega) ?_ | refine st_add rfl rfl rfl rfl rfl rfl (by omega) ?_ | refine st_I rfl rfl rfl rfl rfl ?_ | refine st_B rfl rfl rfl rfl rfl ?_ | refine st_S rfl rfl rfl rfl rfl ?_ | refine st_A rfl rfl rfl rfl rfl ?_ | refine st_U rfl rfl rfl rfl rfl ?_)
    simp only [NV, reduceIte, Nat.reduceEqDiff, reduceCtorEq, Nat.one_ne_zero, Nat.zero_ne_one]
    refine retH [.slice (some ⟨3 * n + 2, 0, none⟩) S.length S.length, .bool true] rfl rfl rfl ⟨rfl, by show n ≤ n2; omega, hx2, _, _, _, _, rfl, fun _ => ?_, fun _ => rfl⟩
    rw [hze, List.take_length] at hall
    exact hall
  obtain ⟨s, hsz⟩ : ∃ s, S[z]? = some s := ⟨S[z]'(by omega), List.getElem?_eq_getElem (by omega)⟩
  have hmem : s ∈ S := List.mem_of_getElem? hsz
  repeat (first | refine st_ltT rfl rfl rfl rfl rfl rfl (by omega) ?_ | refine st_ltF rfl rfl rfl rfl rfl rfl (by omega) ?_ | refine st_add rfl rfl rfl rfl rfl rfl (by omega) ?_ | refine st_I rfl rfl rfl rfl rfl ?_ | refine st_B rfl rfl rfl rfl rfl ?_ | refine st_S rfl rfl rfl rfl rfl ?_ | refine st_A rfl rfl rfl rfl rfl ?_ | refine st_U rfl rfl rfl rfl rfl ?_)
  simp only [NV, reduceIte, Nat.reduceEqDiff, reduceCtorEq, Nat.one_ne_zero, Nat.zero_ne_one]
  rw [EC_cond_true rfl]
  simp only [NV, reduceIte, Nat.reduceEqDiff, reduceCtorEq, Nat.one_ne_zero, Nat.zero_ne_one]
  (first | refine st_I rfl rfl rfl rfl rfl ?_ | refine st_B rfl rfl rfl rfl rfl ?_ | refine st_S rfl rfl rfl rfl rfl ?_ | refine st_A rfl rfl rfl rfl rfl ?_ | refine st_U rfl rfl rfl rfl rfl ?_)
  (first | refine st_I rfl rfl rfl rfl rfl ?_ | refine st_B rfl rfl rfl rfl rfl ?_ | refine st_S rfl rfl rfl rfl rfl ?_ | refine st_A rfl rfl rfl rfl rfl ?_ | refine st_U rfl rfl rfl rfl rfl ?_)
  refine st_at (f := fun s => Value.string ⟨⟨s⟩⟩) (j := z) (dv := s) rfl rfl rfl rfl rfl rfl rfl (hs.ext hx2 (show n ≤ n2 by omega)) rfl rfl hsz (fun _ => rfl) rfl rfl rfl rfl fun _ => ?_
  refine st_call _ rfl rfl rfl rfl rfl (read_ok k _ _ s (hl s hmem)) ?_
  rintro _ h3 n3 _ ⟨rfl, hn3, hx3, u1, u2, v1, v2, q, ln, ld, ok, rfl, rq, hl1, hl2, f1, f2, hok1, hok2⟩
  repeat (first | refine st_ltT rfl rfl rfl rfl rfl rfl (by omega) ?_ | refine st_ltF rfl rfl rfl rfl rfl rfl (by omega) ?_ | refine st_add rfl rfl rfl rfl rfl rfl (by omega) ?_ | refine st_I rfl rfl rfl rfl rfl ?_ | refine st_B rfl rfl rfl rfl rfl ?_ | refine st_S rfl rfl rfl rfl rfl ?_ | refine st_A rfl rfl rfl rfl rfl ?_ | refine st_U rfl rfl rfl rfl rfl ?_)
  refine st_alloc rfl rfl rfl rfl rfl ?_
  refine st_storeW [u1, u2, v1, v2] rfl rfl rfl rfl rfl rfl rfl rq.ones (upd_same _ _ _) rfl (by show 3 * n ≤ _; omega) ?_
  rw [upd_upd]
  generalize hh : upd h3 (3 * n3 + 2) _ = h4
  have hx4 : Ext n3 h3 h4 := by rw [← hh]; exact Ext.upd (by omega)
  have hp6 : ∃ e, h4 (3 * n3 + 2) = some (.row [u1, u2, v1, v2] e) := ⟨_, by rw [← hh, upd_same]⟩
  clear hh
  obtain ⟨e6, hp6⟩ := hp6
  have hr4 : h4 (3 * n + 2) = _ := (hx4 _ (by omega)).trans ((hx3 _ (by omega)).trans hr2)
  have hx14 : Ext n h h4 := fun b hb => (hx4 b (by omega)).trans ((hx3 b (by omega)).trans (hx2 b hb))
  repeat (first | refine st_ltT rfl rfl rfl rfl rfl rfl (by omega) ?_ | refine st_ltF rfl rfl rfl rfl rfl rfl (by omega) ?_ | refine st_add rfl rfl rfl rfl rfl rfl (by omega) ?_ | refine st_I rfl rfl rfl rfl rfl ?_ | refine st_B rfl rfl rfl rfl rfl ?_ | refine st_S rfl rfl rfl rfl rfl ?_ | refine st_A rfl rfl rfl rfl rfl ?_ | refine st_U rfl rfl rfl rfl rfl ?_)
  simp only [NV, reduceIte, Nat.reduceEqDiff, reduceCtorEq, Nat.one_ne_zero, Nat.zero_ne_one]
  cases ok with
  | false =>
    repeat (first | refine st_ltT rfl rfl rfl rfl rfl rfl (by omega) ?_ | refine st_ltF rfl rfl rfl rfl rfl rfl (by omega) ?_ | refine st_add rfl rfl rfl rfl rfl rfl (by omega) ?_ | refine st_I rfl rfl rfl rfl rfl ?_ | refine st_B rfl rfl rfl rfl rfl ?_ | refine st_S rfl rfl rfl rfl rfl ?_ | refine st_A rfl rfl rfl rfl rfl ?_ | refine st_U rfl rfl rfl rfl rfl ?_)
    simp only [NV, reduceIte, Nat.reduceEqDiff, reduceCtorEq, Nat.one_ne_zero, Nat.zero_ne_one]
    rw [EC_cond_true rfl]
    simp only [NV, reduceIte, Nat.reduceEqDiff, reduceCtorEq, Nat.one_ne_zero, Nat.zero_ne_one]
    repeat (first | refine st_ltT rfl rfl rfl rfl rfl rfl (by omega) ?_ | refine st_ltF rfl rfl rfl rfl rfl rfl (by omega) ?_ | refine st_add rfl rfl rfl rfl rfl rfl (by omega) ?_ | refine st_I rfl rfl rfl rfl rfl ?_ | refine st_B rfl rfl rfl rfl rfl ?_ | refine st_S rfl rfl rfl rfl rfl ?_ | refine st_A rfl rfl rfl rfl rfl ?_ | refine st_U rfl rfl rfl rfl rfl ?_)
    simp only [NV, reduceIte, Nat.reduceEqDiff, reduceCtorEq, Nat.one_ne_zero, Nat.zero_ne_one]
    exact retH [.slice none 0 0, .bool false] rfl rfl rfl ⟨rfl, by show n ≤ n3 + 1; omega, hx14, _, _, _, _, rfl, fun h => absurd h (by simp), fun h => hok2 (h s hmem)⟩
  | true =>
  repeat (first | refine st_ltT rfl rfl rfl rfl rfl rfl (by omega) ?_ | refine st_ltF rfl rfl rfl rfl rfl rfl (by omega) ?_ | refine st_add rfl rfl rfl rfl rfl rfl (by omega) ?_ | refine st_I rfl rfl rfl rfl rfl ?_ | refine st_B rfl rfl rfl rfl rfl ?_ | refine st_S rfl rfl rfl rfl rfl ?_ | refine st_A rfl rfl rfl rfl rfl ?_ | refine st_U rfl rfl rfl rfl rfl ?_)
  simp only [NV, reduceIte, Nat.reduceEqDiff, reduceCtorEq, Nat.one_ne_zero, Nat.zero_ne_one]
  rw [EC_cond_false rfl]
  simp only [NV, reduceIte, Nat.reduceEqDiff, reduceCtorEq, Nat.one_ne_zero, Nat.zero_ne_one]
  repeat (first | refine st_ltT rfl rfl rfl rfl rfl rfl (by omega) ?_ | refine st_ltF rfl rfl rfl rfl rfl rfl (by omega) ?_ | refine st_add rfl rfl rfl rfl rfl rfl (by omega) ?_ | refine st_I rfl rfl rfl rfl rfl ?_ | refine st_B rfl rfl rfl rfl rfl ?_ | refine st_S rfl rfl rfl rfl rfl ?_ | refine st_A rfl rfl rfl rfl rfl ?_ | refine st_U rfl rfl rfl rfl rfl ?_)
  refine st_load (v := .agg #[u1, u2, v1, v2]) rfl rfl rfl rfl rfl (loadn_eq rfl rfl hp6 rfl (Nat.le_of_ble_eq_true rfl) rfl) ?_
  refine st_idx rfl rfl rfl rfl rfl rfl rfl rfl (by omega) ?_
  refine st_storeN (cs := [u1, u2, v1, v2]) rfl rfl rfl rfl rfl rfl rfl rq.ones hr4 (by rw [hcs]; omega) (by show 3 * n ≤ _; omega) ?_
  simp only [NV, reduceIte, Nat.reduceEqDiff, reduceCtorEq, Nat.one_ne_zero, Nat.zero_ne_one]
  repeat (first | refine st_ltT rfl rfl rfl rfl rfl rfl (by omega) ?_ | refine st_ltF rfl rfl rfl rfl rfl rfl (by omega) ?_ | refine st_add rfl rfl rfl rfl rfl rfl (by omega) ?_ | refine st_I rfl rfl rfl rfl rfl ?_ | refine st_B rfl rfl rfl rfl rfl ?_ | refine st_S rfl rfl rfl rfl rfl ?_ | refine st_A rfl rfl rfl rfl rfl ?_ | refine st_U rfl rfl rfl rfl rfl ?_)
  simp only [NV, reduceIte, Nat.reduceEqDiff, reduceCtorEq, Nat.one_ne_zero, Nat.zero_ne_one]
  refine goOn (z + 1) (by show S.length - (z + 1) < S.length - z; omega) ⟨rfl, rfl, by show Value.int .i64 _ = Value.int .i64 _; congr 1, trivial⟩ ⟨rfl, by show n + 1 ≤ n3 + 1; omega, fun b hb => (upd_ne (by omega)).trans (hx14 b hb), ⟨_, _, upd_same _ _ _, ?_⟩, by show z + 1 ≤ S.length; omega, ?_⟩
  · unfold spliceAt
    simp only [List.length_append, List.length_take, List.length_drop, hcs, List.length_cons, List.length_nil]
    omega
  · intro s' hs'
    rw [List.take_succ_eq_append_getElem (by omega)] at hs'
    rcases List.mem_append.1 hs' with h' | h'
    · exact hall s' h'
    · rw [List.mem_singleton.1 h']
      obtain ⟨p1, p2⟩ := List.getElem?_eq_some_iff.1 hsz
      rw [p2]
      exact ⟨q, hok1 rfl⟩
theorem numbersR_ok (k : Nat) {h : HF} {n : Nat} {a : Option Addr} {len cap : Nat} {S : List (List UInt8)} (hs : Sl h n 1 (.slice a len cap) (strs S)) (hl : ∀ s ∈ S, s.length < 1000000) (hb : S.length < 1000000) : VF (cal (k + 8)) 65 [.slice a len cap] h n fun v => ∃ b : Bool, v = .bool b ∧ (b = true ↔ ∀ s ∈ S, isNum s) := by
  refine CF_flat (fn := Tryz.f65) rfl rfl rfl rfl ?_
  simp only [NV, reduceIte, Nat.reduceEqDiff, reduceCtorEq, Nat.one_ne_zero, Nat.zero_ne_one]
  repeat (first | refine st_B rfl rfl rfl rfl rfl ?_ | refine st_S rfl rfl rfl rfl rfl ?_ | refine st_U rfl rfl rfl rfl rfl ?_)
  simp only [NV, reduceIte, Nat.reduceEqDiff, reduceCtorEq, Nat.one_ne_zero, Nat.zero_ne_one]
  repeat (first | refine st_B rfl rfl rfl rfl rfl ?_ | refine st_S rfl rfl rfl rfl rfl ?_ | refine st_U rfl rfl rfl rfl rfl ?_)
  refine st_call _ rfl rfl rfl rfl rfl (nums_ok k hs hl hb) ?_
  rintro _ h1 n1 _ ⟨rfl, hn1, hx1, a', l', c', ok, rfl, hok⟩
  repeat (first | refine st_B rfl rfl rfl rfl rfl ?_ | refine st_S rfl rfl rfl rfl rfl ?_ | refine st_U rfl rfl rfl rfl rfl ?_)
  simp only [NV, reduceIte, Nat.reduceEqDiff, reduceCtorEq, Nat.one_ne_zero, Nat.zero_ne_one]
  repeat (first | refine st_B rfl rfl rfl rfl rfl ?_ | refine st_S rfl rfl rfl rfl rfl ?_ | refine st_U rfl rfl rfl rfl rfl ?_)
  simp only [NV, reduceIte, Nat.reduceEqDiff, reduceCtorEq, Nat.one_ne_zero, Nat.zero_ne_one]
  exact retF _ rfl (resF_tmp rfl) rfl rfl ⟨ok, rfl, hok⟩
end Go.Proofs.YtokfihhdllmbmaaGreatDoor
namespace Go.Proofs.YtokfihhdllmbmaaGreatDoor
open Go Go.GL
theorem ratT_zero {q : Rat} : ratT q = [48] ↔ q.num = 0 := by
  constructor
  · intro h
    obtain ⟨h1, h2⟩ := ratT_minus q
    rw [h] at h1 h2
    have hb : bodyOf [48] = [48] := rfl
    rw [hb] at h2
    obtain ⟨g1, g2, g3⟩ := decT_all q.num.natAbs
    cases hd : decT q.num.natAbs with
    | nil => exact absurd hd g3
    | cons b r =>
      rw [hd] at h2 g2
      simp only [List.cons_append, List.cons.injEq] at h2
      have hr : r = [] := (List.append_eq_nil_iff.1 h2.2.symm).1
      rw [← h2.1, hr] at g2
      have : dval [48] = 0 := rfl
      omega
  · intro h
    have hq : q = 0 := Rat.num_eq_zero.1 h
    subst hq
    rfl
def Fits (B : List Int) (e : Ent) : Prop := (0 ≤ e.b ∧ e.b < B.length) ∧ (0 ≤ e.r ∧ e.r ≤ e.c) ∧ ∀ d, B[e.b.toNat]? = some d → e.c < d
def EntV (B : List Int) (E : List Ent) (j : Nat) (e : Ent) : Prop := Fits B e ∧ (∀ f, 0 < j → E[j - 1]? = some f → ltE f e) ∧ isNum e.v ∧ e.v ≠ [48]
def ListV (B : List Int) (E : List Ent) : Prop := ∀ j e, E[j]? = some e → EntV B E j e
set_option maxHeartbeats 2000000
theorem less_ok (k : Nat) (h : HF) (n : Nat) (e f : Ent) : VF (cal (k + 1)) 133 [.agg (entC e).toArray, .agg (entC f).toArray] h n fun v => ∃ b : Bool, v = .bool b ∧ (b = true ↔ ltE e f) := by
  refine CF_flat (fn := Tryz.f133) rfl rfl rfl rfl ?_
  simp only [NV, reduceIte, Nat.reduceEqDiff, reduceCtorEq, Nat.one_ne_zero, Nat.zero_ne_one]
  refine st_mkp (cs := entC e) rfl rfl rfl rfl rfl ?_
  refine st_mkp (cs := entC f) rfl rfl rfl rfl rfl ?_
  generalize hh : upd (upd h (3 * n + 2) _) (3 * (n + 1) + 2) _ = h1
  have he : ∃ ty, h1 (3 * n + 2) = some (.row (entC e) ty) := ⟨_, by rw [← hh, upd_ne (by omega), upd_same]⟩
  have hf : ∃ ty, h1 (3 * (n + 1) + 2) = some (.row (entC f) ty) := ⟨_, by rw [← hh, upd_same]⟩
  obtain ⟨t1, he⟩ := he
  obtain ⟨t2, hf⟩ := hf
  repeat (first | refine st_ltT rfl rfl rfl rfl rfl rfl (by omega) ?_ | refine st_ltF rfl rfl rfl rfl rfl rfl (by omega) ?_ | refine st_eqT rfl rfl rfl rfl rfl rfl (by omega) ?_ | refine st_eqF rfl rfl rfl rfl rfl rfl (by omega) ?_ | refine st_neqT rfl rfl rfl rfl rfl rfl (by omega) ?_ | refine st_neqF rfl rfl rfl rfl rfl rfl (by omega) ?_ | refine st_B rfl rfl rfl rfl rfl ?_ | refine st_P rfl rfl rfl rfl rfl ?_ | refine st_off rfl rfl rfl ?_)
  simp only [NV, reduceIte, Nat.reduceEqDiff, reduceCtorEq, Nat.one_ne_zero, Nat.zero_ne_one]
  by_cases hb : e.b = f.b
  · repeat (first | refine st_load1 rfl rfl rfl rfl rfl rfl he rfl rfl ?_ | refine st_load1 rfl rfl rfl rfl rfl rfl hf rfl rfl ?_ | refine st_ltT rfl rfl rfl rfl rfl rfl (by omega) ?_ | refine st_ltF rfl rfl rfl rfl rfl rfl (by omega) ?_ | refine st_eqT rfl rfl rfl rfl rfl rfl (by omega) ?_ | refine st_eqF rfl rfl rfl rfl rfl rfl (by omega) ?_ | refine st_neqT rfl rfl rfl rfl rfl rfl (by omega) ?_ | refine st_neqF rfl rfl rfl rfl rfl rfl (by omega) ?_ | refine st_B rfl rfl rfl rfl rfl ?_ | refine st_P rfl rfl rfl rfl rfl ?_ | refine st_off rfl rfl rfl ?_)
    simp only [NV, reduceIte, Nat.reduceEqDiff, reduceCtorEq, Nat.one_ne_zero, Nat.zero_ne_one]
    rw [EC_cond_false rfl]
    simp only [NV, reduceIte, Nat.reduceEqDiff, reduceCtorEq, Nat.one_ne_zero, Nat.zero_ne_one]
    by_cases hr : e.r < f.r
    · repeat (first | refine st_load1 rfl rfl rfl rfl rfl rfl he rfl rfl ?_ | refine st_load1 rfl rfl rfl rfl rfl rfl hf rfl rfl ?_ | refine st_ltT rfl rfl rfl rfl rfl rfl (by omega) ?_ | refine st_ltF rfl rfl rfl rfl rfl rfl (by omega) ?_ | refine st_eqT rfl rfl rfl rfl rfl rfl (by omega) ?_ | refine st_eqF rfl rfl rfl rfl rfl rfl (by omega) ?_ | refine st_neqT rfl rfl rfl rfl rfl rfl (by omega) ?_ | refine st_neqF rfl rfl rfl rfl rfl rfl (by omega) ?_ | refine st_B rfl rfl rfl rfl rfl ?_ | refine st_P rfl rfl rfl rfl rfl ?_ | refine st_off rfl rfl rfl ?_)
      simp only [NV, reduceIte, Nat.reduceEqDiff, reduceCtorEq, Nat.one_ne_zero, Nat.zero_ne_one]
      exact retF _ rfl (resF_tmp rfl) rfl rfl ⟨_, rfl, by unfold ltE ltP; simp; omega⟩
    · by_cases hr2 : e.r = f.r
      · by_cases hc : e.c < f.c
        · repeat (first | refine st_load1 rfl rfl rfl rfl rfl rfl he rfl rfl ?_ | refine st_load1 rfl rfl rfl rfl rfl rfl hf rfl rfl ?_ | refine st_ltT rfl rfl rfl rfl rfl rfl (by omega) ?_ | refine st_ltF rfl rfl rfl rfl rfl rfl (by omega) ?_ | refine st_eqT rfl rfl rfl rfl rfl rfl (by omega) ?_ | refine st_eqF rfl rfl rfl rfl rfl rfl (by omega) ?_ | refine st_neqT rfl rfl rfl rfl rfl rfl (by omega) ?_ | refine st_neqF rfl rfl rfl rfl rfl rfl (by omega) ?_ | refine st_B rfl rfl rfl rfl rfl ?_ | refine st_P rfl rfl rfl rfl rfl ?_ | refine st_off rfl rfl rfl ?_)
          simp only [NV, reduceIte, Nat.reduceEqDiff, reduceCtorEq, Nat.one_ne_zero, Nat.zero_ne_one]
          exact retF _ rfl (resF_tmp rfl) rfl rfl ⟨_, rfl, by unfold ltE ltP; simp; omega⟩
        · repeat (first | refine st_load1 rfl rfl rfl rfl rfl rfl he rfl rfl ?_ | refine st_load1 rfl rfl rfl rfl rfl rfl hf rfl rfl ?_ | refine st_ltT rfl rfl rfl rfl rfl rfl (by omega) ?_ | refine st_ltF rfl rfl rfl rfl rfl rfl (by omega) ?_ | refine st_eqT rfl rfl rfl rfl rfl rfl (by omega) ?_ | refine st_eqF rfl rfl rfl rfl rfl rfl (by omega) ?_ | refine st_neqT rfl rfl rfl rfl rfl rfl (by omega) ?_ | refine st_neqF rfl rfl rfl rfl rfl rfl (by omega) ?_ | refine st_B rfl rfl rfl rfl rfl ?_ | refine st_P rfl rfl rfl rfl rfl ?_ | refine st_off rfl rfl rfl ?_)
          simp only [NV, reduceIte, Nat.reduceEqDiff, reduceCtorEq, Nat.one_ne_zero, Nat.zero_ne_one]
          exact retF _ rfl (resF_tmp rfl) rfl rfl ⟨_, rfl, by unfold ltE ltP; simp; omega⟩
      · repeat (first | refine st_load1 rfl rfl rfl rfl rfl rfl he rfl rfl ?_ | refine st_load1 rfl rfl rfl rfl rfl rfl hf rfl rfl ?_ | refine st_ltT rfl rfl rfl rfl rfl rfl (by omega) ?_ | refine st_ltF rfl rfl rfl rfl rfl rfl (by omega) ?_ | refine st_eqT rfl rfl rfl rfl rfl rfl (by omega) ?_ | refine st_eqF rfl rfl rfl rfl rfl rfl (by omega) ?_ | refine st_neqT rfl rfl rfl rfl rfl rfl (by omega) ?_ | refine st_neqF rfl rfl rfl rfl rfl rfl (by omega) ?_ | refine st_B rfl rfl rfl rfl rfl ?_ | refine st_P rfl rfl rfl rfl rfl ?_ | refine st_off rfl rfl rfl ?_)
        simp only [NV, reduceIte, Nat.reduceEqDiff, reduceCtorEq, Nat.one_ne_zero, Nat.zero_ne_one]
        exact retF _ rfl (resF_tmp rfl) rfl rfl ⟨_, rfl, by unfold ltE ltP; simp; omega⟩
  · repeat (first | refine st_load1 rfl rfl rfl rfl rfl rfl he rfl rfl ?_ | refine st_load1 rfl rfl rfl rfl rfl rfl hf rfl rfl ?_ | refine st_ltT rfl rfl rfl rfl rfl rfl (by omega) ?_ | refine st_ltF rfl rfl rfl rfl rfl rfl (by omega) ?_ | refine st_eqT rfl rfl rfl rfl rfl rfl (by omega) ?_ | refine st_eqF rfl rfl rfl rfl rfl rfl (by omega) ?_ | refine st_neqT rfl rfl rfl rfl rfl rfl (by omega) ?_ | refine st_neqF rfl rfl rfl rfl rfl rfl (by omega) ?_ | refine st_B rfl rfl rfl rfl rfl ?_ | refine st_P rfl rfl rfl rfl rfl ?_ | refine st_off rfl rfl rfl ?_)
    simp only [NV, reduceIte, Nat.reduceEqDiff, reduceCtorEq, Nat.one_ne_zero, Nat.zero_ne_one]
    rw [EC_cond_true rfl]
    simp only [NV, reduceIte, Nat.reduceEqDiff, reduceCtorEq, Nat.one_ne_zero, Nat.zero_ne_one]
    by_cases hlt : e.b < f.b
    · repeat (first | refine st_load1 rfl rfl rfl rfl rfl rfl he rfl rfl ?_ | refine st_load1 rfl rfl rfl rfl rfl rfl hf rfl rfl ?_ | refine st_ltT rfl rfl rfl rfl rfl rfl (by omega) ?_ | refine st_ltF rfl rfl rfl rfl rfl rfl (by omega) ?_ | refine st_eqT rfl rfl rfl rfl rfl rfl (by omega) ?_ | refine st_eqF rfl rfl rfl rfl rfl rfl (by omega) ?_ | refine st_neqT rfl rfl rfl rfl rfl rfl (by omega) ?_ | refine st_neqF rfl rfl rfl rfl rfl rfl (by omega) ?_ | refine st_B rfl rfl rfl rfl rfl ?_ | refine st_P rfl rfl rfl rfl rfl ?_ | refine st_off rfl rfl rfl ?_)
      simp only [NV, reduceIte, Nat.reduceEqDiff, reduceCtorEq, Nat.one_ne_zero, Nat.zero_ne_one]
      exact retF _ rfl (resF_tmp rfl) rfl rfl ⟨_, rfl, by unfold ltE ltP; simp; omega⟩
    · repeat (first | refine st_load1 rfl rfl rfl rfl rfl rfl he rfl rfl ?_ | refine st_load1 rfl rfl rfl rfl rfl rfl hf rfl rfl ?_ | refine st_ltT rfl rfl rfl rfl rfl rfl (by omega) ?_ | refine st_ltF rfl rfl rfl rfl rfl rfl (by omega) ?_ | refine st_eqT rfl rfl rfl rfl rfl rfl (by omega) ?_ | refine st_eqF rfl rfl rfl rfl rfl rfl (by omega) ?_ | refine st_neqT rfl rfl rfl rfl rfl rfl (by omega) ?_ | refine st_neqF rfl rfl rfl rfl rfl rfl (by omega) ?_ | refine st_B rfl rfl rfl rfl rfl ?_ | refine st_P rfl rfl rfl rfl rfl ?_ | refine st_off rfl rfl rfl ?_)
      simp only [NV, reduceIte, Nat.reduceEqDiff, reduceCtorEq, Nat.one_ne_zero, Nat.zero_ne_one]
      exact retF _ rfl (resF_tmp rfl) rfl rfl ⟨_, rfl, by unfold ltE ltP; simp; omega⟩
end Go.Proofs.YtokfihhdllmbmaaGreatDoor
namespace Go.Proofs.YtokfihhdllmbmaaGreatDoor
open Go Go.GL
theorem ratT_int (x : Int) : ratT (x : Rat) = (if x < 0 then [45] else []) ++ decT x.natAbs := by
  unfold ratT
  rw [Rat.num_intCast, Rat.den_intCast, if_pos rfl, List.append_nil]
theorem decT_digit {d : Nat} (h : 0 < d ∧ d < 10) : decT d = [UInt8.ofNat (48 + d)] := by
  unfold decT decB
  rw [if_neg (by omega), decD_pos (by omega), Nat.div_eq_of_lt h.2, decD_zero, Nat.mod_eq_of_lt h.2]
  rfl
theorem small_is {s : List UInt8} {K : Int} (hK : K ≤ 4) (h : SmallS K s) : GK.isSmall s = true := by
  obtain ⟨x, h1, h2, rfl⟩ := h
  rw [ratT_int]
  have hx : x = -4 ∨ x = -3 ∨ x = -2 ∨ x = -1 ∨ x = 0 ∨ x = 1 ∨ x = 2 ∨ x = 3 ∨ x = 4 := by omega
  rcases hx with rfl | rfl | rfl | rfl | rfl | rfl | rfl | rfl | rfl <;> first
    | (rw [show decT (Int.natAbs 0) = [48] from rfl]; rfl)
    | (rw [show Int.natAbs (-4) = 4 from rfl, decT_digit (by omega)]; decide)
    | (rw [show Int.natAbs (-3) = 3 from rfl, decT_digit (by omega)]; decide)
    | (rw [show Int.natAbs (-2) = 2 from rfl, decT_digit (by omega)]; decide)
    | (rw [show Int.natAbs (-1) = 1 from rfl, decT_digit (by omega)]; decide)
    | (rw [show Int.natAbs 1 = 1 from rfl, decT_digit (by omega)]; decide)
    | (rw [show Int.natAbs 2 = 2 from rfl, decT_digit (by omega)]; decide)
    | (rw [show Int.natAbs 3 = 3 from rfl, decT_digit (by omega)]; decide)
    | (rw [show Int.natAbs 4 = 4 from rfl, decT_digit (by omega)]; decide)
theorem zero_text {x : Int} (h1 : -4 ≤ x ∧ x ≤ 4) (h0 : x ≠ 0) : ratT (x : Rat) ≠ [48] := by
  rw [ratT_int]
  have hx : x = -4 ∨ x = -3 ∨ x = -2 ∨ x = -1 ∨ x = 1 ∨ x = 2 ∨ x = 3 ∨ x = 4 := by omega
  rcases hx with rfl | rfl | rfl | rfl | rfl | rfl | rfl | rfl <;> first
    | (rw [show Int.natAbs (-4) = 4 from rfl, decT_digit (by omega)]; decide)
    | (rw [show Int.natAbs (-3) = 3 from rfl, decT_digit (by omega)]; decide)
    | (rw [show Int.natAbs (-2) = 2 from rfl, decT_digit (by omega)]; decide)
    | (rw [show Int.natAbs (-1) = 1 from rfl, decT_digit (by omega)]; decide)
    | (rw [show Int.natAbs 1 = 1 from rfl, decT_digit (by omega)]; decide)
    | (rw [show Int.natAbs 2 = 2 from rfl, decT_digit (by omega)]; decide)
    | (rw [show Int.natAbs 3 = 3 from rfl, decT_digit (by omega)]; decide)
    | (rw [show Int.natAbs 4 = 4 from rfl, decT_digit (by omega)]; decide)
theorem rvalid_small (k : Nat) {h : HF} (hG : GK.G h) (n : Nat) {s : List UInt8} (hs : GK.isSmall s = true) : VF (cal (k + 1)) 63 [.string ⟨⟨s⟩⟩] h n fun v => v = .bool true :=
  ⟨_, _, _, _, cal_small k hG n hs, rfl, rfl, rfl, rfl⟩
theorem G_ext {h h' : HF} {n : Nat} (hG : GK.G h) (e : Ext n h h') (hn : 20 ≤ n) : GK.G h' := by
  obtain ⟨g1, g2, g3⟩ := hG
  exact ⟨(e _ (by omega)).trans g1, (e _ (by omega)).trans g2, (e _ (by omega)).trans g3⟩
set_option maxHeartbeats 2000000
theorem ascending_ok (k : Nat) (h : HF) (n : Nat) (e f : Ent) : VF (cal (k + 1)) 127 [.agg (entC e).toArray, .agg (entC f).toArray] h n fun v => ∃ b : Bool, v = .bool b ∧ (b = true ↔ ltE e f) := by
  refine CF_flat (fn := Tryz.f127) rfl rfl rfl rfl ?_
  simp only [NV, reduceIte, Nat.reduceEqDiff, reduceCtorEq, Nat.one_ne_zero, Nat.zero_ne_one]
  refine st_mkp (cs := entC e) rfl rfl rfl rfl rfl ?_
  refine st_mkp (cs := entC f) rfl rfl rfl rfl rfl ?_
  generalize hh : upd (upd h (3 * n + 2) _) (3 * (n + 1) + 2) _ = h1
  have he : ∃ ty, h1 (3 * n + 2) = some (.row (entC e) ty) := ⟨_, by rw [← hh, upd_ne (by omega), upd_same]⟩
  have hf : ∃ ty, h1 (3 * (n + 1) + 2) = some (.row (entC f) ty) := ⟨_, by rw [← hh, upd_same]⟩
  obtain ⟨t1, he⟩ := he
  obtain ⟨t2, hf⟩ := hf
  repeat (first | refine st_neqT rfl rfl rfl rfl rfl rfl (by omega) ?_ | refine st_neqF rfl rfl rfl rfl rfl rfl (by omega) ?_ | refine st_lt rfl rfl rfl rfl rfl rfl ?_ | refine st_B rfl rfl rfl rfl rfl ?_ | refine st_P rfl rfl rfl rfl rfl ?_)
  simp only [NV, reduceIte, Nat.reduceEqDiff, reduceCtorEq, Nat.one_ne_zero, Nat.zero_ne_one]
  repeat (first | refine st_neqT rfl rfl rfl rfl rfl rfl (by omega) ?_ | refine st_neqF rfl rfl rfl rfl rfl rfl (by omega) ?_ | refine st_lt rfl rfl rfl rfl rfl rfl ?_ | refine st_B rfl rfl rfl rfl rfl ?_ | refine st_P rfl rfl rfl rfl rfl ?_)
  refine st_load1 rfl rfl rfl rfl rfl rfl he rfl (v := .int .i64 e.b) rfl ?_
  repeat (first | refine st_neqT rfl rfl rfl rfl rfl rfl (by omega) ?_ | refine st_neqF rfl rfl rfl rfl rfl rfl (by omega) ?_ | refine st_lt rfl rfl rfl rfl rfl rfl ?_ | refine st_B rfl rfl rfl rfl rfl ?_ | refine st_P rfl rfl rfl rfl rfl ?_)
  refine st_load1 rfl rfl rfl rfl rfl rfl hf rfl (v := .int .i64 f.b) rfl ?_
  by_cases hb : e.b = f.b
  · repeat (first | refine st_neqT rfl rfl rfl rfl rfl rfl (by omega) ?_ | refine st_neqF rfl rfl rfl rfl rfl rfl (by omega) ?_ | refine st_lt rfl rfl rfl rfl rfl rfl ?_ | refine st_B rfl rfl rfl rfl rfl ?_ | refine st_P rfl rfl rfl rfl rfl ?_)
    simp only [NV, reduceIte, Nat.reduceEqDiff, reduceCtorEq, Nat.one_ne_zero, Nat.zero_ne_one]
    rw [EC_cond_false rfl]
    simp only [NV, reduceIte, Nat.reduceEqDiff, reduceCtorEq, Nat.one_ne_zero, Nat.zero_ne_one]
    repeat (first | refine st_neqT rfl rfl rfl rfl rfl rfl (by omega) ?_ | refine st_neqF rfl rfl rfl rfl rfl rfl (by omega) ?_ | refine st_lt rfl rfl rfl rfl rfl rfl ?_ | refine st_B rfl rfl rfl rfl rfl ?_ | refine st_P rfl rfl rfl rfl rfl ?_)
    refine st_load1 rfl rfl rfl rfl rfl rfl he rfl (v := .int .i64 e.r) rfl ?_
    repeat (first | refine st_neqT rfl rfl rfl rfl rfl rfl (by omega) ?_ | refine st_neqF rfl rfl rfl rfl rfl rfl (by omega) ?_ | refine st_lt rfl rfl rfl rfl rfl rfl ?_ | refine st_B rfl rfl rfl rfl rfl ?_ | refine st_P rfl rfl rfl rfl rfl ?_)
    refine st_load1 rfl rfl rfl rfl rfl rfl hf rfl (v := .int .i64 f.r) rfl ?_
    by_cases hr : e.r = f.r
    · repeat (first | refine st_neqT rfl rfl rfl rfl rfl rfl (by omega) ?_ | refine st_neqF rfl rfl rfl rfl rfl rfl (by omega) ?_ | refine st_lt rfl rfl rfl rfl rfl rfl ?_ | refine st_B rfl rfl rfl rfl rfl ?_ | refine st_P rfl rfl rfl rfl rfl ?_)
      simp only [NV, reduceIte, Nat.reduceEqDiff, reduceCtorEq, Nat.one_ne_zero, Nat.zero_ne_one]
      rw [EC_cond_false rfl]
      simp only [NV, reduceIte, Nat.reduceEqDiff, reduceCtorEq, Nat.one_ne_zero, Nat.zero_ne_one]
      repeat (first | refine st_neqT rfl rfl rfl rfl rfl rfl (by omega) ?_ | refine st_neqF rfl rfl rfl rfl rfl rfl (by omega) ?_ | refine st_lt rfl rfl rfl rfl rfl rfl ?_ | refine st_B rfl rfl rfl rfl rfl ?_ | refine st_P rfl rfl rfl rfl rfl ?_)
      refine st_load1 rfl rfl rfl rfl rfl rfl he rfl (v := .int .i64 e.c) rfl ?_
      repeat (first | refine st_neqT rfl rfl rfl rfl rfl rfl (by omega) ?_ | refine st_neqF rfl rfl rfl rfl rfl rfl (by omega) ?_ | refine st_lt rfl rfl rfl rfl rfl rfl ?_ | refine st_B rfl rfl rfl rfl rfl ?_ | refine st_P rfl rfl rfl rfl rfl ?_)
      refine st_load1 rfl rfl rfl rfl rfl rfl hf rfl (v := .int .i64 f.c) rfl ?_
      refine st_lt rfl rfl rfl rfl rfl rfl ?_
      repeat (first | refine st_neqT rfl rfl rfl rfl rfl rfl (by omega) ?_ | refine st_neqF rfl rfl rfl rfl rfl rfl (by omega) ?_ | refine st_lt rfl rfl rfl rfl rfl rfl ?_ | refine st_B rfl rfl rfl rfl rfl ?_ | refine st_P rfl rfl rfl rfl rfl ?_)
      simp only [NV, reduceIte, Nat.reduceEqDiff, reduceCtorEq, Nat.one_ne_zero, Nat.zero_ne_one]
      exact retF _ rfl (resF_tmp rfl) rfl rfl ⟨_, rfl, by rw [decide_eq_true_eq]; unfold ltE ltP; omega⟩
    · repeat (first | refine st_neqT rfl rfl rfl rfl rfl rfl (by omega) ?_ | refine st_neqF rfl rfl rfl rfl rfl rfl (by omega) ?_ | refine st_lt rfl rfl rfl rfl rfl rfl ?_ | refine st_B rfl rfl rfl rfl rfl ?_ | refine st_P rfl rfl rfl rfl rfl ?_)
      simp only [NV, reduceIte, Nat.reduceEqDiff, reduceCtorEq, Nat.one_ne_zero, Nat.zero_ne_one]
      rw [EC_cond_true rfl]
      simp only [NV, reduceIte, Nat.reduceEqDiff, reduceCtorEq, Nat.one_ne_zero, Nat.zero_ne_one]
      repeat (first | refine st_neqT rfl rfl rfl rfl rfl rfl (by omega) ?_ | refine st_neqF rfl rfl rfl rfl rfl rfl (by omega) ?_ | refine st_lt rfl rfl rfl rfl rfl rfl ?_ | refine st_B rfl rfl rfl rfl rfl ?_ | refine st_P rfl rfl rfl rfl rfl ?_)
      refine st_load1 rfl rfl rfl rfl rfl rfl he rfl (v := .int .i64 e.r) rfl ?_
      repeat (first | refine st_neqT rfl rfl rfl rfl rfl rfl (by omega) ?_ | refine st_neqF rfl rfl rfl rfl rfl rfl (by omega) ?_ | refine st_lt rfl rfl rfl rfl rfl rfl ?_ | refine st_B rfl rfl rfl rfl rfl ?_ | refine st_P rfl rfl rfl rfl rfl ?_)
      refine st_load1 rfl rfl rfl rfl rfl rfl hf rfl (v := .int .i64 f.r) rfl ?_
      refine st_lt rfl rfl rfl rfl rfl rfl ?_
      repeat (first | refine st_neqT rfl rfl rfl rfl rfl rfl (by omega) ?_ | refine st_neqF rfl rfl rfl rfl rfl rfl (by omega) ?_ | refine st_lt rfl rfl rfl rfl rfl rfl ?_ | refine st_B rfl rfl rfl rfl rfl ?_ | refine st_P rfl rfl rfl rfl rfl ?_)
      simp only [NV, reduceIte, Nat.reduceEqDiff, reduceCtorEq, Nat.one_ne_zero, Nat.zero_ne_one]
      exact retF _ rfl (resF_tmp rfl) rfl rfl ⟨_, rfl, by rw [decide_eq_true_eq]; unfold ltE ltP; omega⟩
  · repeat (first | refine st_neqT rfl rfl rfl rfl rfl rfl (by omega) ?_ | refine st_neqF rfl rfl rfl rfl rfl rfl (by omega) ?_ | refine st_lt rfl rfl rfl rfl rfl rfl ?_ | refine st_B rfl rfl rfl rfl rfl ?_ | refine st_P rfl rfl rfl rfl rfl ?_)
    simp only [NV, reduceIte, Nat.reduceEqDiff, reduceCtorEq, Nat.one_ne_zero, Nat.zero_ne_one]
    rw [EC_cond_true rfl]
    simp only [NV, reduceIte, Nat.reduceEqDiff, reduceCtorEq, Nat.one_ne_zero, Nat.zero_ne_one]
    repeat (first | refine st_neqT rfl rfl rfl rfl rfl rfl (by omega) ?_ | refine st_neqF rfl rfl rfl rfl rfl rfl (by omega) ?_ | refine st_lt rfl rfl rfl rfl rfl rfl ?_ | refine st_B rfl rfl rfl rfl rfl ?_ | refine st_P rfl rfl rfl rfl rfl ?_)
    refine st_load1 rfl rfl rfl rfl rfl rfl he rfl (v := .int .i64 e.b) rfl ?_
    repeat (first | refine st_neqT rfl rfl rfl rfl rfl rfl (by omega) ?_ | refine st_neqF rfl rfl rfl rfl rfl rfl (by omega) ?_ | refine st_lt rfl rfl rfl rfl rfl rfl ?_ | refine st_B rfl rfl rfl rfl rfl ?_ | refine st_P rfl rfl rfl rfl rfl ?_)
    refine st_load1 rfl rfl rfl rfl rfl rfl hf rfl (v := .int .i64 f.b) rfl ?_
    refine st_lt rfl rfl rfl rfl rfl rfl ?_
    repeat (first | refine st_neqT rfl rfl rfl rfl rfl rfl (by omega) ?_ | refine st_neqF rfl rfl rfl rfl rfl rfl (by omega) ?_ | refine st_lt rfl rfl rfl rfl rfl rfl ?_ | refine st_B rfl rfl rfl rfl rfl ?_ | refine st_P rfl rfl rfl rfl rfl ?_)
    simp only [NV, reduceIte, Nat.reduceEqDiff, reduceCtorEq, Nat.one_ne_zero, Nat.zero_ne_one]
    exact retF _ rfl (resF_tmp rfl) rfl rfl ⟨_, rfl, by rw [decide_eq_true_eq]; unfold ltE ltP; omega⟩
theorem numbers_ok (k : Nat) {h : HF} (hG : GK.G h) {n : Nat} {a : Option Addr} {len cap : Nat} {S : List (List UInt8)} (hn : 20 ≤ n) (hs : Sl h n 1 (.slice a len cap) (strs S)) (hS : ∀ s ∈ S, GK.isSmall s = true) (hb : S.length < 1000000) : VF (cal (k + 2)) 62 [.slice a len cap] h n fun v => v = .bool true := by
  refine CF_flat (fn := Tryz.f62) rfl rfl rfl rfl ?_
  have hl : len = S.length := by
    obtain ⟨a', len', cap', e, hl⟩ := hs.len
    injection e with e1 e2 e3
    rw [strs_len] at hl
    omega
  subst hl
  simp only [NV, reduceIte, Nat.reduceEqDiff, reduceCtorEq, Nat.one_ne_zero, Nat.zero_ne_one]
  repeat (first | refine st_ltT rfl rfl rfl rfl rfl rfl (by omega) ?_ | refine st_ltF rfl rfl rfl rfl rfl rfl (by omega) ?_ | refine st_add rfl rfl rfl rfl rfl rfl (by omega) ?_ | refine st_I rfl rfl rfl rfl rfl ?_ | refine st_B rfl rfl rfl rfl rfl ?_ | refine st_S rfl rfl rfl rfl rfl ?_ | refine st_T rfl rfl rfl rfl rfl ?_)
  simp only [NV, reduceIte, Nat.reduceEqDiff, reduceCtorEq, Nat.one_ne_zero, Nat.zero_ne_one]
  repeat (first | refine st_ltT rfl rfl rfl rfl rfl rfl (by omega) ?_ | refine st_ltF rfl rfl rfl rfl rfl rfl (by omega) ?_ | refine st_add rfl rfl rfl rfl rfl rfl (by omega) ?_ | refine st_I rfl rfl rfl rfl rfl ?_ | refine st_B rfl rfl rfl rfl rfl ?_ | refine st_S rfl rfl rfl rfl rfl ?_ | refine st_T rfl rfl rfl rfl rfl ?_)
  simp only [NV, reduceIte, Nat.reduceEqDiff, reduceCtorEq, Nat.one_ne_zero, Nat.zero_ne_one]
  refine EC_for (α := Nat) (fun j => [(5, .slice a S.length cap), (6, .int .i64 (S.length : Int)), (7, .int .i64 (j : Int))]) (fun j h' n' w => h = h' ∧ n = n' ∧ w = [] ∧ j ≤ S.length) (fun j => S.length - j) 0 ⟨rfl, rfl, rfl, trivial⟩ ⟨rfl, rfl, rfl, Nat.zero_le _⟩ (by show S.length - 0 < LL; unfold LL; omega) ?_
  rintro j t _ _ _ ⟨rfl, rfl, rfl, hj⟩
  simp only [NV, reduceIte, Nat.reduceEqDiff, reduceCtorEq, Nat.one_ne_zero, Nat.zero_ne_one]
  by_cases hjS : j = S.length
  · repeat (first | refine st_ltT rfl rfl rfl rfl rfl rfl (by omega) ?_ | refine st_ltF rfl rfl rfl rfl rfl rfl (by omega) ?_ | refine st_add rfl rfl rfl rfl rfl rfl (by omega) ?_ | refine st_I rfl rfl rfl rfl rfl ?_ | refine st_B rfl rfl rfl rfl rfl ?_ | refine st_S rfl rfl rfl rfl rfl ?_ | refine st_T rfl rfl rfl rfl rfl ?_)
    simp only [NV, reduceIte, Nat.reduceEqDiff, reduceCtorEq, Nat.one_ne_zero, Nat.zero_ne_one]
    rw [EC_cond_false rfl]
    simp only [NV, reduceIte, Nat.reduceEqDiff, reduceCtorEq, Nat.one_ne_zero, Nat.zero_ne_one]
    repeat (first | refine st_ltT rfl rfl rfl rfl rfl rfl (by omega) ?_ | refine st_ltF rfl rfl rfl rfl rfl rfl (by omega) ?_ | refine st_add rfl rfl rfl rfl rfl rfl (by omega) ?_ | refine st_I rfl rfl rfl rfl rfl ?_ | refine st_B rfl rfl rfl rfl rfl ?_ | refine st_S rfl rfl rfl rfl rfl ?_ | refine st_T rfl rfl rfl rfl rfl ?_)
    simp only [NV, reduceIte, Nat.reduceEqDiff, reduceCtorEq, Nat.one_ne_zero, Nat.zero_ne_one]
    exact retF _ rfl (resF_tmp rfl) rfl rfl rfl
  · obtain ⟨s, hs'⟩ : ∃ s, S[j]? = some s := ⟨S[j]'(by omega), List.getElem?_eq_getElem (by omega)⟩
    obtain ⟨b, off, x, cs, rfl, hb3, hx, hc, hcap, hle, he⟩ := hs.inv (by omega)
    have hcell : cs[off + j]? = some (.string ⟨⟨s⟩⟩) := cell_at he (by rw [strs, List.getElem?_map, hs']; rfl)
    repeat (first | refine st_ltT rfl rfl rfl rfl rfl rfl (by omega) ?_ | refine st_ltF rfl rfl rfl rfl rfl rfl (by omega) ?_ | refine st_add rfl rfl rfl rfl rfl rfl (by omega) ?_ | refine st_I rfl rfl rfl rfl rfl ?_ | refine st_B rfl rfl rfl rfl rfl ?_ | refine st_S rfl rfl rfl rfl rfl ?_ | refine st_T rfl rfl rfl rfl rfl ?_)
    simp only [NV, reduceIte, Nat.reduceEqDiff, reduceCtorEq, Nat.one_ne_zero, Nat.zero_ne_one]
    rw [EC_cond_true rfl]
    simp only [NV, reduceIte, Nat.reduceEqDiff, reduceCtorEq, Nat.one_ne_zero, Nat.zero_ne_one]
    refine st_idx rfl rfl rfl rfl rfl rfl rfl rfl (by omega) ?_
    refine st_load1 rfl rfl rfl rfl rfl rfl hx hc (v := .string ⟨⟨s⟩⟩) (by rw [← hcell]; congr 1; omega) ?_
    repeat (first | refine st_ltT rfl rfl rfl rfl rfl rfl (by omega) ?_ | refine st_ltF rfl rfl rfl rfl rfl rfl (by omega) ?_ | refine st_add rfl rfl rfl rfl rfl rfl (by omega) ?_ | refine st_I rfl rfl rfl rfl rfl ?_ | refine st_B rfl rfl rfl rfl rfl ?_ | refine st_S rfl rfl rfl rfl rfl ?_ | refine st_T rfl rfl rfl rfl rfl ?_)
    simp only [NV, reduceIte, Nat.reduceEqDiff, reduceCtorEq, Nat.one_ne_zero, Nat.zero_ne_one]
    repeat (first | refine st_ltT rfl rfl rfl rfl rfl rfl (by omega) ?_ | refine st_ltF rfl rfl rfl rfl rfl rfl (by omega) ?_ | refine st_add rfl rfl rfl rfl rfl rfl (by omega) ?_ | refine st_I rfl rfl rfl rfl rfl ?_ | refine st_B rfl rfl rfl rfl rfl ?_ | refine st_S rfl rfl rfl rfl rfl ?_ | refine st_T rfl rfl rfl rfl rfl ?_)
    refine st_vf _ rfl rfl rfl rfl rfl (rvalid_small k hG _ (hS s (List.mem_of_getElem? hs'))) ?_
    rintro _ rfl
    repeat (first | refine st_ltT rfl rfl rfl rfl rfl rfl (by omega) ?_ | refine st_ltF rfl rfl rfl rfl rfl rfl (by omega) ?_ | refine st_add rfl rfl rfl rfl rfl rfl (by omega) ?_ | refine st_I rfl rfl rfl rfl rfl ?_ | refine st_B rfl rfl rfl rfl rfl ?_ | refine st_S rfl rfl rfl rfl rfl ?_ | refine st_T rfl rfl rfl rfl rfl ?_)
    simp only [NV, reduceIte, Nat.reduceEqDiff, reduceCtorEq, Nat.one_ne_zero, Nat.zero_ne_one]
    rw [EC_cond_false rfl]
    simp only [NV, reduceIte, Nat.reduceEqDiff, reduceCtorEq, Nat.one_ne_zero, Nat.zero_ne_one]
    repeat (first | refine st_ltT rfl rfl rfl rfl rfl rfl (by omega) ?_ | refine st_ltF rfl rfl rfl rfl rfl rfl (by omega) ?_ | refine st_add rfl rfl rfl rfl rfl rfl (by omega) ?_ | refine st_I rfl rfl rfl rfl rfl ?_ | refine st_B rfl rfl rfl rfl rfl ?_ | refine st_S rfl rfl rfl rfl rfl ?_ | refine st_T rfl rfl rfl rfl rfl ?_)
    simp only [NV, reduceIte, Nat.reduceEqDiff, reduceCtorEq, Nat.one_ne_zero, Nat.zero_ne_one]
    exact goOn (j + 1) (by show S.length - (j + 1) < S.length - j; omega) ⟨rfl, rfl, by show Value.int .i64 _ = Value.int .i64 _; congr 1, trivial⟩ ⟨rfl, rfl, rfl, by show j + 1 ≤ S.length; omega⟩
end Go.Proofs.YtokfihhdllmbmaaGreatDoor
