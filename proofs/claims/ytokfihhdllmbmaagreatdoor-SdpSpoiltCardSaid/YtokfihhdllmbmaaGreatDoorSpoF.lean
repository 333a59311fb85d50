import Derived.Below
import Derived.Test.YtokfihhdllmbmaaGreatDoorRows
import Derived.ChangeSame
import Derived.ChangeVars
import Derived.ChangeSlices
import Derived.JoinedOf
import Derived.RowKit
import Derived.RowKitTokens
import Derived.LaidLaws
import Derived.Carry
import Derived.Handed
import Derived.Test.YtokfihhdllmbmaaGreatDoorTie
import Derived.Test.YtokfihhdllmbmaaGreatDoorCards
import Derived.Test.YtokfihhdllmbmaaGreatDoorSpoE
set_option linter.unusedVariables false
set_option linter.unusedSimpArgs false
namespace Go.Proofs.YtokfihhdllmbmaaGreatDoor
open Go Go.GL
theorem knownS_ok (k : Nat) {h : HF} (hG : GK.G h) (n : Nat) : VF (cal (k + 1)) 14 [] h n fun v => v = .bool true := ⟨_, _, _, _, cal_known k hG n, rfl, rfl, rfl, rfl⟩
def RS (s : List UInt8) : Prop := GK.isSmall s = true ∨ GK.isBad s = true
theorem isSmall_num {s : List UInt8} (h : GK.isSmall s = true) : isNum s := by
  unfold GK.isSmall at h
  rw [List.any_eq_true] at h
  obtain ⟨l, hl, he⟩ := h
  have he : l = s := by simpa using he
  subst he
  simp only [GK.smalls, List.mem_cons, List.not_mem_nil, or_false] at hl
  rcases hl with rfl | rfl | rfl | rfl | rfl | rfl | rfl | rfl | rfl <;> exact (isNum_spl _).2 ⟨by decide, .inl (by decide)⟩
theorem isBad_num {s : List UInt8} (h : GK.isBad s = true) : ¬ isNum s ∧ GK.isSmall s = false := by
  unfold GK.isBad at h
  rw [List.any_eq_true] at h
  obtain ⟨l, hl, he⟩ := h
  have he : l = s := by simpa using he
  subst he
  simp only [GK.bads, List.mem_cons, List.not_mem_nil, or_false] at hl
  rcases hl with rfl | rfl | rfl <;> exact ⟨fun h => absurd ((isNum_spl _).1 h).1 (by decide), by decide⟩
theorem rs_ok (k : Nat) : RV (k + 1) RS := fun j h hG n s hs => by
  rw [show k + 1 + j = (k + j) + 1 from by omega]
  rcases hs with hs | hs
  · exact ⟨_, _, _, _, cal_small (k + j) hG n hs, rfl, rfl, rfl, true, rfl, fun _ => isSmall_num hs, fun _ => rfl⟩
  · obtain ⟨h1, h2⟩ := isBad_num hs
    exact ⟨_, _, _, _, cal_bad (k + j) hG n h2 hs, rfl, rfl, rfl, false, rfl, (fun h => by cases h), (fun h => absurd h h1)⟩
theorem small_len {s : List UInt8} (h : GK.isSmall s = true) : s.length < 1000000 := by
  unfold GK.isSmall at h
  rw [List.any_eq_true] at h
  obtain ⟨l, hl, he⟩ := h
  have he : l = s := by simpa using he
  subst he
  simp only [GK.smalls, List.mem_cons, List.not_mem_nil, or_false] at hl
  rcases hl with rfl | rfl | rfl | rfl | rfl | rfl | rfl | rfl | rfl <;> decide
theorem ent_small {B : List Int} {e : Ent} (h : EntOk B e) : GK.isSmall e.v = true := by
  obtain ⟨x, h1, h2, _, h3⟩ := h.v
  exact small_is (K := 2) (by decide) ⟨x, h1, h2, h3⟩
theorem SdpOk.sizes {F least : Nat} {p : Sdp} (hF : F ≤ 100) (h : SdpOk F least p) : SdpB p ∧ SdpStr RS p := by
  have h1 := h.bl
  have h2 := h.objl
  have h3 := h.ofl
  have h4 := h.eql
  have h5 := h.free
  refine ⟨⟨by omega, by omega, by omega, by omega, fun e he => small_len (ent_small (h.obj.ok e he)), fun s hs => small_len (small_is (by decide) (h.ofs s hs)), fun q hq => ?_⟩, ⟨fun e he => .inl (ent_small (h.obj.ok e he)), fun s hs => .inl (small_is (by decide) (h.ofs s hs)), fun q hq => ?_⟩⟩
  · obtain ⟨g1, g2, g3, g4, g5⟩ := h.eqo q hq
    refine ⟨by omega, by omega, fun e he => small_len (ent_small (g1.ok e he)), fun s hs => ?_⟩
    rcases List.mem_cons.1 hs with rfl | hs
    · exact small_len (small_is (by decide) g5)
    · exact small_len (small_is (by decide) (g4 s hs))
  · obtain ⟨g1, g2, g3, g4, g5⟩ := h.eqo q hq
    refine ⟨fun e he => .inl (ent_small (g1.ok e he)), fun s hs => ?_⟩
    rcases List.mem_cons.1 hs with rfl | hs
    · exact .inl (small_is (by decide) g5)
    · exact .inl (small_is (by decide) (g4 s hs))
theorem mem_set {P : Eqn → Prop} {q1 q2 : List Eqn} {q q' : Eqn} (h : ∀ x ∈ q1 ++ q :: q2, P x) (h' : P q') : ∀ x ∈ q1 ++ q' :: q2, P x := fun x hx => by
  rcases List.mem_append.1 hx with hx | hx
  · exact h x (by simp [hx])
  · rcases List.mem_cons.1 hx with rfl | hx
    · exact h'
    · exact h x (by simp [hx])
theorem tmodR {a m : Int} (hm : 0 < m) : -m < a.tmod m ∧ a.tmod m < m := by
  rcases Int.le_total 0 a with h | h
  · exact ⟨by have := Int.tmod_nonneg m h; omega, Int.tmod_lt_of_pos a hm⟩
  · have h1 := Int.tmod_nonneg m (show 0 ≤ -a by omega)
    have h2 := Int.tmod_lt_of_pos (-a) hm
    rw [Int.neg_tmod] at h1 h2
    omega
theorem tmod_back {a m : Int} (ha : 0 ≤ a) (hm : 0 < m) : ∃ j : Nat, a.tmod m = j ∧ (j : Int) < m := ⟨(a.tmod m).toNat, by rw [Int.toNat_of_nonneg (Int.tmod_nonneg _ ha)], by rw [Int.toNat_of_nonneg (Int.tmod_nonneg _ ha)]; exact Int.tmod_lt_of_pos a hm⟩
theorem Below.ne {m b : Nat} {v : Value} (h : Below m v) (hb : 3 * m ≤ b) : ∀ o l c, v ≠ .slice (some ⟨b, o, none⟩) l c := fun o l c e => by
  have := Pt.of_below h _ _ _ e
  simp only at this
  omega
theorem ones_ents (l : List Ent) : ones (ents l) = true := by
  induction l with
  | nil => rfl
  | cons e l ih => rw [show ents (e :: l) = entC e ++ ents l from rfl]; exact ones_append rfl ih
theorem append_zero {E : Env} {h : HF} {n : Nat} {sT e : TypeId} {size bytes c : Nat} {z : Value} {a : Option Addr} (hu : E.und sT = some (.slice e)) (hi : E.inf e = some (size, bytes, z)) (hz : (vcells z).length = size) (h1 : 1 ≤ size ∧ 1 ≤ bytes) : appendF E h n sT (.slice a 0 c) (.slice a 0 c) = some (.val (.slice a 0 c) h n []) := by
  have c2 : Nat.beq (vcells z).length size = true := by rw [hz]; exact Nat.beq_refl _
  have c3 : Nat.ble 1 size = true := Nat.ble_eq_true_of_le h1.1
  have c4 : Nat.ble 1 bytes = true := Nat.ble_eq_true_of_le h1.2
  have c5 : Nat.ble ((0 + 0) * bytes) 1099511627776 = true := by rw [Nat.zero_add, Nat.zero_mul]; rfl
  have c6 : argCellsF h size 0 (.slice a 0 c) = some [] := by cases a <;> simp [argCellsF]
  have c7 : Nat.ble (0 + 0) c = true := Nat.ble_eq_true_of_le (by omega)
  simp only [appendF, hu, hi, lenOf?, c6, c2, c3, c4, c5, c7, Bool.and_self, inPlaceF]
section
variable {X : CtxF} {ops r : List Oper} {t : TF} {h : HF} {n : Nat} {w : List Nat} {Q : SV → Prop} {o : Oper} {d : Tmp}
theorem st_appF {xT sT e : TypeId} {s x : Operand} {lo len size bytes m : Nat} {z : Value} {c new : List Value} (hw : wantsF ops t o = true) (hd : o.dst = some d) (hn : dstOk X.nt (some d) = true) (ho : o.op = .call { callee := .builtin .append, args := #[s, x], argTypes := #[sT, xT] }) (hxT : (match X.E.und xT with | some (.int _) => false | none => false | _ => true) = true)
    (hu : X.E.und sT = some (.slice e)) (hi : X.E.inf e = some (size, bytes, z)) (hz : (vcells z).length = size) (h1 : 1 ≤ size ∧ 1 ≤ bytes) (hg : Gro h lo n e size (evF t s) len c) (hx : argS h size (evF t x) m new) (hm : 1 ≤ m) (hb : (len + m) * bytes ≤ 1099511627776) (hl : new.length = m * size) (hon : ones new = true) (hlo : X.n0 ≤ lo ∧ lo ≤ n)
    (k : ∀ v' h', Gro h' lo (n + 1) e size v' (len + m) (c ++ new) → Ext lo h h' → Keep (evF t s) n h h' → Fresh n v' → EO X ops r ⟨upd t d v', h', n + 1, w⟩ Q) : EO X ops (o :: r) ⟨t, h, n, w⟩ Q := by
  obtain ⟨v', h', W, h2, h3, h4, h6, h5, h7⟩ := append_Gro hu hi hz h1 hg hx hm hb hl hon hlo.2
  refine st_append hw hd hn ho hxT h2 ?_
  rw [addW_big fun b hb => by have := h5 b hb; omega]
  exact k v' h' h3 h4 h6 h7
end
structure Spo (h : HF) (n m : Nat) (c : List Value) (p : Sdp) (fr : Int) : Prop where
  row : ∃ vB vO vF vE, c = [vB, .int .i64 fr, vO, vF, vE] ∧ SdpR h n vB vO vF vE p
  b : SdpB p
  s : SdpStr RS p
set_option maxHeartbeats 4000000
theorem spoilt_ok (k : Nat) {h : HF} (hG : GK.G h) {n : Nat} (hn : 20 ≤ n) {aL : Option Addr} {lL cL : Nat} {L : List Int} (hL : Sl h n 1 (.slice aL lL cL) (i64s L)) (what att byy : Int) :
    VF (cal (k + 10)) 4 [.slice aL lL cL, .int .i64 what, .int .i64 att, .int .i64 byy] h n fun v => v = .bool true := by
  refine CF_flat (fn := Tryz.f4) rfl rfl rfl rfl ?_
  simp only [NV, reduceIte, Nat.reduceEqDiff, reduceCtorEq, Nat.one_ne_zero, Nat.zero_ne_one]
  repeat (first | refine st_eqT rfl rfl rfl rfl rfl rfl (by omega) ?_ | refine st_eqF rfl rfl rfl rfl rfl rfl (by omega) ?_ | refine st_add rfl rfl rfl rfl rfl rfl (by omega) ?_ | refine st_sub rfl rfl rfl rfl rfl rfl (by omega) ?_ | refine st_I rfl rfl rfl rfl rfl ?_ | refine st_B rfl rfl rfl rfl rfl ?_ | refine st_S rfl rfl rfl rfl rfl ?_ | refine st_P rfl rfl rfl rfl rfl ?_ | refine st_A rfl rfl rfl rfl rfl ?_)
  simp only [NV, reduceIte, Nat.reduceEqDiff, reduceCtorEq, Nat.one_ne_zero, Nat.zero_ne_one]
  repeat (first | refine st_eqT rfl rfl rfl rfl rfl rfl (by omega) ?_ | refine st_eqF rfl rfl rfl rfl rfl rfl (by omega) ?_ | refine st_add rfl rfl rfl rfl rfl rfl (by omega) ?_ | refine st_sub rfl rfl rfl rfl rfl rfl (by omega) ?_ | refine st_I rfl rfl rfl rfl rfl ?_ | refine st_B rfl rfl rfl rfl rfl ?_ | refine st_S rfl rfl rfl rfl rfl ?_ | refine st_P rfl rfl rfl rfl rfl ?_ | refine st_A rfl rfl rfl rfl rfl ?_)
  refine st_call _ rfl rfl rfl rfl rfl (new_ok (k + 8) hL) ?_
  rintro _ h1 _ _ ⟨rfl, rfl, hx1, rfl, hT1⟩
  have hprog := program2_ok (k + 3) (F := 2) (least := 1) (by omega) hT1 (n := n + 1) (Nat.le_refl _)
  refine st_call _ rfl rfl rfl rfl rfl hprog ?_
  rintro _ h2 n2 w2 ⟨⟨hw2, hn2, _, hx2⟩, p, vB, vO, vF, vE, rfl, hg, hok⟩
  simp only at hw2 hx2
  have hw : addW (ctx (k + 9) n (Tryz.f4).ntmps).n0 w2 [] = [] := addW_big fun b hb => by
    have := hw2 b hb
    show 3 * n ≤ b
    omega
  rw [show addW (ctx (k + 9) n (Tryz.f4).ntmps).n0 w2 (addW (ctx (k + 9) n (Tryz.f4).ntmps).n0 [] []) = [] from hw]
  obtain ⟨ce, hD⟩ := hg.toD
  have hbl := hok.bl
  have heql := hok.eql
  have hfr := hok.free
  obtain ⟨hsB, hsS⟩ := hok.sizes (by omega)
  obtain ⟨bB, rfl, hbB1, hbB2, hrB, _⟩ := hD.gB.inv (by omega)
  obtain ⟨bE, rfl, hbE1, hbE2, hrE, hlE⟩ := hD.gE.inv (by omega)
  obtain ⟨aO, rfl, _⟩ := hD.gO.shape
  obtain ⟨aF, rfl, _⟩ := hD.gF.shape
  refine st_alloc rfl rfl rfl rfl rfl ?_
  refine st_storeW [.slice (some ⟨bB, 0, none⟩) p.blocks.length p.blocks.length, .int .i64 (p.free : Int), .slice aO p.obj.length p.obj.length, .slice aF p.free p.free, .slice (some ⟨bE, 0, none⟩) p.eqs.length p.eqs.length] rfl rfl rfl rfl rfl rfl rfl rfl (upd_same _ _ _) rfl (by show 3 * n ≤ 3 * n2 + 2; omega) ?_
  rw [upd_upd]
  generalize hh3 : upd h2 (3 * n2 + 2) _ = h3
  have hr3 : ∃ ty, h3 (3 * n2 + 2) = some (.row [.slice (some ⟨bB, 0, none⟩) p.blocks.length p.blocks.length, .int .i64 (p.free : Int), .slice aO p.obj.length p.obj.length, .slice aF p.free p.free, .slice (some ⟨bE, 0, none⟩) p.eqs.length p.eqs.length] ty) := ⟨_, by rw [← hh3, upd_same]⟩
  obtain ⟨ty3, hr3⟩ := hr3
  have hx23 : Ext n2 h2 h3 := by rw [← hh3]; exact Ext.upd (by omega)
  have hx03 : Ext n h h3 := fun b hb => by rw [hx23 b (by omega), hx2 b (by omega) (by omega), hx1 b hb]
  have hG3 : GK.G h3 := G_ext hG hx03 hn
  have hD3 := hD.ext hx23 (Nat.le_succ n2)
  have hrB3 : h3 bB = _ := (hx23 bB hbB2).trans hrB
  have hrE3 : h3 bE = _ := (hx23 bE hbE2).trans hrE
  clear hh3 hg hprog
  simp only [NV, reduceIte, Nat.reduceEqDiff, reduceCtorEq, Nat.one_ne_zero, Nat.zero_ne_one]
  refine st_load (v := .agg #[.slice (some ⟨bB, 0, none⟩) p.blocks.length p.blocks.length, .int .i64 (p.free : Int), .slice aO p.obj.length p.obj.length, .slice aF p.free p.free, .slice (some ⟨bE, 0, none⟩) p.eqs.length p.eqs.length]) rfl rfl rfl rfl rfl (loadn_eq rfl rfl hr3 rfl (Nat.le_of_ble_eq_true rfl) rfl) ?_
  refine st_vf _ rfl rfl rfl rfl rfl (valid_ok (k + 6) hG3 (F := 2) (least := 1) (by omega) (by omega) hD3.toR hok) ?_
  rintro _ rfl
  repeat (first | refine st_eqT rfl rfl rfl rfl rfl rfl (by omega) ?_ | refine st_eqF rfl rfl rfl rfl rfl rfl (by omega) ?_ | refine st_add rfl rfl rfl rfl rfl rfl (by omega) ?_ | refine st_sub rfl rfl rfl rfl rfl rfl (by omega) ?_ | refine st_I rfl rfl rfl rfl rfl ?_ | refine st_B rfl rfl rfl rfl rfl ?_ | refine st_S rfl rfl rfl rfl rfl ?_ | refine st_P rfl rfl rfl rfl rfl ?_ | refine st_A rfl rfl rfl rfl rfl ?_)
  simp only [NV, reduceIte, Nat.reduceEqDiff, reduceCtorEq, Nat.one_ne_zero, Nat.zero_ne_one]
  rw [EC_cond_false rfl]
  simp only [NV, reduceIte, Nat.reduceEqDiff, reduceCtorEq, Nat.one_ne_zero, Nat.zero_ne_one]
  rw [EC_quiet rfl]
  have hmE : (0 : Int) < (p.eqs.length : Int) := by omega
  repeat (first | refine st_load1 rfl rfl rfl rfl rfl rfl hr3 rfl rfl ?_ | refine st_eqT rfl rfl rfl rfl rfl rfl (by omega) ?_ | refine st_eqF rfl rfl rfl rfl rfl rfl (by omega) ?_ | refine st_add rfl rfl rfl rfl rfl rfl (by omega) ?_ | refine st_sub rfl rfl rfl rfl rfl rfl (by omega) ?_ | refine st_I rfl rfl rfl rfl rfl ?_ | refine st_B rfl rfl rfl rfl rfl ?_ | refine st_S rfl rfl rfl rfl rfl ?_ | refine st_P rfl rfl rfl rfl rfl ?_ | refine st_A rfl rfl rfl rfl rfl ?_)
  refine st_rem rfl rfl rfl rfl rfl rfl (by omega) ?_
  obtain ⟨m1, hm1, hm2⟩ : ∃ m1, att.tmod (p.eqs.length : Int) = m1 ∧ -(p.eqs.length : Int) < m1 ∧ m1 < p.eqs.length := ⟨_, rfl, tmodR hmE⟩
  rw [hm1]
  repeat (first | refine st_load1 rfl rfl rfl rfl rfl rfl hr3 rfl rfl ?_ | refine st_eqT rfl rfl rfl rfl rfl rfl (by omega) ?_ | refine st_eqF rfl rfl rfl rfl rfl rfl (by omega) ?_ | refine st_add rfl rfl rfl rfl rfl rfl (by omega) ?_ | refine st_sub rfl rfl rfl rfl rfl rfl (by omega) ?_ | refine st_I rfl rfl rfl rfl rfl ?_ | refine st_B rfl rfl rfl rfl rfl ?_ | refine st_S rfl rfl rfl rfl rfl ?_ | refine st_P rfl rfl rfl rfl rfl ?_ | refine st_A rfl rfl rfl rfl rfl ?_)
  refine st_rem rfl rfl rfl rfl rfl rfl (by omega) ?_
  obtain ⟨j, hj1, hj2⟩ := tmod_back (a := m1 + (p.eqs.length : Int)) (m := (p.eqs.length : Int)) (by omega) hmE
  rw [hj1]
  clear hm1 hm2 hj1
  repeat (first | refine st_eqT rfl rfl rfl rfl rfl rfl (by omega) ?_ | refine st_eqF rfl rfl rfl rfl rfl rfl (by omega) ?_ | refine st_add rfl rfl rfl rfl rfl rfl (by omega) ?_ | refine st_sub rfl rfl rfl rfl rfl rfl (by omega) ?_ | refine st_I rfl rfl rfl rfl rfl ?_ | refine st_B rfl rfl rfl rfl rfl ?_ | refine st_S rfl rfl rfl rfl rfl ?_ | refine st_P rfl rfl rfl rfl rfl ?_ | refine st_A rfl rfl rfl rfl rfl ?_)
  simp only [NV, reduceIte, Nat.reduceEqDiff, reduceCtorEq, Nat.one_ne_zero, Nat.zero_ne_one]
  have hm1 : -4 < byy.tmod 4 ∧ byy.tmod 4 < 4 := tmodR (by omega)
  obtain ⟨y, hy1, hy2⟩ := tmod_back (a := byy.tmod 4 + 4) (m := 4) (by omega) (by omega)
  repeat (first | refine st_eqT rfl rfl rfl rfl rfl rfl (by omega) ?_ | refine st_eqF rfl rfl rfl rfl rfl rfl (by omega) ?_ | refine st_add rfl rfl rfl rfl rfl rfl (by omega) ?_ | refine st_sub rfl rfl rfl rfl rfl rfl (by omega) ?_ | refine st_I rfl rfl rfl rfl rfl ?_ | refine st_B rfl rfl rfl rfl rfl ?_ | refine st_S rfl rfl rfl rfl rfl ?_ | refine st_P rfl rfl rfl rfl rfl ?_ | refine st_A rfl rfl rfl rfl rfl ?_)
  rw [hy1]
  clear hm1 hy1
  simp only [NV, reduceIte, Nat.reduceEqDiff, reduceCtorEq, Nat.one_ne_zero, Nat.zero_ne_one]
  repeat (first | refine st_load1 rfl rfl rfl rfl rfl rfl hr3 rfl rfl ?_ | refine st_eqT rfl rfl rfl rfl rfl rfl (by omega) ?_ | refine st_eqF rfl rfl rfl rfl rfl rfl (by omega) ?_ | refine st_add rfl rfl rfl rfl rfl rfl (by omega) ?_ | refine st_sub rfl rfl rfl rfl rfl rfl (by omega) ?_ | refine st_I rfl rfl rfl rfl rfl ?_ | refine st_B rfl rfl rfl rfl rfl ?_ | refine st_S rfl rfl rfl rfl rfl ?_ | refine st_P rfl rfl rfl rfl rfl ?_ | refine st_A rfl rfl rfl rfl rfl ?_)
  refine st_idx rfl rfl rfl rfl rfl rfl rfl rfl (by omega) ?_
  repeat (first | refine st_eqT rfl rfl rfl rfl rfl rfl (by omega) ?_ | refine st_eqF rfl rfl rfl rfl rfl rfl (by omega) ?_ | refine st_add rfl rfl rfl rfl rfl rfl (by omega) ?_ | refine st_sub rfl rfl rfl rfl rfl rfl (by omega) ?_ | refine st_I rfl rfl rfl rfl rfl ?_ | refine st_B rfl rfl rfl rfl rfl ?_ | refine st_S rfl rfl rfl rfl rfl ?_ | refine st_P rfl rfl rfl rfl rfl ?_ | refine st_A rfl rfl rfl rfl rfl ?_)
  simp only [NV, reduceIte, Nat.reduceEqDiff, reduceCtorEq, Nat.one_ne_zero, Nat.zero_ne_one]
  have hm1 : -8 < what.tmod 8 ∧ what.tmod 8 < 8 := tmodR (by omega)
  obtain ⟨z, hz1, hz2⟩ := tmod_back (a := what.tmod 8 + 8) (m := 8) (by omega) (by omega)
  repeat (first | refine st_eqT rfl rfl rfl rfl rfl rfl (by omega) ?_ | refine st_eqF rfl rfl rfl rfl rfl rfl (by omega) ?_ | refine st_add rfl rfl rfl rfl rfl rfl (by omega) ?_ | refine st_sub rfl rfl rfl rfl rfl rfl (by omega) ?_ | refine st_I rfl rfl rfl rfl rfl ?_ | refine st_B rfl rfl rfl rfl rfl ?_ | refine st_S rfl rfl rfl rfl rfl ?_ | refine st_P rfl rfl rfl rfl rfl ?_ | refine st_A rfl rfl rfl rfl rfl ?_)
  rw [hz1]
  clear hm1 hz1
  rw [show 0 + (j : Int).toNat * 3 = j * 3 from by omega]
  obtain ⟨q, hq⟩ : ∃ q, p.eqs[j]? = some q := ⟨p.eqs[j]'(by omega), List.getElem?_eq_getElem (by omega)⟩
  have hqm := List.mem_of_getElem? hq
  simp only [EC_skip, EO_nil, after_normal, EC_seq]
  refine EC_cutx (α := List Value × Sdp × Int) (fun z => [(9, .pointer (some ⟨3 * n2 + 2, 0, none⟩))]) (fun z h' n' w => w = [] ∧ n2 + 1 ≤ n' ∧ GK.G h' ∧ (∃ ty, h' (3 * n2 + 2) = some (.row z.1 ty)) ∧ Spo h' n' n2 z.1 z.2.1 z.2.2) ?_ ?_
  case refine_2 =>
    rintro ⟨c, p', fr⟩ t h' n' _ ⟨rfl, hn', hG', ⟨ty', hr'⟩, ⟨vB, vO, vF, vE, hc, hp'⟩, hb', hs'⟩
    simp only at hr' hp' hb' hs' hc
    subst hc
    simp only [NV, reduceIte, Nat.reduceEqDiff, reduceCtorEq, Nat.one_ne_zero, Nat.zero_ne_one]
    refine EC_draw [0, 1, 3, 7, 3, 31, 63, 127, 255] rfl ?_
    refine dr_vf _ rfl rfl rfl rfl rfl rfl rfl (knownS_ok (k + 8) hG' _) ?_
    rintro _ rfl
    repeat (first | refine dr_B rfl rfl rfl rfl rfl ?_ | refine dr_P rfl rfl rfl rfl rfl ?_)
    refine dr_load (v := .agg #[vB, .int .i64 fr, vO, vF, vE]) rfl rfl rfl rfl rfl rfl (loadn_eq rfl rfl hr' rfl (Nat.le_of_ble_eq_true rfl) rfl) (okEffsF_nil (by simp)) rfl ?_
    refine dr_vf _ rfl rfl rfl rfl rfl rfl rfl (sdpValid_ok (k + 6) (rs_ok _) hG' (by omega) hp' hb' hs') ?_
    rintro _ ⟨b1, rfl, hb1⟩
    refine dr_load (v := .agg #[vB, .int .i64 fr, vO, vF, vE]) rfl rfl rfl rfl rfl rfl (loadn_eq rfl rfl hr' rfl (Nat.le_of_ble_eq_true rfl) rfl) (okEffsF_nil (by simp)) rfl ?_
    refine dr_vf _ rfl rfl rfl rfl rfl rfl rfl (refValid_ok k hp' hb') ?_
    rintro _ ⟨b2, rfl, hb2⟩
    obtain rfl : b1 = b2 := by
      have := hb1.trans hb2.symm
      cases b1 <;> cases b2 <;> simp_all
    refine dr_val (v := .bool true) rfl rfl rfl rfl (by cases b1 <;> rfl) ?_
    repeat (first | refine dr_B rfl rfl rfl rfl rfl ?_ | refine dr_P rfl rfl rfl rfl rfl ?_)
    simp only [NV, reduceIte, Nat.reduceEqDiff, reduceCtorEq, Nat.one_ne_zero, Nat.zero_ne_one]
    exact retF _ rfl (resF_tmp rfl) rfl rfl rfl
  have hve : ∃ ae, ce[j * 3]? = some (.slice ae q.es.length q.es.length) ∧ Gro h3 (n + 1) (n2 + 1) 37 4 (.slice ae q.es.length q.es.length) q.es.length (ents q.es) := by
    obtain ⟨c1, ve, vf, c2, q1, q2, e1, e2, e3, _, g2, _, _⟩ := hD3.qE.split hq
    obtain ⟨ae, rfl, _⟩ := g2.shape
    exact ⟨ae, by rw [e1, List.getElem?_append_right (by omega), e2, Nat.sub_self]; rfl, g2⟩
  obtain ⟨ae, hce, hgq⟩ := hve
  have hdq : Dis (.slice ae q.es.length q.es.length) (.slice (some ⟨bE, 0, none⟩) p.eqs.length p.eqs.length) := (hD3.dC _ (List.mem_of_getElem? hce)).2.2.2
  have hqok := hok.eqo q hqm
  have hobjl := hok.objl
  have hofl := hok.ofl
  have hbq : Below n2 (.slice ae q.es.length q.es.length) := by
    have hm := hD.qE.toR.belows _ (List.mem_of_getElem? hce)
    cases ae with
    | none => trivial
    | some a => exact hm a _ _ rfl
  have hjl : j * 3 + 2 < ce.length := by omega
  have hz : z = 0 ∨ z = 1 ∨ z = 2 ∨ z = 3 ∨ z = 4 ∨ z = 5 ∨ z = 6 ∨ z = 7 := by omega
  rcases hz with rfl | rfl | rfl | rfl | rfl | rfl | rfl | rfl
  all_goals simp only [NV, reduceIte, Nat.reduceEqDiff, reduceCtorEq, Nat.one_ne_zero, Nat.zero_ne_one]
  all_goals (repeat (first | refine st_eqT rfl rfl rfl rfl rfl rfl (by omega) ?_ | refine st_eqF rfl rfl rfl rfl rfl rfl (by omega) ?_ | refine st_add rfl rfl rfl rfl rfl rfl (by omega) ?_ | refine st_sub rfl rfl rfl rfl rfl rfl (by omega) ?_ | refine st_I rfl rfl rfl rfl rfl ?_ | refine st_B rfl rfl rfl rfl rfl ?_ | refine st_S rfl rfl rfl rfl rfl ?_ | refine st_P rfl rfl rfl rfl rfl ?_ | refine st_A rfl rfl rfl rfl rfl ?_))
  all_goals simp only [NV, reduceIte, Nat.reduceEqDiff, reduceCtorEq, Nat.one_ne_zero, Nat.zero_ne_one]
  all_goals repeat (rw [EC_cond_false rfl]; simp only [NV, reduceIte, Nat.reduceEqDiff, reduceCtorEq, Nat.one_ne_zero, Nat.zero_ne_one]; (repeat (first | refine st_eqT rfl rfl rfl rfl rfl rfl (by omega) ?_ | refine st_eqF rfl rfl rfl rfl rfl rfl (by omega) ?_ | refine st_add rfl rfl rfl rfl rfl rfl (by omega) ?_ | refine st_sub rfl rfl rfl rfl rfl rfl (by omega) ?_ | refine st_I rfl rfl rfl rfl rfl ?_ | refine st_B rfl rfl rfl rfl rfl ?_ | refine st_S rfl rfl rfl rfl rfl ?_ | refine st_P rfl rfl rfl rfl rfl ?_ | refine st_A rfl rfl rfl rfl rfl ?_)); simp only [NV, reduceIte, Nat.reduceEqDiff, reduceCtorEq, Nat.one_ne_zero, Nat.zero_ne_one])
  · rw [EC_cond_true rfl]
    simp only [NV, reduceIte, Nat.reduceEqDiff, reduceCtorEq, Nat.one_ne_zero, Nat.zero_ne_one]
    obtain ⟨d0, Bt, hBt⟩ : ∃ d0 Bt, p.blocks = d0 :: Bt := by
      cases hB : p.blocks with
      | nil => rw [hB] at hbl; simp at hbl
      | cons d0 Bt => exact ⟨d0, Bt, rfl⟩
    have hd0 := hok.b3 d0 (by rw [hBt]; simp)
    repeat (first | refine st_load1 rfl rfl rfl rfl rfl rfl hr3 rfl rfl ?_ | refine st_eqT rfl rfl rfl rfl rfl rfl (by omega) ?_ | refine st_eqF rfl rfl rfl rfl rfl rfl (by omega) ?_ | refine st_add rfl rfl rfl rfl rfl rfl (by omega) ?_ | refine st_sub rfl rfl rfl rfl rfl rfl (by omega) ?_ | refine st_I rfl rfl rfl rfl rfl ?_ | refine st_B rfl rfl rfl rfl rfl ?_ | refine st_S rfl rfl rfl rfl rfl ?_ | refine st_P rfl rfl rfl rfl rfl ?_ | refine st_A rfl rfl rfl rfl rfl ?_)
    refine st_idx rfl rfl rfl rfl rfl rfl rfl rfl (by omega) ?_
    refine st_load1 rfl rfl rfl rfl rfl rfl hrB3 rfl (v := .int .i64 d0) (by rw [hBt]; rfl) ?_
    (first | refine st_I rfl rfl rfl rfl rfl ?_ | refine st_B rfl rfl rfl rfl rfl ?_ | refine st_S rfl rfl rfl rfl rfl ?_ | refine st_P rfl rfl rfl rfl rfl ?_ | refine st_A rfl rfl rfl rfl rfl ?_)
    refine st_mul rfl rfl rfl rfl rfl rfl (by omega) ?_
    repeat (first | refine st_eqT rfl rfl rfl rfl rfl rfl (by omega) ?_ | refine st_eqF rfl rfl rfl rfl rfl rfl (by omega) ?_ | refine st_add rfl rfl rfl rfl rfl rfl (by omega) ?_ | refine st_sub rfl rfl rfl rfl rfl rfl (by omega) ?_ | refine st_I rfl rfl rfl rfl rfl ?_ | refine st_B rfl rfl rfl rfl rfl ?_ | refine st_S rfl rfl rfl rfl rfl ?_ | refine st_P rfl rfl rfl rfl rfl ?_ | refine st_A rfl rfl rfl rfl rfl ?_)
    refine st_idx rfl rfl rfl rfl rfl rfl rfl rfl (by omega) ?_
    refine st_storeN (cs := [.int .i64 (d0 + ((y : Int) - 1) * 16)]) rfl rfl rfl rfl rfl rfl rfl rfl hrB3 (by simp [i64s]; omega) (by show 3 * n ≤ bB; omega) ?_
    simp only [NV, reduceIte, Nat.reduceEqDiff, reduceCtorEq, Nat.one_ne_zero, Nat.zero_ne_one]
    refine cutx_mk ([.slice (some ⟨bB, 0, none⟩) p.blocks.length p.blocks.length, .int .i64 (p.free : Int), .slice aO p.obj.length p.obj.length, .slice aF p.free p.free, .slice (some ⟨bE, 0, none⟩) p.eqs.length p.eqs.length], { p with blocks := (d0 + ((y : Int) - 1) * 16) :: Bt }, (p.free : Int)) ⟨rfl, trivial⟩ ⟨rfl, Nat.le_refl _, G_ext hG3 (Ext.upd (n := n) (by omega)) hn, ⟨ty3, (upd_ne (by omega)).trans hr3⟩, ⟨_, _, _, _, rfl, hD3.setB (n' := n2 + 1) Keep.upd (Nat.le_refl _) ?_⟩, ?_, ?_⟩
    · have e : spliceAt (i64s p.blocks) (0 + (0 : Int).toNat * 1) [Value.int .i64 (d0 + ((y : Int) - 1) * 16)] = i64s ((d0 + ((y : Int) - 1) * 16) :: Bt) := by rw [hBt]; rfl
      refine .at_ (by omega) (upd_same _ _ _) rfl (Nat.le_refl _) ?_ ?_
      · rw [e, hBt]; simp [i64s]
      · rw [e, hBt, List.drop_zero, List.take_of_length_le (by simp [i64s])]
    · exact ⟨by show (_ :: Bt).length < _; rw [hBt] at hbl; simp at hbl ⊢; omega, hsB.ol, hsB.fl, hsB.el, hsB.os, hsB.fs, hsB.qs⟩
    · exact ⟨hsS.obj, hsS.objFree, hsS.eqs⟩
  · rw [EC_cond_true rfl]
    simp only [NV, reduceIte, Nat.reduceEqDiff, reduceCtorEq, Nat.one_ne_zero, Nat.zero_ne_one]
    repeat (first | refine st_load1 rfl rfl rfl rfl rfl rfl hr3 rfl rfl ?_ | refine st_eqT rfl rfl rfl rfl rfl rfl (by omega) ?_ | refine st_eqF rfl rfl rfl rfl rfl rfl (by omega) ?_ | refine st_add rfl rfl rfl rfl rfl rfl (by omega) ?_ | refine st_sub rfl rfl rfl rfl rfl rfl (by omega) ?_ | refine st_I rfl rfl rfl rfl rfl ?_ | refine st_B rfl rfl rfl rfl rfl ?_ | refine st_S rfl rfl rfl rfl rfl ?_ | refine st_P rfl rfl rfl rfl rfl ?_ | refine st_A rfl rfl rfl rfl rfl ?_)
    refine st_storeN (cs := [.int .i64 ((p.free : Int) + ((y : Int) - 1))]) rfl rfl rfl rfl rfl rfl rfl rfl hr3 (Nat.le_of_ble_eq_true rfl) (by show 3 * n ≤ 3 * n2 + 2; omega) ?_
    simp only [NV, reduceIte, Nat.reduceEqDiff, reduceCtorEq, Nat.one_ne_zero, Nat.zero_ne_one]
    exact cutx_mk ([.slice (some ⟨bB, 0, none⟩) p.blocks.length p.blocks.length, .int .i64 ((p.free : Int) + ((y : Int) - 1)), .slice aO p.obj.length p.obj.length, .slice aF p.free p.free, .slice (some ⟨bE, 0, none⟩) p.eqs.length p.eqs.length], p, (p.free : Int) + ((y : Int) - 1)) ⟨rfl, trivial⟩ ⟨rfl, Nat.le_refl _, G_ext hG3 (Ext.upd (n := n) (by omega)) hn, ⟨ty3, upd_same _ _ _⟩, ⟨_, _, _, _, rfl, (hD.ext (hx23.trans (Ext.upd (n := n2) (by omega)) (Nat.le_refl _)) (Nat.le_succ n2)).toR⟩, hsB, hsS⟩
  · rw [EC_cond_true rfl]
    simp only [NV, reduceIte, Nat.reduceEqDiff, reduceCtorEq, Nat.one_ne_zero, Nat.zero_ne_one]
    repeat (first | refine st_eqT rfl rfl rfl rfl rfl rfl (by omega) ?_ | refine st_eqF rfl rfl rfl rfl rfl rfl (by omega) ?_ | refine st_add rfl rfl rfl rfl rfl rfl (by omega) ?_ | refine st_sub rfl rfl rfl rfl rfl rfl (by omega) ?_ | refine st_I rfl rfl rfl rfl rfl ?_ | refine st_B rfl rfl rfl rfl rfl ?_ | refine st_S rfl rfl rfl rfl rfl ?_ | refine st_P rfl rfl rfl rfl rfl ?_ | refine st_A rfl rfl rfl rfl rfl ?_)
    refine st_mks (cs := [.string ⟨⟨[49, 47, 49]⟩⟩, .string ⟨⟨[45, 48]⟩⟩, .string ⟨⟨[]⟩⟩, .string ⟨⟨[50]⟩⟩]) rfl rfl rfl rfl rfl ?_
    repeat (first | refine st_eqT rfl rfl rfl rfl rfl rfl (by omega) ?_ | refine st_eqF rfl rfl rfl rfl rfl rfl (by omega) ?_ | refine st_add rfl rfl rfl rfl rfl rfl (by omega) ?_ | refine st_sub rfl rfl rfl rfl rfl rfl (by omega) ?_ | refine st_I rfl rfl rfl rfl rfl ?_ | refine st_B rfl rfl rfl rfl rfl ?_ | refine st_S rfl rfl rfl rfl rfl ?_ | refine st_P rfl rfl rfl rfl rfl ?_ | refine st_A rfl rfl rfl rfl rfl ?_)
    refine st_idx rfl rfl rfl rfl rfl rfl rfl rfl (by omega) ?_
    obtain ⟨s, hs, hRS, hsl⟩ : ∃ s, [Value.string ⟨⟨[49, 47, 49]⟩⟩, .string ⟨⟨[45, 48]⟩⟩, .string ⟨⟨[]⟩⟩, .string ⟨⟨[50]⟩⟩][y]? = some (Value.string ⟨⟨s⟩⟩) ∧ RS s ∧ s.length < 1000000 := by
      have hy : y = 0 ∨ y = 1 ∨ y = 2 ∨ y = 3 := by omega
      rcases hy with rfl | rfl | rfl | rfl
      · exact ⟨_, rfl, .inr rfl, by decide⟩
      · exact ⟨_, rfl, .inr rfl, by decide⟩
      · exact ⟨_, rfl, .inr rfl, by decide⟩
      · exact ⟨_, rfl, .inl rfl, by decide⟩
    refine st_load1 rfl rfl rfl rfl rfl rfl (upd_same _ _ _) rfl (v := .string ⟨⟨s⟩⟩) (by rw [show 0 + ((y : Int) - 1 + 1).toNat * 1 = y from by omega]; exact hs) ?_
    repeat (first | refine st_eqT rfl rfl rfl rfl rfl rfl (by omega) ?_ | refine st_eqF rfl rfl rfl rfl rfl rfl (by omega) ?_ | refine st_add rfl rfl rfl rfl rfl rfl (by omega) ?_ | refine st_sub rfl rfl rfl rfl rfl rfl (by omega) ?_ | refine st_I rfl rfl rfl rfl rfl ?_ | refine st_B rfl rfl rfl rfl rfl ?_ | refine st_S rfl rfl rfl rfl rfl ?_ | refine st_P rfl rfl rfl rfl rfl ?_ | refine st_A rfl rfl rfl rfl rfl ?_)
    have hx4 : Ext (n2 + 1) h3 (upd h3 (3 * (n2 + 1) + 2) (some (BF.row [Value.string ⟨⟨[49, 47, 49]⟩⟩, .string ⟨⟨[45, 48]⟩⟩, .string ⟨⟨[]⟩⟩, .string ⟨⟨[50]⟩⟩] 9))) := Ext.upd (by omega)
    refine st_storeN (off := j * 3 + 2) (cs := [.string ⟨⟨s⟩⟩]) rfl rfl rfl rfl rfl rfl rfl rfl ((hx4 bE (by omega)).trans hrE3) (by omega) (by show 3 * n ≤ bE; omega) ?_
    simp only [NV, reduceIte, Nat.reduceEqDiff, reduceCtorEq, Nat.one_ne_zero, Nat.zero_ne_one]
    obtain ⟨q1, q2, hq12, hR⟩ := (hD3.ext hx4 (Nat.le_succ _)).setR (s := s) (ty := 35) hq (by omega)
    rw [splice_one _ _ _ (by omega)]
    refine cutx_mk ([.slice (some ⟨bB, 0, none⟩) p.blocks.length p.blocks.length, .int .i64 (p.free : Int), .slice aO p.obj.length p.obj.length, .slice aF p.free p.free, .slice (some ⟨bE, 0, none⟩) p.eqs.length p.eqs.length], { p with eqs := q1 ++ ⟨q.es, q.fr, s⟩ :: q2 }, (p.free : Int)) ⟨rfl, trivial⟩ ⟨rfl, by show n2 + 1 ≤ n2 + 1 + 1; omega, G_ext hG3 ((hx4.mono (by omega)).trans (Ext.upd (n := n) (by omega)) (Nat.le_refl n)) hn, ⟨ty3, (upd_ne (by omega)).trans ((hx4 _ (by omega)).trans hr3)⟩, ⟨_, _, _, _, rfl, hR⟩, ?_, ?_⟩
    · have hqs := hsB.qs
      have hel := hsB.el
      obtain ⟨z1, z2, z3, z4⟩ := hsB.qs q hqm
      rw [hq12] at hqs hel
      refine ⟨hsB.bl, hsB.ol, hsB.fl, by simp at hel ⊢; omega, hsB.os, hsB.fs, mem_set hqs ⟨z1, z2, z3, fun s' hs' => ?_⟩⟩
      rcases List.mem_cons.1 hs' with rfl | hs'
      · exact hsl
      · exact z4 s' (by simp [hs'])
    · have hqs := hsS.eqs
      obtain ⟨z1, z2⟩ := hsS.eqs q hqm
      rw [hq12] at hqs
      refine ⟨hsS.obj, hsS.objFree, mem_set hqs ⟨z1, fun s' hs' => ?_⟩⟩
      rcases List.mem_cons.1 hs' with rfl | hs'
      · exact hRS
      · exact z2 s' (by simp [hs'])
  · rw [EC_cond_true rfl]
    simp only [NV, reduceIte, Nat.reduceEqDiff, reduceCtorEq, Nat.one_ne_zero, Nat.zero_ne_one]
    repeat (first | refine st_eqT rfl rfl rfl rfl rfl rfl (by omega) ?_ | refine st_eqF rfl rfl rfl rfl rfl rfl (by omega) ?_ | refine st_add rfl rfl rfl rfl rfl rfl (by omega) ?_ | refine st_sub rfl rfl rfl rfl rfl rfl (by omega) ?_ | refine st_I rfl rfl rfl rfl rfl ?_ | refine st_B rfl rfl rfl rfl rfl ?_ | refine st_S rfl rfl rfl rfl rfl ?_ | refine st_P rfl rfl rfl rfl rfl ?_ | refine st_A rfl rfl rfl rfl rfl ?_)
    refine st_load1 rfl rfl rfl rfl rfl rfl hrE3 rfl (v := .slice ae q.es.length q.es.length) hce ?_
    repeat (first | refine st_eqT rfl rfl rfl rfl rfl rfl (by omega) ?_ | refine st_eqF rfl rfl rfl rfl rfl rfl (by omega) ?_ | refine st_add rfl rfl rfl rfl rfl rfl (by omega) ?_ | refine st_sub rfl rfl rfl rfl rfl rfl (by omega) ?_ | refine st_I rfl rfl rfl rfl rfl ?_ | refine st_B rfl rfl rfl rfl rfl ?_ | refine st_S rfl rfl rfl rfl rfl ?_ | refine st_P rfl rfl rfl rfl rfl ?_ | refine st_A rfl rfl rfl rfl rfl ?_)
    refine st_mks (cs := entC ⟨(y : Int) - 1, (y : Int) - 1, (y : Int) - 1, [49]⟩) rfl rfl rfl rfl rfl ?_
    have hx4 : Ext (n2 + 1) h3 (upd h3 (3 * (n2 + 1) + 2) (some (BF.row (entC ⟨(y : Int) - 1, (y : Int) - 1, (y : Int) - 1, [49]⟩) 37))) := Ext.upd (by omega)
    refine st_appF (m := 1) rfl rfl rfl rfl rfl rfl rfl rfl (by decide) (hgq.ext hx4 (Nat.le_succ _)) (argS_of (upd_same _ _ _) rfl rfl) (Nat.le_refl _) (by omega) rfl rfl (by show n ≤ n + 1 ∧ _; omega) ?_
    intro v' h5 hg5 hx5 hk5 hf5
    obtain ⟨a', rfl, _⟩ := hg5.shape
    repeat (first | refine st_eqT rfl rfl rfl rfl rfl rfl (by omega) ?_ | refine st_eqF rfl rfl rfl rfl rfl rfl (by omega) ?_ | refine st_add rfl rfl rfl rfl rfl rfl (by omega) ?_ | refine st_sub rfl rfl rfl rfl rfl rfl (by omega) ?_ | refine st_I rfl rfl rfl rfl rfl ?_ | refine st_B rfl rfl rfl rfl rfl ?_ | refine st_S rfl rfl rfl rfl rfl ?_ | refine st_P rfl rfl rfl rfl rfl ?_ | refine st_A rfl rfl rfl rfl rfl ?_)
    have hlt5 : h5 bE = _ := (hk5 bE (by omega) (fun o l c e => hdq _ _ _ _ _ _ e rfl rfl)).trans ((hx4 bE (by omega)).trans hrE3)
    refine st_storeN (off := j * 3) (cs := [.slice a' (q.es.length + 1) (q.es.length + 1)]) rfl rfl rfl rfl rfl rfl rfl rfl hlt5 (by omega) (by show 3 * n ≤ bE; omega) ?_
    simp only [NV, reduceIte, Nat.reduceEqDiff, reduceCtorEq, Nat.one_ne_zero, Nat.zero_ne_one]
    have hEE : ents q.es ++ entC ⟨(y : Int) - 1, (y : Int) - 1, (y : Int) - 1, [49]⟩ = ents (q.es ++ [⟨(y : Int) - 1, (y : Int) - 1, (y : Int) - 1, [49]⟩]) := by rw [ents_append]; simp [ents]
    obtain ⟨q1, q2, hq12, hR⟩ := (hD3.ext hx4 (Nat.le_succ _)).setE (E := (q.es ++ [⟨(y : Int) - 1, (y : Int) - 1, (y : Int) - 1, [49]⟩])) (ty := 35) hq (by omega) hce hk5 (Nat.le_succ _) (by rw [← hEE]; exact hg5.sl) hf5
    rw [splice_one _ _ _ (by omega)]
    refine cutx_mk ([.slice (some ⟨bB, 0, none⟩) p.blocks.length p.blocks.length, .int .i64 (p.free : Int), .slice aO p.obj.length p.obj.length, .slice aF p.free p.free, .slice (some ⟨bE, 0, none⟩) p.eqs.length p.eqs.length], { p with eqs := q1 ++ ⟨(q.es ++ [⟨(y : Int) - 1, (y : Int) - 1, (y : Int) - 1, [49]⟩]), q.fr, q.rhs⟩ :: q2 }, (p.free : Int)) ⟨rfl, trivial⟩ ⟨?_, by show n2 + 1 ≤ n2 + 1 + 1 + 1; omega, G_ext hG3 (((hx4.mono (by omega)).trans (hx5.mono (by omega)) (Nat.le_refl n)).trans (Ext.upd (n := n) (by omega)) (Nat.le_refl n)) hn, ⟨ty3, (upd_ne (by omega)).trans ((hk5 _ (by omega) (Below.ne hbq (by omega))).trans ((hx4 _ (by omega)).trans hr3))⟩, ⟨_, _, _, _, rfl, hR⟩, ?_, ?_⟩
    · rfl
    · have hqs := hsB.qs
      have hel := hsB.el
      obtain ⟨z1, z2, z3, z4⟩ := hsB.qs q hqm
      rw [hq12] at hqs hel
      refine ⟨hsB.bl, hsB.ol, hsB.fl, by simp at hel ⊢; omega, hsB.os, hsB.fs, mem_set hqs ⟨by simp; omega, z2, fun e he => ?_, z4⟩⟩
      rcases List.mem_append.1 he with he | he
      · exact z3 e he
      · rw [List.mem_singleton.1 he]; show ([49] : List UInt8).length < 1000000; decide
    · have hqs := hsS.eqs
      obtain ⟨z1, z2⟩ := hsS.eqs q hqm
      rw [hq12] at hqs
      refine ⟨hsS.obj, hsS.objFree, mem_set hqs ⟨fun e he => ?_, z2⟩⟩
      rcases List.mem_append.1 he with he | he
      · exact z1 e he
      · rw [List.mem_singleton.1 he]; exact .inl rfl
  · rw [EC_cond_true rfl]
    refine EC_draw [0, 0, 2, 6, 14, 0, 32, 96, 224, 510, 1023, 2047, 4095] rfl ?_
    repeat (first | refine dr_B rfl rfl rfl rfl rfl ?_ | refine dr_P rfl rfl rfl rfl rfl ?_)
    refine dr_load rfl rfl rfl rfl rfl rfl (load1_eq rfl hrE3 rfl (v := .slice ae q.es.length q.es.length) hce) rfl rfl ?_
    repeat (first | refine dr_B rfl rfl rfl rfl rfl ?_ | refine dr_P rfl rfl rfl rfl rfl ?_)
    refine dr_load rfl rfl rfl rfl rfl rfl (load1_eq rfl hrE3 rfl (v := .slice ae q.es.length q.es.length) hce) rfl rfl ?_
    by_cases hes : q.es.length = 0
    · refine dr_append rfl rfl rfl rfl rfl (show appendF _ _ _ _ (.slice ae q.es.length q.es.length) (.slice ae q.es.length q.es.length) = some (.val (.slice ae q.es.length q.es.length) h3 (n2 + 1) []) from by rw [hes]; exact append_zero rfl rfl rfl (by decide)) rfl rfl okLoads_nil (Nat.le_refl _) ?_
      repeat (first | refine dr_B rfl rfl rfl rfl rfl ?_ | refine dr_P rfl rfl rfl rfl rfl ?_)
      refine dr_storeN (off := j * 3) (cs := [.slice ae q.es.length q.es.length]) rfl rfl rfl rfl rfl rfl rfl rfl hrE3 (by omega) (by show 3 * n ≤ bE; omega) rfl rfl rfl ?_
      simp only [NV, reduceIte, Nat.reduceEqDiff, reduceCtorEq, Nat.one_ne_zero, Nat.zero_ne_one]
      have hsame : upd h3 bE (some (.row (spliceAt ce (j * 3) [Value.slice ae q.es.length q.es.length]) 35)) = h3 := by
        rw [show spliceAt ce (j * 3) [Value.slice ae q.es.length q.es.length] = ce.set (j * 3) (.slice ae q.es.length q.es.length) from splice_one _ _ _ (by omega)]
        obtain ⟨hl, he⟩ := List.getElem?_eq_some_iff.1 hce
        rw [← he, List.set_getElem_self]
        funext b
        by_cases hb : b = bE
        · subst hb; rw [upd_same]; exact hrE3.symm
        · exact upd_ne hb
      rw [hsame]
      exact cutx_mk ([.slice (some ⟨bB, 0, none⟩) p.blocks.length p.blocks.length, .int .i64 (p.free : Int), .slice aO p.obj.length p.obj.length, .slice aF p.free p.free, .slice (some ⟨bE, 0, none⟩) p.eqs.length p.eqs.length], p, (p.free : Int)) ⟨rfl, trivial⟩ ⟨rfl, Nat.le_refl _, hG3, ⟨ty3, hr3⟩, ⟨_, _, _, _, rfl, hD3.toR⟩, hsB, hsS⟩
    refine dr_app (mm := q.es.length) rfl rfl rfl rfl rfl rfl rfl rfl (by decide) rfl rfl rfl hgq (argS_sl hgq.sl) (by omega) (by omega) (ents_len _) (ones_ents _) (by show n ≤ n + 1 ∧ _; omega) ?_
    intro v' h5 W5 hg5 hx5 hk5 hf5
    obtain ⟨a', rfl, _⟩ := hg5.shape
    repeat (first | refine dr_B rfl rfl rfl rfl rfl ?_ | refine dr_P rfl rfl rfl rfl rfl ?_)
    have hlt5 : h5 bE = _ := (hk5 bE (by omega) (fun o l c e => hdq _ _ _ _ _ _ e rfl rfl)).trans hrE3
    refine dr_storeN (off := j * 3) (cs := [.slice a' (q.es.length + q.es.length) (q.es.length + q.es.length)]) rfl rfl rfl rfl rfl rfl rfl rfl hlt5 (by omega) (by show 3 * n ≤ bE; omega) rfl rfl rfl ?_
    simp only [NV, reduceIte, Nat.reduceEqDiff, reduceCtorEq, Nat.one_ne_zero, Nat.zero_ne_one]
    have hEE : ents q.es ++ ents q.es = ents (q.es ++ q.es) := by rw [ents_append]
    obtain ⟨q1, q2, hq12, hR⟩ := hD3.setE (E := (q.es ++ q.es)) (ty := 35) hq (by omega) hce hk5 (Nat.le_succ _) (by rw [← hEE]; exact hg5.sl) hf5
    rw [show spliceAt ce (j * 3) [Value.slice a' (q.es.length + q.es.length) (q.es.length + q.es.length)] = ce.set (j * 3) (.slice a' (q.es.length + q.es.length) (q.es.length + q.es.length)) from splice_one _ _ _ (by omega)]
    refine cutx_mk ([.slice (some ⟨bB, 0, none⟩) p.blocks.length p.blocks.length, .int .i64 (p.free : Int), .slice aO p.obj.length p.obj.length, .slice aF p.free p.free, .slice (some ⟨bE, 0, none⟩) p.eqs.length p.eqs.length], { p with eqs := q1 ++ ⟨(q.es ++ q.es), q.fr, q.rhs⟩ :: q2 }, (p.free : Int)) ⟨rfl, trivial⟩ ⟨?_, by show n2 + 1 ≤ n2 + 1 + 1; omega, G_ext hG3 ((hx5.mono (by omega)).trans (Ext.upd (n := n) (by omega)) (Nat.le_refl n)) hn, ⟨ty3, (upd_ne (by omega)).trans ((hk5 _ (by omega) (Below.ne hbq (by omega))).trans ((Ext.refl (n2 + 1) h3 _ (by omega)).trans hr3))⟩, ⟨_, _, _, _, rfl, hR⟩, ?_, ?_⟩
    · rfl
    · have hqs := hsB.qs
      have hel := hsB.el
      obtain ⟨z1, z2, z3, z4⟩ := hsB.qs q hqm
      rw [hq12] at hqs hel
      refine ⟨hsB.bl, hsB.ol, hsB.fl, by simp at hel ⊢; omega, hsB.os, hsB.fs, mem_set hqs ⟨by simp; omega, z2, fun e he => ?_, z4⟩⟩
      rcases List.mem_append.1 he with he | he <;> exact z3 e he
    · have hqs := hsS.eqs
      obtain ⟨z1, z2⟩ := hsS.eqs q hqm
      rw [hq12] at hqs
      refine ⟨hsS.obj, hsS.objFree, mem_set hqs ⟨fun e he => ?_, z2⟩⟩
      rcases List.mem_append.1 he with he | he <;> exact z1 e he
  · rw [EC_cond_true rfl]
    simp only [NV, reduceIte, Nat.reduceEqDiff, reduceCtorEq, Nat.one_ne_zero, Nat.zero_ne_one]
    repeat (first | refine st_load1 rfl rfl rfl rfl rfl rfl hr3 rfl rfl ?_ | refine st_eqT rfl rfl rfl rfl rfl rfl (by omega) ?_ | refine st_eqF rfl rfl rfl rfl rfl rfl (by omega) ?_ | refine st_add rfl rfl rfl rfl rfl rfl (by omega) ?_ | refine st_sub rfl rfl rfl rfl rfl rfl (by omega) ?_ | refine st_I rfl rfl rfl rfl rfl ?_ | refine st_B rfl rfl rfl rfl rfl ?_ | refine st_S rfl rfl rfl rfl rfl ?_ | refine st_P rfl rfl rfl rfl rfl ?_ | refine st_A rfl rfl rfl rfl rfl ?_)
    refine st_mks (cs := entC ⟨(p.blocks.length : Int) - 1, 0, 2 + ((y : Int) - 1), [48]⟩) rfl rfl rfl rfl rfl ?_
    have hx4 : Ext (n2 + 1) h3 (upd h3 (3 * (n2 + 1) + 2) (some (BF.row (entC ⟨(p.blocks.length : Int) - 1, 0, 2 + ((y : Int) - 1), [48]⟩) 37))) := Ext.upd (by omega)
    refine st_appF (m := 1) rfl rfl rfl rfl rfl rfl rfl rfl (by decide) (hD3.gO.ext hx4 (Nat.le_succ _)) (argS_of (upd_same _ _ _) rfl rfl) (Nat.le_refl _) (by omega) rfl rfl (by show n ≤ n + 1 ∧ _; omega) ?_
    intro v' h5 hg5 hx5 hk5 hf5
    obtain ⟨a', rfl, _⟩ := hg5.shape
    repeat (first | refine st_eqT rfl rfl rfl rfl rfl rfl (by omega) ?_ | refine st_eqF rfl rfl rfl rfl rfl rfl (by omega) ?_ | refine st_add rfl rfl rfl rfl rfl rfl (by omega) ?_ | refine st_sub rfl rfl rfl rfl rfl rfl (by omega) ?_ | refine st_I rfl rfl rfl rfl rfl ?_ | refine st_B rfl rfl rfl rfl rfl ?_ | refine st_S rfl rfl rfl rfl rfl ?_ | refine st_P rfl rfl rfl rfl rfl ?_ | refine st_A rfl rfl rfl rfl rfl ?_)
    have hr5 : h5 (3 * n2 + 2) = _ := (hk5 _ (by omega) (Below.ne hD.gO.below (by omega))).trans ((hx4 _ (by omega)).trans hr3)
    refine st_storeN (cs := [.slice a' (p.obj.length + 1) (p.obj.length + 1)]) rfl rfl rfl rfl rfl rfl rfl rfl hr5 (Nat.le_of_ble_eq_true rfl) (by show 3 * n ≤ 3 * n2 + 2; omega) ?_
    simp only [NV, reduceIte, Nat.reduceEqDiff, reduceCtorEq, Nat.one_ne_zero, Nat.zero_ne_one]
    have hEE : ents p.obj ++ entC ⟨(p.blocks.length : Int) - 1, 0, 2 + ((y : Int) - 1), [48]⟩ = ents (p.obj ++ [⟨(p.blocks.length : Int) - 1, 0, 2 + ((y : Int) - 1), [48]⟩]) := by rw [ents_append]; simp [ents]
    refine cutx_mk ([.slice (some ⟨bB, 0, none⟩) p.blocks.length p.blocks.length, .int .i64 (p.free : Int), .slice a' (p.obj.length + 1) (p.obj.length + 1), .slice aF p.free p.free, .slice (some ⟨bE, 0, none⟩) p.eqs.length p.eqs.length], { p with obj := p.obj ++ [⟨(p.blocks.length : Int) - 1, 0, 2 + ((y : Int) - 1), [48]⟩] }, (p.free : Int)) ⟨rfl, trivial⟩ ⟨rfl, by show n2 + 1 ≤ n2 + 1 + 1 + 1; omega, G_ext hG3 (((hx4.mono (by omega)).trans (hx5.mono (by omega)) (Nat.le_refl n)).trans (Ext.upd (n := n) (by omega)) (Nat.le_refl n)) hn, ⟨ty3, upd_same _ _ _⟩, ⟨_, _, _, _, rfl, hD.setO (n' := n2 + 1 + 1 + 1) (fun b hb hne => (upd_ne (by omega)).trans ((hk5 b (by omega) hne).trans ((hx4 b (by omega)).trans (hx23 b hb)))) (by omega) ?_⟩, ?_, ?_⟩
    · rw [← hEE]
      exact hg5.sl.keep (fun a l c e => upd_ne (by have h7 := Pt.of_fresh hf5 a l c e; omega)) (Nat.le_refl _)
    · refine ⟨hsB.bl, by show (p.obj ++ _).length < _; simp; omega, hsB.fl, hsB.el, fun e he => ?_, hsB.fs, hsB.qs⟩
      rcases List.mem_append.1 he with he | he
      · exact hsB.os e he
      · rw [List.mem_singleton.1 he]; show ([48] : List UInt8).length < 1000000; decide
    · refine ⟨fun e he => ?_, hsS.objFree, hsS.eqs⟩
      rcases List.mem_append.1 he with he | he
      · exact hsS.obj e he
      · rw [List.mem_singleton.1 he]; exact .inl rfl
  · rw [EC_cond_true rfl]
    simp only [NV, reduceIte, Nat.reduceEqDiff, reduceCtorEq, Nat.one_ne_zero, Nat.zero_ne_one]
    repeat (first | refine st_load1 rfl rfl rfl rfl rfl rfl hr3 rfl rfl ?_ | refine st_eqT rfl rfl rfl rfl rfl rfl (by omega) ?_ | refine st_eqF rfl rfl rfl rfl rfl rfl (by omega) ?_ | refine st_add rfl rfl rfl rfl rfl rfl (by omega) ?_ | refine st_sub rfl rfl rfl rfl rfl rfl (by omega) ?_ | refine st_I rfl rfl rfl rfl rfl ?_ | refine st_B rfl rfl rfl rfl rfl ?_ | refine st_S rfl rfl rfl rfl rfl ?_ | refine st_P rfl rfl rfl rfl rfl ?_ | refine st_A rfl rfl rfl rfl rfl ?_)
    refine st_mks (cs := [.string ⟨⟨[49]⟩⟩]) rfl rfl rfl rfl rfl ?_
    have hx4 : Ext (n2 + 1) h3 (upd h3 (3 * (n2 + 1) + 2) (some (BF.row ([.string ⟨⟨[49]⟩⟩]) 9))) := Ext.upd (by omega)
    refine st_appF (m := 1) rfl rfl rfl rfl rfl rfl rfl rfl (by decide) (hD3.gF.ext hx4 (Nat.le_succ _)) (argS_of (upd_same _ _ _) rfl rfl) (Nat.le_refl _) (by omega) rfl rfl (by show n ≤ n + 1 ∧ _; omega) ?_
    intro v' h5 hg5 hx5 hk5 hf5
    obtain ⟨a', rfl, _⟩ := hg5.shape
    repeat (first | refine st_eqT rfl rfl rfl rfl rfl rfl (by omega) ?_ | refine st_eqF rfl rfl rfl rfl rfl rfl (by omega) ?_ | refine st_add rfl rfl rfl rfl rfl rfl (by omega) ?_ | refine st_sub rfl rfl rfl rfl rfl rfl (by omega) ?_ | refine st_I rfl rfl rfl rfl rfl ?_ | refine st_B rfl rfl rfl rfl rfl ?_ | refine st_S rfl rfl rfl rfl rfl ?_ | refine st_P rfl rfl rfl rfl rfl ?_ | refine st_A rfl rfl rfl rfl rfl ?_)
    have hr5 : h5 (3 * n2 + 2) = _ := (hk5 _ (by omega) (Below.ne hD.gF.below (by omega))).trans ((hx4 _ (by omega)).trans hr3)
    refine st_storeN (cs := [.slice a' (p.free + 1) (p.free + 1)]) rfl rfl rfl rfl rfl rfl rfl rfl hr5 (Nat.le_of_ble_eq_true rfl) (by show 3 * n ≤ 3 * n2 + 2; omega) ?_
    simp only [NV, reduceIte, Nat.reduceEqDiff, reduceCtorEq, Nat.one_ne_zero, Nat.zero_ne_one]
    have hEE : strs p.objFree ++ [.string ⟨⟨[49]⟩⟩] = strs (p.objFree ++ [[49]]) := by simp [strs]
    refine cutx_mk ([.slice (some ⟨bB, 0, none⟩) p.blocks.length p.blocks.length, .int .i64 (p.free : Int), .slice aO p.obj.length p.obj.length, .slice a' (p.free + 1) (p.free + 1), .slice (some ⟨bE, 0, none⟩) p.eqs.length p.eqs.length], { p with objFree := p.objFree ++ [[49]] }, (p.free : Int)) ⟨rfl, trivial⟩ ⟨rfl, by show n2 + 1 ≤ n2 + 1 + 1 + 1; omega, G_ext hG3 (((hx4.mono (by omega)).trans (hx5.mono (by omega)) (Nat.le_refl n)).trans (Ext.upd (n := n) (by omega)) (Nat.le_refl n)) hn, ⟨ty3, upd_same _ _ _⟩, ⟨_, _, _, _, rfl, hD.setF (n' := n2 + 1 + 1 + 1) (fun b hb hne => (upd_ne (by omega)).trans ((hk5 b (by omega) hne).trans ((hx4 b (by omega)).trans (hx23 b hb)))) (by omega) ?_⟩, ?_, ?_⟩
    · rw [← hEE]
      exact hg5.sl.keep (fun a l c e => upd_ne (by have h7 := Pt.of_fresh hf5 a l c e; omega)) (Nat.le_refl _)
    · refine ⟨hsB.bl, hsB.ol, by show (p.objFree ++ _).length < _; simp; omega, hsB.el, hsB.os, fun s hs => ?_, hsB.qs⟩
      rcases List.mem_append.1 hs with hs | hs
      · exact hsB.fs s hs
      · rw [List.mem_singleton.1 hs]; decide
    · refine ⟨hsS.obj, fun s hs => ?_, hsS.eqs⟩
      rcases List.mem_append.1 hs with hs | hs
      · exact hsS.objFree s hs
      · rw [List.mem_singleton.1 hs]; exact .inl rfl
  · rw [EC_cond_false rfl]
    simp only [NV, reduceIte, Nat.reduceEqDiff, reduceCtorEq, Nat.one_ne_zero, Nat.zero_ne_one]
    repeat (first | refine st_load1 rfl rfl rfl rfl rfl rfl hr3 rfl rfl ?_ | refine st_eqT rfl rfl rfl rfl rfl rfl (by omega) ?_ | refine st_eqF rfl rfl rfl rfl rfl rfl (by omega) ?_ | refine st_add rfl rfl rfl rfl rfl rfl (by omega) ?_ | refine st_sub rfl rfl rfl rfl rfl rfl (by omega) ?_ | refine st_I rfl rfl rfl rfl rfl ?_ | refine st_B rfl rfl rfl rfl rfl ?_ | refine st_S rfl rfl rfl rfl rfl ?_ | refine st_P rfl rfl rfl rfl rfl ?_ | refine st_A rfl rfl rfl rfl rfl ?_)
    refine st_sliceHi (p.blocks.length - 1) rfl rfl rfl rfl rfl rfl rfl rfl (by omega) (by omega) ?_
    repeat (first | refine st_eqT rfl rfl rfl rfl rfl rfl (by omega) ?_ | refine st_eqF rfl rfl rfl rfl rfl rfl (by omega) ?_ | refine st_add rfl rfl rfl rfl rfl rfl (by omega) ?_ | refine st_sub rfl rfl rfl rfl rfl rfl (by omega) ?_ | refine st_I rfl rfl rfl rfl rfl ?_ | refine st_B rfl rfl rfl rfl rfl ?_ | refine st_S rfl rfl rfl rfl rfl ?_ | refine st_P rfl rfl rfl rfl rfl ?_ | refine st_A rfl rfl rfl rfl rfl ?_)
    refine st_storeN (cs := [.slice (some ⟨bB, 0, none⟩) (p.blocks.length - 1) p.blocks.length]) rfl rfl rfl rfl rfl rfl rfl rfl hr3 (Nat.le_of_ble_eq_true rfl) (by show 3 * n ≤ 3 * n2 + 2; omega) ?_
    simp only [NV, reduceIte, Nat.reduceEqDiff, reduceCtorEq, Nat.one_ne_zero, Nat.zero_ne_one]
    refine cutx_mk ([.slice (some ⟨bB, 0, none⟩) (p.blocks.length - 1) p.blocks.length, .int .i64 (p.free : Int), .slice aO p.obj.length p.obj.length, .slice aF p.free p.free, .slice (some ⟨bE, 0, none⟩) p.eqs.length p.eqs.length], { p with blocks := p.blocks.take (p.blocks.length - 1) }, (p.free : Int)) ⟨rfl, trivial⟩ ⟨rfl, Nat.le_refl _, G_ext hG3 (Ext.upd (n := n) (by omega)) hn, ⟨ty3, upd_same _ _ _⟩, ⟨_, _, _, _, rfl, hD.setB (n' := n2 + 1) (fun b hb hne => (upd_ne (by omega)).trans (hx23 b hb)) (by omega) ?_⟩, ?_, ?_⟩
    · have := ((hD.gB.sl.ext (hx23.trans (Ext.upd (n := n2) (b := 3 * n2 + 2) (x := some (.row ([.slice (some ⟨bB, 0, none⟩) (p.blocks.length - 1) p.blocks.length, .int .i64 (p.free : Int), .slice aO p.obj.length p.obj.length, .slice aF p.free p.free, .slice (some ⟨bE, 0, none⟩) p.eqs.length p.eqs.length]) ty3)) (by omega)) (Nat.le_refl _)) (Nat.le_succ n2)).take (p.blocks.length - 1) (by omega))
      simp only [Nat.mul_one] at this
      rw [show i64s (p.blocks.take (p.blocks.length - 1)) = (i64s p.blocks).take (p.blocks.length - 1) from by simp [i64s, List.map_take]]
      exact this
    · exact ⟨by show (p.blocks.take _).length < _; rw [List.length_take]; omega, hsB.ol, hsB.fl, hsB.el, hsB.os, hsB.fs, hsB.qs⟩
    · exact ⟨hsS.obj, hsS.objFree, hsS.eqs⟩
end Go.Proofs.YtokfihhdllmbmaaGreatDoor
namespace Go.Proofs.YtokfihhdllmbmaaGreatDoor
open Go Go.GL
def upFn (nm : Nat → Nat) : Fn → Fn
  | .yield l => .yield (nm l)
  | f => f
mutual
def up (nm : Nat → Nat) : Value → Value
  | .pointer (some a) => .pointer (some ⟨nm a.block, a.off, a.spot⟩)
  | .slice (some a) l c => .slice (some ⟨nm a.block, a.off, a.spot⟩) l c
  | .func f a b => .func (upFn nm f) (upA nm a) (upA nm b)
  | .agg cs => .agg (upA nm cs)
  | .tuple cs => .tuple (upA nm cs)
  | v => v
def upA (nm : Nat → Nat) : Array Value → Array Value
  | ⟨l⟩ => ⟨upL nm l⟩
def upL (nm : Nat → Nat) : List Value → List Value
  | [] => []
  | v :: r => up nm v :: upL nm r
end
mutual
theorem conc_up {ρ : Ren} {nm : Nat → Nat} (hb : ∀ b, ρ.b (nm b) = b) (hx : ∀ b, ρ.x (nm b) = 0) : ∀ v : Value, conc ρ (up nm v) = v
  | .pointer none => rfl
  | .pointer (some a) => by simp [up, conc, Ren.addr, hb]
  | .slice none _ _ => rfl
  | .slice (some a) l c => by simp [up, conc, Ren.addr, hb, hx]
  | .func f a b => by
    have h1 : ρ.fn (upFn nm f) = f := by cases f <;> simp [upFn, Ren.fn, hb]
    simp only [up, conc, h1, concA_up hb hx a, concA_up hb hx b]
  | .agg cs => by simp only [up, conc, concA_up hb hx cs]
  | .tuple cs => by simp only [up, conc, concA_up hb hx cs]
  | .bool _ => by simp [up, conc]
  | .int _ _ => by simp [up, conc]
  | .float _ _ => by simp [up, conc]
  | .complex _ _ _ => by simp [up, conc]
  | .string _ => by simp [up, conc]
  | .map _ => by simp [up, conc]
  | .chan _ => by simp [up, conc]
  | .nilFunc => by simp [up, conc]
  | .nilIface => by simp [up, conc]
  | .iface _ _ => by simp [up, conc]
theorem concA_up {ρ : Ren} {nm : Nat → Nat} (hb : ∀ b, ρ.b (nm b) = b) (hx : ∀ b, ρ.x (nm b) = 0) : ∀ a : Array Value, concA ρ (upA nm a) = a
  | ⟨l⟩ => by simp only [upA, concA, concL_up hb hx l]
theorem concL_up {ρ : Ren} {nm : Nat → Nat} (hb : ∀ b, ρ.b (nm b) = b) (hx : ∀ b, ρ.x (nm b) = 0) : ∀ l : List Value, concL ρ (upL nm l) = l
  | [] => rfl
  | v :: r => by simp only [upL, concL, conc_up hb hx v, concL_up hb hx r]
end
def bdFn : Fn → Nat
  | .yield l => l + 1
  | _ => 0
mutual
def bd : Value → Nat
  | .pointer (some a) => a.block + 1
  | .slice (some a) _ _ => a.block + 1
  | .func f a b => bdFn f + bdA a + bdA b
  | .agg cs => bdA cs
  | .tuple cs => bdA cs
  | _ => 0
def bdA : Array Value → Nat
  | ⟨l⟩ => bdL l
def bdL : List Value → Nat
  | [] => 0
  | v :: r => bd v + bdL r
end
theorem addr_agr {m : Nat} {ρ ρ' : Ren} (ha : Agr m ρ ρ') {a : Addr} (h : a.block < m) : ρ'.addr a = ρ.addr a := by
  unfold Ren.addr
  rw [(ha _ h).1]
mutual
theorem nb_bd : ∀ (v : Value) (m : Nat), bd v ≤ m → Nb m v
  | .pointer none, m, _ => fun ρ ρ' _ => by simp
  | .pointer (some a), m, h => fun ρ ρ' ha => by
    simp only [bd] at h
    simp only [conc, addr_agr ha (show a.block < m by omega)]
  | .slice none _ _, m, _ => fun ρ ρ' _ => by simp
  | .slice (some a) l c, m, h => fun ρ ρ' ha => by
    simp only [bd] at h
    simp only [conc, addr_agr ha (show a.block < m by omega), (ha _ (show a.block < m by omega)).2]
  | .func f a b, m, h => fun ρ ρ' ha => by
    simp only [bd] at h
    have h1 : ρ'.fn f = ρ.fn f := by
      cases f <;> simp [Ren.fn]
      rename_i l
      exact (ha l (by simp only [bdFn] at h; omega)).1
    simp only [conc, h1, nbA_bd a m (by omega) ρ ρ' ha, nbA_bd b m (by omega) ρ ρ' ha]
  | .agg cs, m, h => fun ρ ρ' ha => by
    simp only [bd] at h
    simp only [conc, nbA_bd cs m h ρ ρ' ha]
  | .tuple cs, m, h => fun ρ ρ' ha => by
    simp only [bd] at h
    simp only [conc, nbA_bd cs m h ρ ρ' ha]
  | .bool _, m, _ => fun ρ ρ' _ => by simp [conc]
  | .int _ _, m, _ => fun ρ ρ' _ => by simp [conc]
  | .float _ _, m, _ => fun ρ ρ' _ => by simp [conc]
  | .complex _ _ _, m, _ => fun ρ ρ' _ => by simp [conc]
  | .string _, m, _ => fun ρ ρ' _ => by simp [conc]
  | .map _, m, _ => fun ρ ρ' _ => by simp [conc]
  | .chan _, m, _ => fun ρ ρ' _ => by simp [conc]
  | .nilFunc, m, _ => fun ρ ρ' _ => by simp [conc]
  | .nilIface, m, _ => fun ρ ρ' _ => by simp [conc]
  | .iface _ _, m, _ => fun ρ ρ' _ => by simp [conc]
theorem nbA_bd : ∀ (a : Array Value) (m : Nat), bdA a ≤ m → ∀ ρ ρ' : Ren, Agr m ρ ρ' → concA ρ' a = concA ρ a
  | ⟨l⟩, m, h => fun ρ ρ' ha => by
    simp only [bdA] at h
    simp only [concA, nbL_bd l m h ρ ρ' ha]
theorem nbL_bd : ∀ (l : List Value) (m : Nat), bdL l ≤ m → ∀ ρ ρ' : Ren, Agr m ρ ρ' → concL ρ' l = concL ρ l
  | [], m, _ => fun ρ ρ' _ => rfl
  | v :: r, m, h => fun ρ ρ' ha => by
    simp only [bdL] at h
    simp only [concL, nb_bd v m (by omega) ρ ρ' ha, nbL_bd r m (by omega) ρ ρ' ha]
end
theorem bd_mem : ∀ {l : List Value} {v : Value}, v ∈ l → bd v ≤ bdL l := by
  intro l
  induction l with
  | nil => intro v hv; cases hv
  | cons a l ih =>
    intro v hv
    simp only [bdL]
    rcases List.mem_cons.1 hv with rfl | hv
    · omega
    · have := ih hv; omega
def cellsAt (W : World) (b : Nat) : Option (List Value) := match W.heap[b]? with | some (.cells c _ _) => some c.toList | _ => none
noncomputable def wh (nm : Nat → Nat) (W : World) : Nat → Hp
  | 0 => .lf
  | k + 1 => match cellsAt W k with | some c => Tr.put (wh nm W k) (nm k) (some (.ro (c.map (up nm)))) | none => wh nm W k
theorem wh_at {nm : Nat → Nat} (hi : ∀ a b, nm a = nm b → a = b) (W : World) : ∀ k x y, (wh nm W k).at x = some y ↔ ∃ b, b < k ∧ x = nm b ∧ ∃ c, cellsAt W b = some c ∧ y = .ro (c.map (up nm)) := by
  intro k
  induction k with
  | zero =>
    intro x y
    constructor
    · intro h; cases h
    · rintro ⟨b, hb, _⟩; omega
  | succ k ih =>
    intro x y
    unfold wh
    cases hc : cellsAt W k with
    | none =>
      simp only
      rw [ih]
      constructor
      · rintro ⟨b, hb, h⟩; exact ⟨b, by omega, h⟩
      · rintro ⟨b, hb, rfl, c, h1, h2⟩
        have : b ≠ k := fun e => by rw [e, hc] at h1; cases h1
        exact ⟨b, by omega, rfl, c, h1, h2⟩
    | some c =>
      simp only
      show Tr.get none (Tr.put (wh nm W k) (nm k) _) x = some y ↔ _
      rw [Tr.get_put none rfl]
      by_cases hx : x = nm k
      · rw [if_pos hx]
        constructor
        · intro h; injection h with h; exact ⟨k, by omega, hx, c, hc, h.symm⟩
        · rintro ⟨b, hb, e, c', h1, h2⟩
          have hbk : b = k := hi _ _ (e.symm.trans hx)
          rw [hbk, hc] at h1
          injection h1 with h1
          rw [h2, h1]
      · rw [if_neg hx]
        show (wh nm W k).at x = some y ↔ _
        rw [ih]
        constructor
        · rintro ⟨b, hb, h⟩; exact ⟨b, by omega, h⟩
        · rintro ⟨b, hb, e, h⟩
          have : b ≠ k := fun ee => hx (by rw [e, ee])
          exact ⟨b, by omega, e, h⟩
def nm (b : Nat) : Nat := if b = 0 ∨ b = 3 ∨ b = 4 then 3 * b else 3 * b + 2
theorem nm_inj (a b : Nat) (h : nm a = nm b) : a = b := by
  unfold nm at h
  split at h <;> split at h <;> omega
def ren0 : Ren := ⟨fun x => x / 3, fun _ => 0, fun _ _ => rfl, fun g => by simp⟩
theorem ren0_nm (b : Nat) : ren0.b (nm b) = b := by
  unfold nm ren0
  split <;> simp <;> omega
theorem nm_lt {b n : Nat} (h : b < n) : nm b < 3 * n := by
  unfold nm
  split <;> omega
noncomputable def wH (W : World) : Hp := wh nm W W.heap.size
theorem wH_sim (W : World) : Sim rel ren0 (wH W) W := by
  refine ⟨fun x y h => ?_, fun x x' h h' e => ?_⟩
  · obtain ⟨b, hb, rfl, c, hc, rfl⟩ := (wh_at nm_inj W _ _ _).1 h
    unfold cellsAt at hc
    split at hc
    · rename_i c' e fz hW
      injection hc with hc
      subst hc
      refine ⟨_, by rw [ren0_nm]; exact hW, e, fz, ?_⟩
      rw [List.map_map]
      have : (c'.toList.map (conc ren0 ∘ up nm)) = c'.toList := by
        conv => rhs; rw [← List.map_id c'.toList]
        exact List.map_congr_left fun v _ => conc_up ren0_nm (fun _ => rfl) v
      rw [this]
    · cases hc
  · obtain ⟨y, hy⟩ := Option.isSome_iff_exists.1 h
    obtain ⟨y', hy'⟩ := Option.isSome_iff_exists.1 h'
    obtain ⟨b, _, rfl, _⟩ := (wh_at nm_inj W _ _ _).1 hy
    obtain ⟨b', _, rfl, _⟩ := (wh_at nm_inj W _ _ _).1 hy'
    rw [ren0_nm, ren0_nm] at e
    rw [e]
theorem wH_nb (W : World) (args : List Value) : ∃ n, 20 ≤ n ∧ W.heap.size ≤ n ∧ HNb (3 * n) (wH W) ∧ ∀ v ∈ args, Nb (3 * n) v := by
  have key : ∀ k, ∃ m, ∀ b, b < k → ∀ c, cellsAt W b = some c → bdL (c.map (up nm)) ≤ m := by
    intro k
    induction k with
    | zero => exact ⟨0, fun b hb => by omega⟩
    | succ k ih =>
      obtain ⟨m, hm⟩ := ih
      cases hc : cellsAt W k with
      | none => exact ⟨m, fun b hb c h => hm b (by have : b ≠ k := fun e => by rw [e, hc] at h; cases h
                                                   omega) c h⟩
      | some c' =>
        refine ⟨m + bdL (c'.map (up nm)), fun b hb c h => ?_⟩
        by_cases hbk : b = k
        · rw [hbk, hc] at h; injection h with h; subst h; omega
        · have := hm b (by omega) c h; omega
  obtain ⟨m, hm⟩ := key W.heap.size
  refine ⟨20 + W.heap.size + m + bdL args, by omega, by omega, fun x y h => ?_, fun v hv => nb_bd v _ (by have := bd_mem hv; omega)⟩
  obtain ⟨b, hb, rfl, c, hc, rfl⟩ := (wh_at nm_inj W _ _ _).1 h
  exact ⟨nm_lt (by omega), fun v hv => nb_bd v _ (by have := bd_mem hv; have := hm b hb c hc; omega)⟩
theorem wH_block {W : World} {b : Nat} {c : Array Value} {e : TypeId} {fz : Nat × Nat} (h : W.heap[b]? = some (.cells c e fz)) : hv (wH W) (nm b) = some (.ro (c.toList.map (up nm))) := by
  have hb : b < W.heap.size := by
    rcases Nat.lt_or_ge b W.heap.size with h' | h'
    · exact h'
    · rw [Array.getElem?_eq_none h'] at h; cases h
  exact hv_at ((wh_at nm_inj W _ _ _).2 ⟨b, hb, rfl, _, by unfold cellsAt; rw [h], rfl⟩)
theorem calls_true {W : World} (f : FuncId) (args : List Value) (k : Nat) (hrun : ∀ n, 20 ≤ n → W.heap.size ≤ n → (∀ v ∈ args.map (up nm), Nb (3 * n) v) → VF (cal k) f (args.map (up nm)) (hv (wH W)) n fun v => v = .bool true) :
    Calls Tryz.prog f args.toArray W fun e w' => e = .returned (.bool true) ∧ RowKit.Below W.heap.size W w' := by
  obtain ⟨n, hn, hs, hnb, ha⟩ := wH_nb W (args.map (up nm))
  obtain ⟨v, h', n', w, hc, e1, e2, e3, e4⟩ := hrun n hn hs ha
  rw [e1, e2, e3, e4] at hc
  obtain ⟨⟨v2, h2, n2, w2⟩, hx, hy⟩ := (cal_sim k).call f (args.map (up nm)) (wH W) n _ hc
  obtain ⟨e1, e2, e3, e4⟩ : v2 = .bool true ∧ hv h2 = hv (wH W) ∧ n2 = n ∧ w2 = [] := by
    simpa [rv] using hy
  subst e1 e3 e4
  obtain ⟨_, hcall⟩ := (cal_ok k).call _ _ _ _ _ _ _ _ hx 0 ren0 W (wH_sim W) hnb ha
  have hargs : ((args.map (up nm)).map (conc ren0)) = args := by
    rw [List.map_map]
    conv => rhs; rw [← List.map_id args]
    exact List.map_congr_left fun v _ => conc_up ren0_nm (fun _ => rfl) v
  rw [hargs] at hcall
  refine (callsIn_wide.1 hcall).mono fun e w' ⟨ρ', he, hp⟩ => ⟨by rw [he]; simp, ?_⟩
  exact ⟨hp.os, hp.tape, hp.out, hp.size, fun j hj => hp.fr j hj fun b hb => absurd hb List.not_mem_nil⟩
end Go.Proofs.YtokfihhdllmbmaaGreatDoor
namespace Go.Proofs.YtokfihhdllmbmaaGreatDoor
open Go Go.GL Go.ChangeShapes Go.WideShapes Go.RowKit
set_option maxRecDepth 100000
theorem int_of_trod {H : Type} {enc : TypeId × Value → H} {P : Program} {w : World} {base : Nat} {sp : Nat → Bool} {held : Bool} {fuel : Nat} {t : TypeId} {k : IntKind} {c : Value} {y : DataW H × List MemPlace}
    (ht : P.underlying t = some (.int k)) (h : DataW.trod enc P w base sp held fuel t [c] = some y) : ∃ n, c = .int k n ∧ y = (.lit (.int k n), []) := by
  cases fuel with
  | zero => simp [DataW.trod] at h
  | succ fuel =>
    cases c <;> simp [DataW.trod, ht] at h
    rename_i k' n
    obtain ⟨⟨rfl, _⟩, rfl⟩ := h
    exact ⟨n, rfl, rfl⟩
theorem array_of_trod {H : Type} {enc : TypeId × Value → H} {P : Program} {w : World} {base : Nat} {sp : Nat → Bool} {held : Bool} {fuel n : Nat} {t e : TypeId} {k : IntKind} {cs : List Value} {l : List Int} {p : List MemPlace}
    (ht : P.underlying t = some (.array n e)) (he : P.underlying e = some (.int k)) (hce : P.cellsOf e = 1) (hct : P.cellsOf t = n)
    (h : DataW.trod enc P w base sp held fuel t cs = some (.agg (l.map fun z => .lit (.int k z)), p)) : cs = l.map fun z => Value.int k z := by
  cases fuel with
  | zero => simp [DataW.trod] at h
  | succ fuel =>
    simp only [DataW.trod, ht] at h
    split at h
    · rename_i hl
      rw [hct] at hl
      rw [Option.map_eq_some_iff] at h
      obtain ⟨xs, hx, hy⟩ := h
      simp only [Prod.mk.injEq, DataW.agg.injEq] at hy
      obtain ⟨hy, _⟩ := hy
      have hlen := mapM_some_length hx
      rw [List.length_range] at hlen
      have hll : l.length = n := by
        have := congrArg List.length hy
        simp at this
        omega
      apply List.ext_getElem?
      intro i
      by_cases hi : i < n
      · have hg := mapM_some_get hx i i (by simp [hi])
        obtain ⟨y, hxi⟩ : ∃ y, xs[i]? = some y := ⟨xs[i]'(by omega), List.getElem?_eq_getElem (by omega)⟩
        rw [hxi, hce, Nat.mul_one] at hg
        have hd : (cs.drop i).take 1 = [cs[i]'(by omega)] := by
          rw [List.drop_eq_getElem_cons (by omega)]
          rfl
        rw [hd] at hg
        obtain ⟨z, hz, rfl⟩ := int_of_trod he hg
        have h2 := congrArg (fun q => q[i]?) hy
        simp only [List.getElem?_map, hxi, Option.map_some] at h2
        obtain ⟨z', hz'⟩ : ∃ z', l[i]? = some z' := ⟨l[i]'(by omega), List.getElem?_eq_getElem (by omega)⟩
        rw [hz'] at h2
        simp only [Option.map_some, Option.some.injEq, DataW.lit.injEq, Lit.int.injEq, true_and] at h2
        rw [List.getElem?_eq_getElem (by omega), hz, List.getElem?_map, hz', h2]
        rfl
      · rw [List.getElem?_eq_none (by omega), List.getElem?_eq_none (by simp; omega)]
    · cases h
theorem var_block {P : Program} {W : World} {nme : String} {g : Nat} {cs : Array Value} (hg : P.globalNamed nme = some g) (hv : W.var? P nme = some cs) : ∃ e fz, W.heap[g]? = some (.cells cs e fz) := by
  unfold World.var? at hv
  rw [hg] at hv
  simp only [Option.bind_some] at hv
  split at hv
  · rename_i cs' e fz h
    injection hv with hv
    subst hv
    exact ⟨e, fz, h⟩
  · cases hv
theorem up_u (nm : Nat → Nat) (k : IntKind) (l : List Int) : (GK.u k l).map (up nm) = GK.u k l := by
  unfold GK.u
  rw [List.map_map]
  exact List.map_congr_left fun z _ => rfl
def laid3 : List (String × DataW Unit) := Rows.sdpValidRow.laid
def laidName (i : Nat) : String := match laid3[i]? with | some x => x.1 | none => ""
theorem g32 : Tryz.prog.globalNamed (laidName 0) = some 4 := by kernel_rfl
theorem g64 : Tryz.prog.globalNamed (laidName 1) = some 0 := by kernel_rfl
theorem g10 : Tryz.prog.globalNamed (laidName 2) = some 3 := by kernel_rfl
def isTab (t : TypeId) (n : Nat) (k : IntKind) : Prop := ∃ e, Tryz.prog.underlying t = some (.array n e) ∧ Tryz.prog.underlying e = some (.int k) ∧ Tryz.prog.cellsOf e = 1 ∧ Tryz.prog.cellsOf t = n
theorem tab_block {W : World} {nme : String} {g t n fuel : Nat} {k : IntKind} {l : List Int} {cs : Array Value} {p : List MemPlace} (hg : Tryz.prog.globalNamed nme = some g) (hvar : W.var? Tryz.prog nme = some cs) (hT : isTab t n k)
    (hd : DataW.trod (fun _ => ()) Tryz.prog W 0 (fun _ => true) false fuel t cs.toList = some (.agg (l.map fun z => .lit (.int k z)), p)) : hv (wH W) (nm g) = some (.ro (GK.u k l)) := by
  obtain ⟨e, h1, h2, h3, h4⟩ := hT
  have hc := array_of_trod h1 h2 h3 h4 hd
  obtain ⟨e', fz, hb⟩ := var_block hg hvar
  have := wH_block hb
  rw [this, hc]
  show some (BF.ro ((GK.u k l).map (up nm))) = _
  rw [up_u]
theorem ty32 : (Tryz.prog.globals[4]?).map (·.type) = some 350 := by kernel_rfl
theorem ty64 : (Tryz.prog.globals[0]?).map (·.type) = some 329 := by kernel_rfl
theorem ty10 : (Tryz.prog.globals[3]?).map (·.type) = some 333 := by kernel_rfl
theorem tab32 : isTab 350 32 .u8 := ⟨5, by kernel_rfl, by kernel_rfl, by kernel_rfl, by kernel_rfl⟩
theorem tab64 : isTab 329 64 .u8 := ⟨5, by kernel_rfl, by kernel_rfl, by kernel_rfl, by kernel_rfl⟩
theorem tab10 : isTab 333 20 .u64 := ⟨222, by kernel_rfl, by kernel_rfl, by kernel_rfl, by kernel_rfl⟩
theorem G_of_laid {W : World} (h : laidMet Tryz.prog laid3 W) : GK.G (hv (wH W)) := by
  obtain ⟨ps, hL, _, _⟩ := h
  obtain ⟨g1, t1, cs1, fu1, p1, q1, e1, u1, v1, d1, hL, _⟩ := hL
  obtain ⟨g2, t2, cs2, fu2, p2, q2, e2, u2, v2, d2, hL, _⟩ := hL
  obtain ⟨g3, t3, cs3, fu3, p3, q3, e3, u3, v3, d3, _, _⟩ := hL
  obtain rfl := Option.some.inj (g32.symm.trans e1)
  obtain rfl := Option.some.inj (g64.symm.trans e2)
  obtain rfl := Option.some.inj (g10.symm.trans e3)
  obtain rfl := Option.some.inj (ty32.symm.trans u1)
  obtain rfl := Option.some.inj (ty64.symm.trans u2)
  obtain rfl := Option.some.inj (ty10.symm.trans u3)
  exact ⟨tab_block e2 v2 tab64 d2, tab_block e3 v3 tab10 d3, tab_block e1 v1 tab32 d1⟩
theorem ints_arg {H : Type} {enc : TypeId × Value → H} {W : World} {base n : Nat} {t e : TypeId} {v : Value} {d : DataW H} {p : List MemPlace} (ht : Tryz.prog.underlying t = some (.slice e)) (he : Tryz.prog.underlying e = some (.int .i64)) (hc : Tryz.prog.cellsOf e = 1)
    (hok : Value.okWide Tryz.prog W .any base t v) (h : DataW.Trod enc Tryz.prog W 0 (fun _ => true) true t v d p) (hn : W.heap.size ≤ n) : ∃ (a : Option Addr) (l c : Nat) (L : List Int), v = .slice a l c ∧ up nm v = .slice (a.map fun x => ⟨nm x.block, x.off, x.spot⟩) l c ∧ Sl (hv (wH W)) n 1 (up nm v) (L.map (Value.int .i64)) := by
  obtain ⟨fuel, h⟩ := h
  rcases open_ints ht he hc h with ⟨hcs, _⟩ | ⟨a, len, cap, zs, hcs, _, hle, _, hzl, _, hcell, _⟩
  · have hvv : v = .slice none 0 0 := by
      cases v <;> simp [Value.cells] at hcs ⊢
      · exact hcs
      · rename_i cs
        unfold Value.okWide at hok
        rw [ht] at hok
        simp [Cell.okWide, Cell.ok, ht] at hok
    subst hvv
    exact ⟨none, 0, 0, [], rfl, rfl, .nil (.inl rfl)⟩
  · have hvv : v = .slice (some a) len cap := by
      cases v <;> simp [Value.cells] at hcs ⊢
      · exact hcs
      · rename_i cs
        unfold Value.okWide at hok
        rw [ht] at hok
        simp [Cell.okWide, Cell.ok, ht] at hok
    subst hvv
    obtain ⟨b, off, spot⟩ := a
    have hspot : spot = none ∧ ∃ c e fz, W.heap[b]? = some (.cells c e fz) := by
      unfold Value.okWide at hok
      rw [ht] at hok
      simp only [Cell.okWide, Cell.ok, ht, World.has] at hok
      obtain ⟨_, _, _, h1, row, cells, h2, _⟩ := hok
      refine ⟨h1, ?_⟩
      unfold World.shape? at h2
      split at h2
      · exact ⟨_, _, _, by assumption⟩
      · cases h2
    obtain ⟨rfl, c, e', fz, hb⟩ := hspot
    have hbs : b < W.heap.size := by
      rcases Nat.lt_or_ge b W.heap.size with h' | h'
      · exact h'
      · rw [Array.getElem?_eq_none h'] at hb; cases hb
    refine ⟨some ⟨b, off, none⟩, len, cap, zs.take len, rfl, rfl, ?_⟩
    by_cases h0 : len = 0
    · subst h0
      rw [List.take_zero]
      exact .nil (.inr ⟨nm b, off, rfl, nm_lt (by omega)⟩)
    · have hzl' : zs.length = cap := by simpa using hzl
      have hcc : ∀ i, i < cap → c[off + i]? = some (.int .i64 (zs.getD i 0)) := fun i hi => by
        have := hcell i (by omega)
        unfold World.cell? at this
        have e1 : (Addr.add ⟨b, off, none⟩ i).block = b := by unfold Addr.add; split <;> rfl
        have e2 : (Addr.add ⟨b, off, none⟩ i).off = off + i := by unfold Addr.add; split <;> simp_all
        have e3 : (Addr.add ⟨b, off, none⟩ i).spot = none := by unfold Addr.add; split <;> rfl
        rw [e1, hb] at this
        simp only [e2, e3] at this
        simpa using this
      have hsz : off + cap ≤ c.size := by
        have h1 := hcc (cap - 1) (by omega)
        rcases Nat.lt_or_ge (off + (cap - 1)) c.size with h' | h'
        · omega
        · rw [Array.getElem?_eq_none h'] at h1; cases h1
      refine .at_ (nm_lt (show b < n by omega)) (wH_block hb) rfl hle (by simp; omega) ?_
      rw [Nat.mul_one]
      apply List.ext_getElem?
      intro i
      by_cases hi : i < len
      · rw [List.getElem?_take_of_lt hi, List.getElem?_drop, List.getElem?_map, Array.getElem?_toList, hcc i (by omega)]
        rw [List.getElem?_map, List.getElem?_take_of_lt hi]
        have : zs.getD i 0 = zs[i]'(by omega) := by simp [show i < zs.length from by omega]
        rw [this, List.getElem?_eq_getElem (by omega)]
        rfl
      · rw [List.getElem?_eq_none (by simp; omega), List.getElem?_eq_none (by simp; omega)]
end Go.Proofs.YtokfihhdllmbmaaGreatDoor
namespace Go.Proofs.YtokfihhdllmbmaaGreatDoor
open Go Go.GL Go.ChangeShapes Go.WideShapes Go.RowKit
set_option maxRecDepth 100000
theorem own : ownKnob Tryz.prog.godebug = none := by kernel_rfl
theorem laidOut : laidOutB Tryz.prog = true := by kernel_rfl
def layCells (c : Array Value) : Obj → Obj
  | .cells _ t frozen => .cells c t frozen
  | o => o
noncomputable def laidWorld (os : Os) : World :=
  { World.holding Tryz.prog os ⟨#[], #[], []⟩ with heap := (((World.holding Tryz.prog os ⟨#[], #[], []⟩).heap.modify 0 (layCells GK.d64.toArray)).modify 3 (layCells GK.p10.toArray)).modify 4 (layCells GK.d32.toArray) }
theorem laidWorld_met (os : Os) (args : Array Value) : laidMet Tryz.prog laid3 ((laidWorld os).forCall (fun _ _ => 0) ⟨#[], args, []⟩).memory :=
  laidMet_of_run' 8 (by kernel_rfl) (by kernel_rfl)
end Go.Proofs.YtokfihhdllmbmaaGreatDoor
