import Derived.KernelRfl
import Derived.Lib.Mul64
import Derived.Lib.TrailingZeros
import Derived.Test.YtokfihhdllmbmaaGreatDoorValC
set_option linter.unusedVariables false
set_option linter.unusedSimpArgs false
namespace Go.Proofs.YtokfihhdllmbmaaGreatDoor
open Go Go.GL
theorem Sl.cap {h : HF} {n sz : Nat} {a : Option Addr} {len cap : Nat} {c : List Value} (s : Sl h n sz (.slice a len cap) c) : len ≤ cap := by
  by_cases h0 : len = 0
  · omega
  · obtain ⟨_, _, _, _, _, _, _, _, h, _⟩ := s.inv h0
    exact h
def strs (l : List (List UInt8)) : List Value := l.map fun s => Value.string ⟨⟨s⟩⟩
theorem strs_len (a : List (List UInt8)) : (strs a).length = a.length := by simp [strs]
def SmallS (K : Int) (s : List UInt8) : Prop := ∃ x : Int, -K ≤ x ∧ x ≤ K ∧ s = ratT (x : Rat)
set_option maxHeartbeats 1000000
structure TLeft (T : TapeI) (h : HF) (n : Nat) (h' : HF) (n' : Nat) (w : List Nat) : Prop where
  w : ∀ b ∈ w, b = T.bt
  le : n ≤ n'
  tp : Tp h' T
  ext : ExtT n T.bt h h'
end Go.Proofs.YtokfihhdllmbmaaGreatDoor
namespace Go.Proofs.YtokfihhdllmbmaaGreatDoor
open Go Go.GL
structure Ent where
  b : Int
  r : Int
  c : Int
  v : List UInt8
def entC (e : Ent) : List Value := [.int .i64 e.b, .int .i64 e.r, .int .i64 e.c, .string ⟨⟨e.v⟩⟩]
def ents (l : List Ent) : List Value := l.flatMap entC
theorem ents_len (a : List Ent) : (ents a).length = a.length * 4 := by
  induction a with
  | nil => rfl
  | cons e a ih => simp only [ents, List.flatMap_cons, List.length_append, List.length_cons] at *; rw [ih]; simp [entC]; omega
def ltP (e : Ent) (b r c : Int) : Prop := e.b < b ∨ (e.b = b ∧ (e.r < r ∨ (e.r = r ∧ e.c < c)))
def ltE (e f : Ent) : Prop := ltP e f.b f.r f.c
structure EntOk (B : List Int) (e : Ent) : Prop where
  b : 0 ≤ e.b ∧ e.b < B.length
  rc : 0 ≤ e.r ∧ e.r ≤ e.c
  c : ∀ d, B[e.b.toNat]? = some d → e.c < d
  v : ∃ x : Int, -2 ≤ x ∧ x ≤ 2 ∧ x ≠ 0 ∧ e.v = ratT (x : Rat)
structure EOk (B : List Int) (E : List Ent) (b r c : Int) : Prop where
  ok : ∀ e ∈ E, EntOk B e
  asc : E.Pairwise ltE
  lt : ∀ e ∈ E, ltP e b r c
theorem ltP_mono {e : Ent} {b r c b' r' c' : Int} (h : ltP e b r c) (h' : b < b' ∨ (b = b' ∧ (r < r' ∨ (r = r' ∧ c ≤ c')))) : ltP e b' r' c' := by
  unfold ltP at *
  omega
theorem EOk.mono {B : List Int} {E : List Ent} {b r c b' r' c' : Int} (h : EOk B E b r c) (h' : b < b' ∨ (b = b' ∧ (r < r' ∨ (r = r' ∧ c ≤ c')))) : EOk B E b' r' c' := ⟨h.ok, h.asc, fun e he => ltP_mono (h.lt e he) h'⟩
theorem EOk.snoc {B : List Int} {E : List Ent} {e : Ent} (h : EOk B E e.b e.r e.c) (he : EntOk B e) : EOk B (E ++ [e]) e.b e.r (e.c + 1) := by
  refine ⟨fun x hx => ?_, ?_, fun x hx => ?_⟩
  · rcases List.mem_append.1 hx with hx | hx
    · exact h.ok x hx
    · simp at hx; subst hx; exact he
  · rw [List.pairwise_append]
    refine ⟨h.asc, by simp, fun x hx y hy => ?_⟩
    simp at hy; subst hy
    exact h.lt x hx
  · rcases List.mem_append.1 hx with hx | hx
    · exact ltP_mono (h.lt x hx) (.inr ⟨rfl, .inr ⟨rfl, by omega⟩⟩)
    · simp at hx; subst hx; exact .inr ⟨rfl, .inr ⟨rfl, by omega⟩⟩
theorem TLeft.refl {T : TapeI} {h : HF} {n : Nat} (ht : Tp h T) : TLeft T h n h n [] := ⟨fun b hb => absurd hb List.not_mem_nil, Nat.le_refl _, ht, ExtT.refl _ _ _⟩
set_option maxHeartbeats 2000000
end Go.Proofs.YtokfihhdllmbmaaGreatDoor
namespace Go.Proofs.YtokfihhdllmbmaaGreatDoor
open Go Go.GL
section
variable {X : CtxF} {ops r : List Oper} {ms : List Nat} {i m : Nat} {t : TF} {h : HF} {n : Nat} {w : List Nat} {al ld : List (Nat × Nat)} {ef : List (Nat × HF × List Nat)} {Q : SV → Prop} {o : Oper} {d : Tmp}
end
structure Eqn where
  es : List Ent
  fr : List (List UInt8)
  rhs : List UInt8
structure Sdp where
  blocks : List Int
  free : Nat
  obj : List Ent
  objFree : List (List UInt8)
  eqs : List Eqn
inductive EqR (h : HF) (n : Nat) : List Value → List Eqn → Prop
  | nil : EqR h n [] []
  | cons {ve vf : Value} {q : Eqn} {cs : List Value} {qs : List Eqn} (h1 : Sl h n 4 ve (ents q.es)) (h2 : Sl h n 1 vf (strs q.fr)) (h3 : EqR h n cs qs) : EqR h n (ve :: vf :: .string ⟨⟨q.rhs⟩⟩ :: cs) (q :: qs)
theorem EqR.mapS {h h' : HF} {n n' : Nat} {cs : List Value} {qs : List Eqn} (e : EqR h n cs qs) (hS : ∀ v ∈ cs, ∀ sz c, Sl h n sz v c → Sl h' n' sz v c) : EqR h' n' cs qs := by
  induction e with
  | nil => exact .nil
  | cons h1 h2 h3 ih => exact .cons (hS _ (by simp) _ _ h1) (hS _ (by simp) _ _ h2) (ih fun v hv => hS v (by simp [hv]))
theorem EqR.ext {h h' : HF} {n n' : Nat} {cs : List Value} {qs : List Eqn} (e : EqR h n cs qs) (hx : Ext n h h') (hn : n ≤ n') : EqR h' n' cs qs := e.mapS fun _ _ _ _ s => s.ext hx hn
theorem EqR.len {h : HF} {n : Nat} {cs : List Value} {qs : List Eqn} (e : EqR h n cs qs) : cs.length = qs.length * 3 := by
  induction e with
  | nil => rfl
  | cons h1 h2 h3 ih => simp [ih]; omega
theorem EqR.snoc {h : HF} {n : Nat} {cs : List Value} {qs : List Eqn} {ve vf : Value} {q : Eqn} (e : EqR h n cs qs) (h1 : Sl h n 4 ve (ents q.es)) (h2 : Sl h n 1 vf (strs q.fr)) : EqR h n (cs ++ [ve, vf, .string ⟨⟨q.rhs⟩⟩]) (qs ++ [q]) := by
  induction e with
  | nil => exact .cons h1 h2 .nil
  | cons g1 g2 g3 ih => exact .cons g1 g2 ih
structure SdpR (h : HF) (n : Nat) (vB vO vF vE : Value) (p : Sdp) : Prop where
  blocks : Sl h n 1 vB (i64s p.blocks)
  obj : Sl h n 4 vO (ents p.obj)
  objFree : Sl h n 1 vF (strs p.objFree)
  eqs : ∃ ce, Sl h n 3 vE ce ∧ EqR h n ce p.eqs
structure SdpOk (F least : Nat) (p : Sdp) : Prop where
  bl : 1 ≤ p.blocks.length ∧ p.blocks.length ≤ 2
  b3 : ∀ d ∈ p.blocks, 1 ≤ d ∧ d ≤ 3
  free : p.free ≤ F
  obj : EOk p.blocks p.obj p.blocks.length 0 0
  objl : p.obj.length ≤ 256
  ofl : p.objFree.length = p.free
  ofs : ∀ s ∈ p.objFree, SmallS 2 s
  eql : least ≤ p.eqs.length ∧ p.eqs.length ≤ 4
  eqo : ∀ q ∈ p.eqs, EOk p.blocks q.es p.blocks.length 0 0 ∧ q.es.length ≤ 256 ∧ q.fr.length = p.free ∧ (∀ s ∈ q.fr, SmallS 2 s) ∧ SmallS 4 q.rhs
set_option maxHeartbeats 4000000
end Go.Proofs.YtokfihhdllmbmaaGreatDoor
namespace Go.Proofs.YtokfihhdllmbmaaGreatDoor
open Go Go.GL
set_option maxHeartbeats 1000000
theorem strs_at {S : List (List UInt8)} {h : HF} {n : Nat} {a : Option Addr} {len cap : Nat} (hs : Sl h n 1 (.slice a len cap) (strs S)) : len = S.length := by
  obtain ⟨a', len', cap', e, hl⟩ := hs.len
  injection e with e1 e2 e3
  rw [strs_len] at hl
  omega
theorem rep_len (m : Nat) (l : List Value) : (rep m l).length = m * l.length := by
  induction m with
  | zero => simp [rep]
  | succ m ih => rw [rep, List.length_append, ih, Nat.succ_mul]; omega
theorem nums_ok (k : Nat) {h : HF} {n : Nat} {a : Option Addr} {len cap : Nat} {S : List (List UInt8)} (hs : Sl h n 1 (.slice a len cap) (strs S)) (hl : ∀ s ∈ S, s.length < 1000000) (hb : S.length < 1000000) :
    CF (cal (k + 7)) 26 [.slice a len cap] h n fun v h' n' w => w = [] ∧ n ≤ n' ∧ Ext n h h' ∧ ∃ a' l' c' ok, v = .tuple #[.slice a' l' c', .bool ok] ∧ (ok = true ↔ ∀ s ∈ S, isNum s) := by
  refine CF_heap (fn := Tryz.f26) rfl rfl rfl rfl ?_
  have e1 := strs_at hs
  subst e1
  simp only [NV, Nat.reduceEqDiff, reduceCtorEq]
  repeat refine zR ?_
  simp only [NV, Nat.reduceEqDiff, reduceCtorEq]
  repeat refine zR ?_
  refine st_make rfl rfl rfl rfl rfl rfl rfl rfl rfl (by omega) ?_
  repeat refine zR ?_
  simp only [NV, Nat.reduceEqDiff, reduceCtorEq]
  repeat refine zR ?_
  simp only [NV, Nat.reduceEqDiff, reduceCtorEq]
  generalize hh : upd h (3 * n + 2) _ = h1
  have hr1 : ∃ cs e, h1 (3 * n + 2) = some (.row cs e) ∧ cs.length = S.length * 4 := ⟨_, _, by rw [← hh, upd_same], by rw [rep_len]; rfl⟩
  have hx1 : Ext n h h1 := by rw [← hh]; exact Ext.upd (by omega)
  clear hh
  refine EC_for (α := Nat) (fun z => [(0, .slice a S.length cap), (4, .slice (some ⟨3 * n + 2, 0, none⟩) S.length S.length), (5, .int .i64 (z : Int))])
    (fun z h' n' w' => w' = [] ∧ n + 1 ≤ n' ∧ Ext n h h' ∧ (∃ cs e, h' (3 * n + 2) = some (.row cs e) ∧ cs.length = S.length * 4) ∧ z ≤ S.length ∧ ∀ s ∈ S.take z, isNum s) (fun z => S.length - z)
    0 ⟨rfl, rfl, rfl, trivial⟩ ⟨rfl, Nat.le_refl _, hx1, hr1, Nat.zero_le _, fun s hs => absurd hs (by simp)⟩ (by show S.length - 0 < LL; unfold LL; omega) ?_
  rintro z t h2 n2 _ ⟨rfl, hn2, hx2, ⟨cs, e2, hr2, hcs⟩, hz, hall⟩
  simp only [NV, Nat.reduceEqDiff, reduceCtorEq]
  by_cases hze : z = S.length
  · repeat refine zR ?_
    simp only [NV, Nat.reduceEqDiff, reduceCtorEq]
    rw [EC_cond_false rfl]
    simp only [NV, Nat.reduceEqDiff, reduceCtorEq]
    repeat refine zR ?_
    simp only [NV, Nat.reduceEqDiff, reduceCtorEq]
    refine retH [.slice (some ⟨3 * n + 2, 0, none⟩) S.length S.length, .bool true] rfl rfl rfl ⟨rfl, by show n ≤ n2; omega, hx2, _, _, _, _, rfl, fun _ => ?_, fun _ => rfl⟩
    rw [hze, List.take_length] at hall
    exact hall
  obtain ⟨s, hsz⟩ : ∃ s, S[z]? = some s := ⟨S[z]'(by omega), List.getElem?_eq_getElem (by omega)⟩
  have hmem : s ∈ S := List.mem_of_getElem? hsz
  repeat refine zR ?_
  simp only [NV, Nat.reduceEqDiff, reduceCtorEq]
  rw [EC_cond_true rfl]
  simp only [NV, Nat.reduceEqDiff, reduceCtorEq]
  refine zM ?_
  refine zM ?_
  refine st_at (f := fun s => Value.string ⟨⟨s⟩⟩) (j := z) (dv := s) rfl rfl rfl rfl rfl rfl rfl (hs.ext hx2 (show n ≤ n2 by omega)) rfl rfl hsz (fun _ => rfl) rfl rfl rfl rfl fun _ => ?_
  refine st_call _ rfl rfl rfl rfl rfl (read_ok k _ _ s (hl s hmem)) ?_
  rintro _ h3 n3 _ ⟨rfl, hn3, hx3, u1, u2, v1, v2, q, ln, ld, ok, rfl, rq, hl1, hl2, f1, f2, hok1, hok2⟩
  repeat refine zR ?_
  refine st_alloc rfl rfl rfl rfl rfl ?_
  refine st_storeW [u1, u2, v1, v2] rfl rfl rfl rfl rfl rfl rfl rq.ones (upd_same _ _ _) rfl (by show 3 * n ≤ _; omega) ?_
  rw [upd_upd]
  generalize hh : upd h3 (3 * n3 + 2) _ = h4
  have hx4 : Ext n3 h3 h4 := by rw [← hh]; exact Ext.upd (by omega)
  have hp6 : ∃ e, h4 (3 * n3 + 2) = some (.row [u1, u2, v1, v2] e) := ⟨_, by rw [← hh, upd_same]⟩
  clear hh
  obtain ⟨e6, hp6⟩ := hp6
  have hr4 : h4 (3 * n + 2) = _ := (hx4 _ (by omega)).trans ((hx3 _ (by omega)).trans hr2)
  have hx14 : Ext n h h4 := fun b hb => (hx4 b (by omega)).trans ((hx3 b (by omega)).trans (hx2 b hb))
  repeat refine zR ?_
  simp only [NV, Nat.reduceEqDiff, reduceCtorEq]
  cases ok with
  | false =>
    repeat refine zR ?_
    simp only [NV, Nat.reduceEqDiff, reduceCtorEq]
    rw [EC_cond_true rfl]
    simp only [NV, Nat.reduceEqDiff, reduceCtorEq]
    repeat refine zR ?_
    simp only [NV, Nat.reduceEqDiff, reduceCtorEq]
    exact retH [.slice none 0 0, .bool false] rfl rfl rfl ⟨rfl, by show n ≤ n3 + 1; omega, hx14, _, _, _, _, rfl, fun h => absurd h (by simp), fun h => hok2 (h s hmem)⟩
  | true =>
  repeat refine zR ?_
  simp only [NV, Nat.reduceEqDiff, reduceCtorEq]
  rw [EC_cond_false rfl]
  simp only [NV, Nat.reduceEqDiff, reduceCtorEq]
  repeat refine zR ?_
  refine st_load (v := .agg #[u1, u2, v1, v2]) rfl rfl rfl rfl rfl (loadn_eq rfl rfl hp6 rfl (Nat.le_of_ble_eq_true rfl) rfl) ?_
  refine st_idx rfl rfl rfl rfl rfl rfl rfl rfl (by omega) ?_
  refine st_storeN (cs := [u1, u2, v1, v2]) rfl rfl rfl rfl rfl rfl rfl rq.ones hr4 (by rw [hcs]; omega) (by show 3 * n ≤ _; omega) ?_
  simp only [NV, Nat.reduceEqDiff, reduceCtorEq]
  repeat refine zR ?_
  simp only [NV, Nat.reduceEqDiff, reduceCtorEq]
  refine goOn (z + 1) (by show S.length - (z + 1) < S.length - z; omega) ⟨rfl, rfl, by show Value.int .i64 _ = Value.int .i64 _; congr 1, trivial⟩ ⟨rfl, by show n + 1 ≤ n3 + 1; omega, fun b hb => (upd_ne (by omega)).trans (hx14 b hb), ⟨_, _, upd_same _ _ _, ?_⟩, by show z + 1 ≤ S.length; omega, ?_⟩
  · unfold spliceAt
    simp only [List.length_append, List.length_take, List.length_drop, hcs, List.length_cons, List.length_nil]
    omega
  · intro s' hs'
    rw [List.take_succ_eq_append_getElem (by omega)] at hs'
    rcases List.mem_append.1 hs' with h' | h'
    · exact hall s' h'
    · rw [List.mem_singleton.1 h']
      obtain ⟨p1, p2⟩ := List.getElem?_eq_some_iff.1 hsz
      rw [p2]
      exact ⟨q, hok1 rfl⟩
theorem numbersR_ok (k : Nat) {h : HF} {n : Nat} {a : Option Addr} {len cap : Nat} {S : List (List UInt8)} (hs : Sl h n 1 (.slice a len cap) (strs S)) (hl : ∀ s ∈ S, s.length < 1000000) (hb : S.length < 1000000) : VF (cal (k + 8)) 65 [.slice a len cap] h n fun v => ∃ b : Bool, v = .bool b ∧ (b = true ↔ ∀ s ∈ S, isNum s) := by
  refine CF_flat (fn := Tryz.f65) rfl rfl rfl rfl ?_
  simp only [NV, Nat.reduceEqDiff, reduceCtorEq]
  repeat refine zR ?_
  simp only [NV, Nat.reduceEqDiff, reduceCtorEq]
  repeat refine zR ?_
  refine st_call _ rfl rfl rfl rfl rfl (nums_ok k hs hl hb) ?_
  rintro _ h1 n1 _ ⟨rfl, hn1, hx1, a', l', c', ok, rfl, hok⟩
  repeat refine zR ?_
  simp only [NV, Nat.reduceEqDiff, reduceCtorEq]
  repeat refine zR ?_
  simp only [NV, Nat.reduceEqDiff, reduceCtorEq]
  exact retF _ rfl (resF_tmp rfl) rfl rfl ⟨ok, rfl, hok⟩
end Go.Proofs.YtokfihhdllmbmaaGreatDoor
namespace Go.Proofs.YtokfihhdllmbmaaGreatDoor
open Go Go.GL
theorem ratT_zero {q : Rat} : ratT q = [48] ↔ q.num = 0 := by
  constructor
  · intro h
    obtain ⟨h1, h2⟩ := ratT_minus q
    rw [h] at h1 h2
    have hb : bodyOf [48] = [48] := rfl
    rw [hb] at h2
    obtain ⟨g1, g2, g3⟩ := decT_all q.num.natAbs
    cases hd : decT q.num.natAbs with
    | nil => exact absurd hd g3
    | cons b r =>
      rw [hd] at h2 g2
      simp only [List.cons_append, List.cons.injEq] at h2
      have hr : r = [] := (List.append_eq_nil_iff.1 h2.2.symm).1
      rw [← h2.1, hr] at g2
      have : dval [48] = 0 := rfl
      omega
  · intro h
    have hq : q = 0 := Rat.num_eq_zero.1 h
    subst hq
    rfl
def Fits (B : List Int) (e : Ent) : Prop := (0 ≤ e.b ∧ e.b < B.length) ∧ (0 ≤ e.r ∧ e.r ≤ e.c) ∧ ∀ d, B[e.b.toNat]? = some d → e.c < d
def EntV (B : List Int) (E : List Ent) (j : Nat) (e : Ent) : Prop := Fits B e ∧ (∀ f, 0 < j → E[j - 1]? = some f → ltE f e) ∧ isNum e.v ∧ e.v ≠ [48]
def ListV (B : List Int) (E : List Ent) : Prop := ∀ j e, E[j]? = some e → EntV B E j e
set_option maxHeartbeats 2000000
theorem less_ok (k : Nat) (h : HF) (n : Nat) (e f : Ent) : VF (cal (k + 1)) 133 [.agg (entC e).toArray, .agg (entC f).toArray] h n fun v => ∃ b : Bool, v = .bool b ∧ (b = true ↔ ltE e f) := by
  refine CF_flat (fn := Tryz.f133) rfl rfl rfl rfl ?_
  simp only [NV, Nat.reduceEqDiff, reduceCtorEq]
  refine st_mkp (cs := entC e) rfl rfl rfl rfl rfl ?_
  refine st_mkp (cs := entC f) rfl rfl rfl rfl rfl ?_
  generalize hh : upd (upd h (3 * n + 2) _) (3 * (n + 1) + 2) _ = h1
  have he : ∃ ty, h1 (3 * n + 2) = some (.row (entC e) ty) := ⟨_, by rw [← hh, upd_ne (by omega), upd_same]⟩
  have hf : ∃ ty, h1 (3 * (n + 1) + 2) = some (.row (entC f) ty) := ⟨_, by rw [← hh, upd_same]⟩
  obtain ⟨t1, he⟩ := he
  obtain ⟨t2, hf⟩ := hf
  repeat refine zR ?_
  simp only [NV, Nat.reduceEqDiff, reduceCtorEq]
  by_cases hb : e.b = f.b
  · repeat (first | refine st_load1 rfl rfl rfl rfl rfl rfl he rfl rfl ?_ | refine st_load1 rfl rfl rfl rfl rfl rfl hf rfl rfl ?_ | refine zR ?_)
    simp only [NV, Nat.reduceEqDiff, reduceCtorEq]
    rw [EC_cond_false rfl]
    simp only [NV, Nat.reduceEqDiff, reduceCtorEq]
    by_cases hr : e.r < f.r
    · repeat (first | refine st_load1 rfl rfl rfl rfl rfl rfl he rfl rfl ?_ | refine st_load1 rfl rfl rfl rfl rfl rfl hf rfl rfl ?_ | refine zR ?_)
      simp only [NV, Nat.reduceEqDiff, reduceCtorEq]
      exact retF _ rfl (resF_tmp rfl) rfl rfl ⟨_, rfl, by unfold ltE ltP; simp; omega⟩
    · by_cases hr2 : e.r = f.r
      · by_cases hc : e.c < f.c
        · repeat (first | refine st_load1 rfl rfl rfl rfl rfl rfl he rfl rfl ?_ | refine st_load1 rfl rfl rfl rfl rfl rfl hf rfl rfl ?_ | refine zR ?_)
          simp only [NV, Nat.reduceEqDiff, reduceCtorEq]
          exact retF _ rfl (resF_tmp rfl) rfl rfl ⟨_, rfl, by unfold ltE ltP; simp; omega⟩
        · repeat (first | refine st_load1 rfl rfl rfl rfl rfl rfl he rfl rfl ?_ | refine st_load1 rfl rfl rfl rfl rfl rfl hf rfl rfl ?_ | refine zR ?_)
          simp only [NV, Nat.reduceEqDiff, reduceCtorEq]
          exact retF _ rfl (resF_tmp rfl) rfl rfl ⟨_, rfl, by unfold ltE ltP; simp; omega⟩
      · repeat (first | refine st_load1 rfl rfl rfl rfl rfl rfl he rfl rfl ?_ | refine st_load1 rfl rfl rfl rfl rfl rfl hf rfl rfl ?_ | refine zR ?_)
        simp only [NV, Nat.reduceEqDiff, reduceCtorEq]
        exact retF _ rfl (resF_tmp rfl) rfl rfl ⟨_, rfl, by unfold ltE ltP; simp; omega⟩
  · repeat (first | refine st_load1 rfl rfl rfl rfl rfl rfl he rfl rfl ?_ | refine st_load1 rfl rfl rfl rfl rfl rfl hf rfl rfl ?_ | refine zR ?_)
    simp only [NV, Nat.reduceEqDiff, reduceCtorEq]
    rw [EC_cond_true rfl]
    simp only [NV, Nat.reduceEqDiff, reduceCtorEq]
    by_cases hlt : e.b < f.b
    · repeat (first | refine st_load1 rfl rfl rfl rfl rfl rfl he rfl rfl ?_ | refine st_load1 rfl rfl rfl rfl rfl rfl hf rfl rfl ?_ | refine zR ?_)
      simp only [NV, Nat.reduceEqDiff, reduceCtorEq]
      exact retF _ rfl (resF_tmp rfl) rfl rfl ⟨_, rfl, by unfold ltE ltP; simp; omega⟩
    · repeat (first | refine st_load1 rfl rfl rfl rfl rfl rfl he rfl rfl ?_ | refine st_load1 rfl rfl rfl rfl rfl rfl hf rfl rfl ?_ | refine zR ?_)
      simp only [NV, Nat.reduceEqDiff, reduceCtorEq]
      exact retF _ rfl (resF_tmp rfl) rfl rfl ⟨_, rfl, by unfold ltE ltP; simp; omega⟩
end Go.Proofs.YtokfihhdllmbmaaGreatDoor
namespace Go.Proofs.YtokfihhdllmbmaaGreatDoor
open Go Go.GL
set_option maxHeartbeats 2000000
theorem ascending_ok (k : Nat) (h : HF) (n : Nat) (e f : Ent) : VF (cal (k + 1)) 127 [.agg (entC e).toArray, .agg (entC f).toArray] h n fun v => ∃ b : Bool, v = .bool b ∧ (b = true ↔ ltE e f) := by
  refine CF_flat (fn := Tryz.f127) rfl rfl rfl rfl ?_
  simp only [NV, Nat.reduceEqDiff, reduceCtorEq]
  refine st_mkp (cs := entC e) rfl rfl rfl rfl rfl ?_
  refine st_mkp (cs := entC f) rfl rfl rfl rfl rfl ?_
  generalize hh : upd (upd h (3 * n + 2) _) (3 * (n + 1) + 2) _ = h1
  have he : ∃ ty, h1 (3 * n + 2) = some (.row (entC e) ty) := ⟨_, by rw [← hh, upd_ne (by omega), upd_same]⟩
  have hf : ∃ ty, h1 (3 * (n + 1) + 2) = some (.row (entC f) ty) := ⟨_, by rw [← hh, upd_same]⟩
  obtain ⟨t1, he⟩ := he
  obtain ⟨t2, hf⟩ := hf
  repeat refine zR ?_
  simp only [NV, Nat.reduceEqDiff, reduceCtorEq]
  repeat refine zR ?_
  refine st_load1 rfl rfl rfl rfl rfl rfl he rfl (v := .int .i64 e.b) rfl ?_
  repeat refine zR ?_
  refine st_load1 rfl rfl rfl rfl rfl rfl hf rfl (v := .int .i64 f.b) rfl ?_
  by_cases hb : e.b = f.b
  · repeat refine zR ?_
    simp only [NV, Nat.reduceEqDiff, reduceCtorEq]
    rw [EC_cond_false rfl]
    simp only [NV, Nat.reduceEqDiff, reduceCtorEq]
    repeat refine zR ?_
    refine st_load1 rfl rfl rfl rfl rfl rfl he rfl (v := .int .i64 e.r) rfl ?_
    repeat refine zR ?_
    refine st_load1 rfl rfl rfl rfl rfl rfl hf rfl (v := .int .i64 f.r) rfl ?_
    by_cases hr : e.r = f.r
    · repeat refine zR ?_
      simp only [NV, Nat.reduceEqDiff, reduceCtorEq]
      rw [EC_cond_false rfl]
      simp only [NV, Nat.reduceEqDiff, reduceCtorEq]
      repeat refine zR ?_
      refine st_load1 rfl rfl rfl rfl rfl rfl he rfl (v := .int .i64 e.c) rfl ?_
      repeat refine zR ?_
      refine st_load1 rfl rfl rfl rfl rfl rfl hf rfl (v := .int .i64 f.c) rfl ?_
      refine st_lt rfl rfl rfl rfl rfl rfl ?_
      repeat refine zR ?_
      simp only [NV, Nat.reduceEqDiff, reduceCtorEq]
      exact retF _ rfl (resF_tmp rfl) rfl rfl ⟨_, rfl, by rw [decide_eq_true_eq]; unfold ltE ltP; omega⟩
    · repeat refine zR ?_
      simp only [NV, Nat.reduceEqDiff, reduceCtorEq]
      rw [EC_cond_true rfl]
      simp only [NV, Nat.reduceEqDiff, reduceCtorEq]
      repeat refine zR ?_
      refine st_load1 rfl rfl rfl rfl rfl rfl he rfl (v := .int .i64 e.r) rfl ?_
      repeat refine zR ?_
      refine st_load1 rfl rfl rfl rfl rfl rfl hf rfl (v := .int .i64 f.r) rfl ?_
      refine st_lt rfl rfl rfl rfl rfl rfl ?_
      repeat refine zR ?_
      simp only [NV, Nat.reduceEqDiff, reduceCtorEq]
      exact retF _ rfl (resF_tmp rfl) rfl rfl ⟨_, rfl, by rw [decide_eq_true_eq]; unfold ltE ltP; omega⟩
  · repeat refine zR ?_
    simp only [NV, Nat.reduceEqDiff, reduceCtorEq]
    rw [EC_cond_true rfl]
    simp only [NV, Nat.reduceEqDiff, reduceCtorEq]
    repeat refine zR ?_
    refine st_load1 rfl rfl rfl rfl rfl rfl he rfl (v := .int .i64 e.b) rfl ?_
    repeat refine zR ?_
    refine st_load1 rfl rfl rfl rfl rfl rfl hf rfl (v := .int .i64 f.b) rfl ?_
    refine st_lt rfl rfl rfl rfl rfl rfl ?_
    repeat refine zR ?_
    simp only [NV, Nat.reduceEqDiff, reduceCtorEq]
    exact retF _ rfl (resF_tmp rfl) rfl rfl ⟨_, rfl, by rw [decide_eq_true_eq]; unfold ltE ltP; omega⟩
end Go.Proofs.YtokfihhdllmbmaaGreatDoor
namespace Go.Proofs.YtokfihhdllmbmaaGreatDoor
open Go Go.GL
theorem ents_at : ∀ {E : List Ent} {j : Nat} {e : Ent}, E[j]? = some e → ((ents E).drop (j * 4)).take 4 = entC e := by
  intro E
  induction E with
  | nil => intro j e h; simp at h
  | cons x E ih =>
    intro j e h
    cases j with
    | zero =>
      simp at h; subst h
      rfl
    | succ j =>
      have := ih (j := j) (e := e) (by simpa using h)
      rw [show (j + 1) * 4 = (entC x).length + j * 4 from by simp [entC]; omega]
      show ((entC x ++ ents E).drop _).take 4 = _
      rw [← List.drop_drop, List.drop_left' rfl]
      exact this
theorem take_at {cs cells : List Value} {off m j k : Nat} (he : (cs.drop off).take m = cells) (hj : j + k ≤ m) : (cs.drop (off + j)).take k = (cells.drop j).take k := by
  rw [← he, List.drop_take, List.take_take, List.drop_drop, Nat.min_eq_left (by omega)]
set_option maxHeartbeats 4000000
end Go.Proofs.YtokfihhdllmbmaaGreatDoor
namespace Go.Proofs.YtokfihhdllmbmaaGreatDoor
open Go Go.GL
theorem EqR.get {h : HF} {n : Nat} {ce : List Value} {qs : List Eqn} (e : EqR h n ce qs) : ∀ {j : Nat} {q : Eqn}, qs[j]? = some q → ∃ ve vf, (ce.drop (j * 3)).take 3 = [ve, vf, .string ⟨⟨q.rhs⟩⟩] ∧ Sl h n 4 ve (ents q.es) ∧ Sl h n 1 vf (strs q.fr) := by
  induction e with
  | nil => intro j q hq; simp at hq
  | cons h1 h2 h3 ih =>
    intro j q hq
    cases j with
    | zero => simp at hq; subst hq; exact ⟨_, _, rfl, h1, h2⟩
    | succ j =>
      obtain ⟨ve, vf, g1, g2, g3⟩ := ih (j := j) (q := q) (by simpa using hq)
      refine ⟨ve, vf, ?_, g2, g3⟩
      rw [← g1, show (j + 1) * 3 = 3 + j * 3 from by omega, ← List.drop_drop]
      rfl
theorem Sl.lenEq {h : HF} {n sz m : Nat} {a : Option Addr} {len cap : Nat} {c : List Value} (s : Sl h n sz (.slice a len cap) c) (hsz : 0 < sz) (hc : c.length = m * sz) : len = m := by
  obtain ⟨a', len', cap', e, hl⟩ := s.len
  injection e with e1 e2 e3
  subst e2
  exact Nat.eq_of_mul_eq_mul_right hsz (hl.symm.trans hc)
set_option maxHeartbeats 4000000
end Go.Proofs.YtokfihhdllmbmaaGreatDoor
namespace Go.Proofs.YtokfihhdllmbmaaGreatDoor
open Go Go.GL
set_option maxHeartbeats 4000000
theorem listV_ok (k : Nat) {h : HF} {n : Nat} {aE aB : Option Addr} {lE cE lB cB : Nat} {E : List Ent} {B : List Int} (hE : Sl h n 4 (.slice aE lE cE) (ents E)) (hB : Sl h n 1 (.slice aB lB cB) (i64s B)) (hl : ∀ e ∈ E, e.v.length < 1000000) (hb : E.length < 1000000 ∧ B.length < 1000000) : VF (cal (k + 7)) 64 [.slice aB lB cB, .slice aE lE cE] h n fun v => ∃ b : Bool, v = .bool b ∧ (b = true ↔ ListV B E) := by
  refine CF_flat (fn := Tryz.f64) rfl rfl rfl rfl ?_
  have hlE : lE = E.length := by
    obtain ⟨a', len', cap', e, hl⟩ := hE.len
    injection e with e1 e2 e3
    rw [ents_len] at hl
    omega
  have hlB : lB = B.length := by
    obtain ⟨a', len', cap', e, hl⟩ := hB.len
    injection e with e1 e2 e3
    simp [i64s] at hl
    omega
  subst hlE hlB
  simp only [NV, Nat.reduceEqDiff, reduceCtorEq]
  repeat refine zR ?_
  simp only [NV, Nat.reduceEqDiff, reduceCtorEq]
  repeat refine zR ?_
  simp only [NV, Nat.reduceEqDiff, reduceCtorEq]
  refine EC_for (α := Nat) (fun j => [(0, .slice aB B.length cB), (1, .slice aE E.length cE), (9, .slice aE E.length cE), (10, .int .i64 (E.length : Int)), (11, .int .i64 (j : Int))]) (fun j h' n' w => Ext n h h' ∧ n ≤ n' ∧ w = [] ∧ j ≤ E.length ∧ ∀ i e, i < j → E[i]? = some e → EntV B E i e) (fun j => E.length - j) 0 ⟨rfl, rfl, rfl, rfl, rfl, trivial⟩ ⟨Ext.refl _ _, Nat.le_refl _, rfl, Nat.zero_le _, fun i e hi => absurd hi (Nat.not_lt_zero i)⟩ (by show E.length - 0 < LL; unfold LL; omega) ?_
  rintro j t h1 n1 _ ⟨hx1, hn1, rfl, hj, hall⟩
  simp only [NV, Nat.reduceEqDiff, reduceCtorEq]
  by_cases hjE : j = E.length
  · repeat refine zR ?_
    simp only [NV, Nat.reduceEqDiff, reduceCtorEq]
    rw [EC_cond_false rfl]
    simp only [NV, Nat.reduceEqDiff, reduceCtorEq]
    repeat refine zR ?_
    simp only [NV, Nat.reduceEqDiff, reduceCtorEq]
    exact retF _ rfl (resF_tmp rfl) rfl rfl ⟨true, rfl, fun _ i e hi => hall i e (by have := (List.getElem?_eq_some_iff.1 hi).1; omega) hi, fun _ => rfl⟩
  obtain ⟨e, he'⟩ : ∃ e, E[j]? = some e := ⟨E[j]'(by omega), List.getElem?_eq_getElem (by omega)⟩
  have hmem : e ∈ E := List.mem_of_getElem? he'
  obtain ⟨bE, oE, xE, csE, rfl, hbE, hxE, hcE, hcapE, hleE, heE⟩ := hE.inv (by omega)
  have hcell : (csE.drop (oE + j * 4)).take 4 = entC e := by rw [take_at heE (by omega), ents_at he']
  have hxE1 : h1 bE = some xE := by rw [hx1 bE hbE]; exact hxE
  repeat refine zR ?_
  simp only [NV, Nat.reduceEqDiff, reduceCtorEq]
  rw [EC_cond_true rfl]
  simp only [NV, Nat.reduceEqDiff, reduceCtorEq]
  repeat refine zR ?_
  refine st_idx rfl rfl rfl rfl rfl rfl rfl rfl (by omega) ?_
  refine st_load (v := .agg (entC e).toArray) rfl rfl rfl rfl rfl (loadn_eq rfl rfl hxE1 hcE (by omega) (by rw [← hcell]; congr 2 <;> omega)) ?_
  refine st_alloc rfl rfl rfl rfl rfl ?_
  repeat refine zR ?_
  refine st_storeW (entC e) rfl rfl rfl rfl rfl rfl rfl rfl (upd_same _ _ _) rfl (by show 3 * n ≤ 3 * n1 + 2; omega) ?_
  rw [upd_upd]
  generalize hh : upd h1 (3 * n1 + 2) _ = h2
  have hp2 : ∃ ty, h2 (3 * n1 + 2) = some (.row (entC e) ty) := ⟨_, by rw [← hh, upd_same]⟩
  obtain ⟨ty2, hp2⟩ := hp2
  have hx2 : Ext n1 h1 h2 := by rw [← hh]; exact Ext.upd (by omega)
  clear hh
  have hxE2 : h2 bE = some xE := by rw [hx2 bE (by omega)]; exact hxE1
  simp only [EC_skip, EO_nil, after_normal, EC_seq]
  refine EC_cutx (α := Bool) (fun z => [(0, .slice aB B.length cB), (1, .slice (some ⟨bE, oE, none⟩) E.length cE), (6, .pointer (some ⟨3 * n1 + 2, 0, none⟩)), (9, .slice (some ⟨bE, oE, none⟩) E.length cE), (10, .int .i64 (E.length : Int)), (11, .int .i64 (j : Int)), (61, .bool z)]) (fun z h' n' w => h2 = h' ∧ n' = n1 + 1 ∧ w = [] ∧ (z = false ↔ Fits B e ∧ ∀ f, 0 < j → E[j - 1]? = some f → ltE f e)) ?_ ?_
  · refine EC_draw [0, 1, 3, 7, 15, 31, 15, 79, 255, 511, 1023, 2047, 4095, 8191, 16383, 32767, 65535, 131071, 65535, 327679, 1048575, 2097151, 4194303, 8388607, 16777215, 8388607, 8388607, 75497471, 243269631, 511705087, 1073741823, 2147483647, 4294967295, 8589934591, 17179869183, 34359738367, 68719476735, 68719476735, 206158430207, 549755813887, 1099511627775, 68719476735, 4398046511103, 8796093022207, 17592186044415, 35184372088831] rfl ?_
    by_cases q1 : e.b < 0
    · repeat (first | refine dr_load rfl rfl rfl rfl rfl rfl (load1_eq rfl hp2 rfl rfl) rfl rfl ?_ | refine zD ?_)
      simp only [NV, Nat.reduceEqDiff, reduceCtorEq]
      exact cutx_mk true ⟨rfl, rfl, rfl, rfl, rfl, rfl, rfl, trivial⟩ ⟨rfl, rfl, rfl, by simp only [Bool.true_eq_false, false_iff]; rintro ⟨⟨⟨g1, g2⟩, g3, g4⟩, g5⟩; omega⟩
    by_cases q2 : (B.length : Int) ≤ e.b
    · repeat (first | refine dr_load rfl rfl rfl rfl rfl rfl (load1_eq rfl hp2 rfl rfl) rfl rfl ?_ | refine zD ?_)
      simp only [NV, Nat.reduceEqDiff, reduceCtorEq]
      exact cutx_mk true ⟨rfl, rfl, rfl, rfl, rfl, rfl, rfl, trivial⟩ ⟨rfl, rfl, rfl, by simp only [Bool.true_eq_false, false_iff]; rintro ⟨⟨⟨g1, g2⟩, g3, g4⟩, g5⟩; omega⟩
    by_cases q3 : e.r < 0
    · repeat (first | refine dr_load rfl rfl rfl rfl rfl rfl (load1_eq rfl hp2 rfl rfl) rfl rfl ?_ | refine zD ?_)
      simp only [NV, Nat.reduceEqDiff, reduceCtorEq]
      exact cutx_mk true ⟨rfl, rfl, rfl, rfl, rfl, rfl, rfl, trivial⟩ ⟨rfl, rfl, rfl, by simp only [Bool.true_eq_false, false_iff]; rintro ⟨⟨⟨g1, g2⟩, g3, g4⟩, g5⟩; omega⟩
    by_cases q4 : e.c < e.r
    · repeat (first | refine dr_load rfl rfl rfl rfl rfl rfl (load1_eq rfl hp2 rfl rfl) rfl rfl ?_ | refine zD ?_)
      simp only [NV, Nat.reduceEqDiff, reduceCtorEq]
      exact cutx_mk true ⟨rfl, rfl, rfl, rfl, rfl, rfl, rfl, trivial⟩ ⟨rfl, rfl, rfl, by simp only [Bool.true_eq_false, false_iff]; rintro ⟨⟨⟨g1, g2⟩, g3, g4⟩, g5⟩; omega⟩
    obtain ⟨bB, oB, xB, csB, rfl, hbB, hxB, hcB, hcapB, hleB, heB⟩ := hB.inv (by omega)
    have hxB2 : h2 bB = some xB := by rw [hx2 bB (by omega), hx1 bB hbB]; exact hxB
    obtain ⟨dd, hdd⟩ : ∃ d, B[e.b.toNat]? = some d := ⟨B[e.b.toNat]'(by omega), List.getElem?_eq_getElem (by omega)⟩
    have hcellB : csB[oB + e.b.toNat]? = some (.int .i64 dd) := cell_at heB (by rw [i64s, List.getElem?_map, hdd]; rfl)
    repeat (first | refine dr_load rfl rfl rfl rfl rfl rfl (load1_eq rfl hp2 rfl rfl) rfl rfl ?_ | refine zD ?_)
    refine dr_idx rfl rfl rfl rfl rfl rfl rfl rfl (by omega) ?_
    refine dr_load rfl rfl rfl rfl rfl rfl (load1_eq rfl hxB2 hcB (v := .int .i64 dd) (by rw [← hcellB]; congr 1; omega)) rfl rfl ?_
    by_cases q5 : dd ≤ e.c
    · repeat (first | refine dr_load rfl rfl rfl rfl rfl rfl (load1_eq rfl hp2 rfl rfl) rfl rfl ?_ | refine zD ?_)
      simp only [NV, Nat.reduceEqDiff, reduceCtorEq]
      exact cutx_mk true ⟨rfl, rfl, rfl, rfl, rfl, rfl, rfl, trivial⟩ ⟨rfl, rfl, rfl, by simp only [Bool.true_eq_false, false_iff]; rintro ⟨⟨⟨g1, g2⟩, g3, g4⟩, g5⟩; have := g4 dd hdd; omega⟩
    have hfits : Fits B e := ⟨by omega, by omega, fun d hd => by rw [hdd] at hd; injection hd with hd; omega⟩
    by_cases hj0 : j = 0
    · repeat (first | refine dr_load rfl rfl rfl rfl rfl rfl (load1_eq rfl hp2 rfl rfl) rfl rfl ?_ | refine zD ?_)
      simp only [NV, Nat.reduceEqDiff, reduceCtorEq]
      exact cutx_mk false ⟨rfl, rfl, rfl, rfl, rfl, rfl, rfl, trivial⟩ ⟨rfl, rfl, rfl, fun _ => ⟨hfits, fun f h0 => by omega⟩, fun _ => rfl⟩
    obtain ⟨f, hf'⟩ : ∃ f, E[j - 1]? = some f := ⟨E[j - 1]'(by omega), List.getElem?_eq_getElem (by omega)⟩
    have hcellf : (csE.drop (oE + (j - 1) * 4)).take 4 = entC f := by rw [take_at heE (by omega), ents_at hf']
    repeat refine zD ?_
    refine dr_idx rfl rfl rfl rfl rfl rfl rfl rfl (by omega) ?_
    refine dr_load (v := .agg (entC f).toArray) rfl rfl rfl rfl rfl rfl (loadn_eq rfl rfl hxE2 hcE (by omega) (by rw [← hcellf]; congr 2 <;> omega)) rfl rfl ?_
    refine dr_load (v := .agg (entC e).toArray) rfl rfl rfl rfl rfl rfl (loadn_eq rfl rfl hp2 rfl (Nat.le_of_ble_eq_true rfl) rfl) rfl rfl ?_
    refine dr_vf _ rfl rfl rfl rfl rfl rfl rfl (less_ok (k + 5) h2 (n1 + 1) f e) ?_
    rintro _ ⟨b, rfl, hbb⟩
    cases b with
    | true =>
      repeat refine zD ?_
      simp only [NV, Nat.reduceEqDiff, reduceCtorEq]
      exact cutx_mk false ⟨rfl, rfl, rfl, rfl, rfl, rfl, rfl, trivial⟩ ⟨rfl, rfl, rfl, fun _ => ⟨hfits, fun f' _ hf2 => by rw [hf'] at hf2; injection hf2 with hf2; subst hf2; exact hbb.1 rfl⟩, fun _ => rfl⟩
    | false =>
      repeat refine zD ?_
      simp only [NV, Nat.reduceEqDiff, reduceCtorEq]
      exact cutx_mk true ⟨rfl, rfl, rfl, rfl, rfl, rfl, rfl, trivial⟩ ⟨rfl, rfl, rfl, by simp only [Bool.true_eq_false, false_iff]; rintro ⟨_, g5⟩; exact absurd (hbb.2 (g5 f (by omega) hf')) (by simp)⟩
  rintro z t _ _ _ ⟨rfl, rfl, rfl, hz⟩
  cases z with
  | true =>
    rw [EC_cond_true rfl]
    simp only [NV, Nat.reduceEqDiff, reduceCtorEq]
    repeat refine zR ?_
    simp only [NV, Nat.reduceEqDiff, reduceCtorEq]
    exact retF _ rfl (resF_tmp rfl) rfl rfl ⟨false, rfl, fun h => absurd h (by simp), fun hV => absurd (hz.2 ⟨(hV j e he').1, (hV j e he').2.1⟩) (by simp)⟩
  | false =>
  rw [EC_cond_false rfl]
  simp only [NV, Nat.reduceEqDiff, reduceCtorEq]
  have hgeo := hz.1 rfl
  repeat refine zR ?_
  refine st_load1 rfl rfl rfl rfl rfl rfl hp2 rfl (v := .string ⟨⟨e.v⟩⟩) rfl ?_
  refine st_call _ rfl rfl rfl rfl rfl (read_ok k _ _ e.v (hl e hmem)) ?_
  rintro _ h3 n3 _ ⟨rfl, hn3, hx3, u1, u2, v1, v2, q, ln, ld, ok, rfl, rq, hl1, hl2, f1, f2, hok1, hok2⟩
  repeat refine zR ?_
  refine st_alloc rfl rfl rfl rfl rfl ?_
  refine st_storeW [u1, u2, v1, v2] rfl rfl rfl rfl rfl rfl rfl rq.ones (upd_same _ _ _) rfl (by show 3 * n ≤ _; omega) ?_
  rw [upd_upd]
  generalize hh : upd h3 (3 * n3 + 2) _ = h4
  have hx4 : Ext n3 h3 h4 := by rw [← hh]; exact Ext.upd (by omega)
  have hp6 : ∃ e, h4 (3 * n3 + 2) = some (.row [u1, u2, v1, v2] e) := ⟨_, by rw [← hh, upd_same]⟩
  clear hh
  obtain ⟨e6, hp6⟩ := hp6
  have rq4 := rq.ext hx4 (Nat.le_succ _)
  repeat refine zR ?_
  simp only [NV, Nat.reduceEqDiff, reduceCtorEq]
  cases ok with
  | false =>
    repeat refine zR ?_
    simp only [NV, Nat.reduceEqDiff, reduceCtorEq]
    rw [EC_cond_true rfl]
    simp only [NV, Nat.reduceEqDiff, reduceCtorEq]
    repeat refine zR ?_
    simp only [NV, Nat.reduceEqDiff, reduceCtorEq]
    exact retF _ rfl (resF_tmp rfl) rfl rfl ⟨false, rfl, fun h => absurd h (by simp), fun hV => hok2 (hV j e he').2.2.1⟩
  | true =>
  repeat refine zR ?_
  refine st_load (v := .agg #[u1, u2, v1, v2]) rfl rfl rfl rfl rfl (loadn_eq rfl rfl hp6 rfl (Nat.le_of_ble_eq_true rfl) rfl) ?_
  refine st_vf _ rfl rfl rfl rfl rfl (rsign_ok (k + 4) rq4) ?_
  rintro _ rfl
  have hq := hok1 rfl
  by_cases hq0 : q.num = 0
  · rw [hq0]
    repeat refine zR ?_
    simp only [NV, Nat.reduceEqDiff, reduceCtorEq]
    rw [EC_cond_true rfl]
    simp only [NV, Nat.reduceEqDiff, reduceCtorEq]
    repeat refine zR ?_
    simp only [NV, Nat.reduceEqDiff, reduceCtorEq]
    exact retF _ rfl (resF_tmp rfl) rfl rfl ⟨false, rfl, fun h => absurd h (by simp), fun hV => absurd (by rw [← hq]; exact ratT_zero.2 hq0) (hV j e he').2.2.2⟩
  · have hsg : ¬ q.num.sign = 0 := fun e => hq0 (Int.sign_eq_zero_iff_zero.1 e)
    repeat refine zR ?_
    simp only [NV, Nat.reduceEqDiff, reduceCtorEq]
    rw [EC_cond_false rfl]
    simp only [NV, Nat.reduceEqDiff, reduceCtorEq]
    repeat refine zR ?_
    simp only [NV, Nat.reduceEqDiff, reduceCtorEq]
    refine goOn (j + 1) (by show E.length - (j + 1) < E.length - j; omega) ⟨rfl, rfl, rfl, rfl, by show Value.int .i64 _ = Value.int .i64 _; congr 1, trivial⟩ ⟨fun b hb => (hx4 b (by omega)).trans ((hx3 b (by omega)).trans ((hx2 b (by omega)).trans (hx1 b hb))), by show n ≤ n3 + 1; omega, rfl, by show j + 1 ≤ E.length; omega, fun i e' hi he2 => ?_⟩
    by_cases hij : i < j
    · exact hall i e' hij he2
    · have : i = j := by omega
      subst this
      rw [he'] at he2
      injection he2 with he2
      subst he2
      exact ⟨hgeo.1, hgeo.2, ⟨q, hq⟩, fun e0 => hq0 (ratT_zero.1 (hq.trans e0))⟩
end Go.Proofs.YtokfihhdllmbmaaGreatDoor
namespace Go.Proofs.YtokfihhdllmbmaaGreatDoor
open Go Go.GL
structure SdpB (p : Sdp) : Prop where
  bl : p.blocks.length < 1000000
  ol : p.obj.length < 1000000
  fl : p.objFree.length < 1000000
  el : p.eqs.length < 1000000
  os : ∀ e ∈ p.obj, e.v.length < 1000000
  fs : ∀ s ∈ p.objFree, s.length < 1000000
  qs : ∀ q ∈ p.eqs, q.es.length < 1000000 ∧ q.fr.length < 999999 ∧ (∀ e ∈ q.es, e.v.length < 1000000) ∧ ∀ s ∈ q.rhs :: q.fr, s.length < 1000000
structure SdpV (p : Sdp) (fr : Int) : Prop where
  bl : 1 ≤ p.blocks.length ∧ p.blocks.length ≤ 64
  free : 0 ≤ fr ∧ fr ≤ 512
  el : p.eqs.length ≤ 512
  b : ∀ d ∈ p.blocks, 1 ≤ d ∧ d ≤ 32
  obj : ListV p.blocks p.obj
  ofl : (p.objFree.length : Int) = fr
  ofs : ∀ s ∈ p.objFree, isNum s
  eqs : ∀ q ∈ p.eqs, ListV p.blocks q.es ∧ (q.fr.length : Int) = fr ∧ ∀ s ∈ q.rhs :: q.fr, isNum s
theorem append_full {E : Env} {h : HF} {n : Nat} {sT e e' : TypeId} {size bytes m b L : Nat} {z x : Value} {old new : List Value} (hu : E.und sT = some (.slice e)) (hi : E.inf e = some (size, bytes, z)) (hz : (vcells z).length = size) (h1 : 1 ≤ size ∧ 1 ≤ bytes) (hx : argS h size x m new) (hb : (L + m) * bytes ≤ 1099511627776) (hg : gro b = false) (hrow : h b = some (.row old e')) (hbn : b < 3 * n) (ho : old.length = L * size) (hl : new.length = m * size) :
    ∃ v' h' n', appendF E h n sT (.slice (some ⟨b, 0, none⟩) L L) x = some (.val v' h' n' []) ∧ n ≤ n' ∧ Ext n h h' ∧ Sl h' n' size v' (old ++ new) ∧ ∃ a, v' = .slice a (L + m) (L + m) := by
  obtain ⟨hl', hc⟩ := hx
  have c1 : Nat.ble ((L + m) * bytes) 1099511627776 = true := Nat.ble_eq_true_of_le hb
  have c2 : Nat.beq (vcells z).length size = true := by rw [hz]; exact Nat.beq_refl _
  have c3 : Nat.ble 1 size = true := Nat.ble_eq_true_of_le h1.1
  have c4 : Nat.ble 1 bytes = true := Nat.ble_eq_true_of_le h1.2
  have hold : (argS h size (.slice (some ⟨b, 0, none⟩) L L) L old) := argS_of hrow rfl ho
  by_cases hm : m = 0
  · subst hm
    have hn0 : new = [] := List.length_eq_zero_iff.1 (by rw [hl]; simp)
    subst hn0
    have c5 : Nat.ble (L + 0) L = true := Nat.ble_eq_true_of_le (Nat.le_refl _)
    refine ⟨.slice (some ⟨b, 0, none⟩) (L + 0) L, h, n, ?_, Nat.le_refl _, Ext.refl _ _, ?_, _, rfl⟩
    · simp only [appendF, hu, hi, hl', hc, c1, c2, c3, c4, c5, Bool.and_self, inPlaceF]
    · rw [List.append_nil]
      exact .at_ hbn hrow rfl (Nat.le_refl _) (by show 0 + L * size ≤ old.length; omega) (by rw [List.drop_zero, List.take_of_length_le (by show old.length ≤ L * size; omega)])
  · have c5 : Nat.ble (L + m) L = false := by
      cases hb : Nat.ble (L + m) L with
      | false => rfl
      | true => have := Nat.le_of_ble_eq_true hb; omega
    refine ⟨.slice (some ⟨3 * n + 1, 0, none⟩) (L + m) (L + m), _, n + 1, ?_, Nat.le_succ _, Ext.upd (b := 3 * n + 1) (x := some (.row (old ++ new) e)) (by omega), .at_ (by omega) (upd_same _ _ _) rfl (Nat.le_refl _) ?_ ?_, _, rfl⟩
    · simp only [appendF, hu, hi, hl', hc, c1, c2, c3, c4, c5, hold.2, Bool.and_self, growF, hg]
    · rw [List.length_append, ho, hl, Nat.add_mul]; omega
    · rw [List.drop_zero, List.take_of_length_le (by rw [List.length_append, ho, hl, Nat.add_mul]; omega)]
theorem gro_two (b : Nat) : gro (3 * b + 2) = false := by
  unfold gro
  rw [show (3 * b + 2) % 3 = 2 from by omega]
  rfl
set_option maxHeartbeats 4000000
theorem refValid_ok (k : Nat) {h : HF} {n : Nat} {vB vO vF vE : Value} {p : Sdp} {fr : Int} (hp : SdpR h n vB vO vF vE p) (hok : SdpB p) : VF (cal (k + 9)) 16 [.agg #[vB, .int .i64 fr, vO, vF, vE]] h n fun v => ∃ b : Bool, v = .bool b ∧ (b = true ↔ SdpV p fr) := by
  refine CF_flat (fn := Tryz.f16) rfl rfl rfl rfl ?_
  obtain ⟨hB, hO, hFr, ce, hE, hEq⟩ := hp
  obtain ⟨aB, lB, cB, rfl, _⟩ := hB.len
  obtain ⟨aO, lO, cO, rfl, _⟩ := hO.len
  obtain ⟨aF, lF, cF, rfl, _⟩ := hFr.len
  obtain ⟨aE, lE, cE, rfl, _⟩ := hE.len
  have hlB := hB.lenEq (m := p.blocks.length) (by omega) (by simp [i64s])
  have hlO := hO.lenEq (m := p.obj.length) (by omega) (ents_len _)
  have hlF := hFr.lenEq (m := p.objFree.length) (by omega) (by simp [strs])
  have hlE := hE.lenEq (m := p.eqs.length) (by omega) hEq.len
  subst hlB hlO hlF hlE
  have hbl := hok.bl
  have hol := hok.ol
  have hfl := hok.fl
  have heql := hok.el
  simp only [NV, Nat.reduceEqDiff, reduceCtorEq]
  refine st_mkp (cs := [.slice aB p.blocks.length cB, .int .i64 fr, .slice aO p.obj.length cO, .slice aF p.objFree.length cF, .slice aE p.eqs.length cE]) rfl rfl rfl rfl rfl ?_
  generalize hh : upd h (3 * n + 2) _ = h1
  have hx1 : Ext n h h1 := by rw [← hh]; exact Ext.upd (by omega)
  have hr1 : ∃ ty, h1 (3 * n + 2) = some (.row [.slice aB p.blocks.length cB, .int .i64 fr, .slice aO p.obj.length cO, .slice aF p.objFree.length cF, .slice aE p.eqs.length cE] ty) := ⟨_, by rw [← hh, upd_same]⟩
  obtain ⟨ty1, hr1⟩ := hr1
  clear hh
  repeat refine zR ?_
  simp only [EC_skip, EO_nil, after_normal, EC_seq]
  refine EC_cutx (α := Bool) (fun z => [(1, .pointer (some ⟨3 * n + 2, 0, none⟩)), (32, .bool z)]) (fun z h' n' w => h1 = h' ∧ n' = n + 1 ∧ w = [] ∧ (z = false ↔ (1 ≤ p.blocks.length ∧ p.blocks.length ≤ 64) ∧ (0 ≤ fr ∧ fr ≤ 512) ∧ p.eqs.length ≤ 512)) ?_ ?_
  · simp only [NV, Nat.reduceEqDiff, reduceCtorEq]
    by_cases q1 : p.blocks.length < 1
    · repeat (first | refine st_load1 rfl rfl rfl rfl rfl rfl hr1 rfl rfl ?_ | refine zR ?_)
      simp only [NV, Nat.reduceEqDiff, reduceCtorEq]
      exact cutx_mk true ⟨rfl, rfl, trivial⟩ ⟨rfl, rfl, rfl, by simp only [Bool.true_eq_false, false_iff]; omega⟩
    by_cases q2 : 64 < p.blocks.length
    · repeat (first | refine st_load1 rfl rfl rfl rfl rfl rfl hr1 rfl rfl ?_ | refine zR ?_)
      simp only [NV, Nat.reduceEqDiff, reduceCtorEq]
      exact cutx_mk true ⟨rfl, rfl, trivial⟩ ⟨rfl, rfl, rfl, by simp only [Bool.true_eq_false, false_iff]; omega⟩
    by_cases q3 : fr < 0
    · repeat (first | refine st_load1 rfl rfl rfl rfl rfl rfl hr1 rfl rfl ?_ | refine zR ?_)
      simp only [NV, Nat.reduceEqDiff, reduceCtorEq]
      exact cutx_mk true ⟨rfl, rfl, trivial⟩ ⟨rfl, rfl, rfl, by simp only [Bool.true_eq_false, false_iff]; omega⟩
    by_cases q4 : 512 < fr
    · repeat (first | refine st_load1 rfl rfl rfl rfl rfl rfl hr1 rfl rfl ?_ | refine zR ?_)
      simp only [NV, Nat.reduceEqDiff, reduceCtorEq]
      exact cutx_mk true ⟨rfl, rfl, trivial⟩ ⟨rfl, rfl, rfl, by simp only [Bool.true_eq_false, false_iff]; omega⟩
    by_cases q5 : 512 < p.eqs.length
    · repeat (first | refine st_load1 rfl rfl rfl rfl rfl rfl hr1 rfl rfl ?_ | refine zR ?_)
      simp only [NV, Nat.reduceEqDiff, reduceCtorEq]
      exact cutx_mk true ⟨rfl, rfl, trivial⟩ ⟨rfl, rfl, rfl, by simp only [Bool.true_eq_false, false_iff]; omega⟩
    · repeat (first | refine st_load1 rfl rfl rfl rfl rfl rfl hr1 rfl rfl ?_ | refine zR ?_)
      simp only [NV, Nat.reduceEqDiff, reduceCtorEq]
      exact cutx_mk false ⟨rfl, rfl, trivial⟩ ⟨rfl, rfl, rfl, fun _ => by omega, fun _ => rfl⟩
  rintro z t _ _ _ ⟨rfl, rfl, rfl, hz⟩
  cases z with
  | true =>
    rw [EC_cond_true rfl]
    simp only [NV, Nat.reduceEqDiff, reduceCtorEq]
    repeat refine zR ?_
    simp only [NV, Nat.reduceEqDiff, reduceCtorEq]
    exact retF _ rfl (resF_tmp rfl) rfl rfl ⟨false, rfl, fun h => absurd h (by simp), fun hV => absurd (hz.2 ⟨hV.bl, hV.free, hV.el⟩) (by simp)⟩
  | false =>
  rw [EC_cond_false rfl]
  simp only [NV, Nat.reduceEqDiff, reduceCtorEq]
  obtain ⟨g1, g2, g3⟩ := hz.1 rfl
  clear hz
  repeat (first | refine st_load1 rfl rfl rfl rfl rfl rfl hr1 rfl rfl ?_ | refine zR ?_)
  simp only [NV, Nat.reduceEqDiff, reduceCtorEq]
  have hB1 := hB.ext hx1 (Nat.le_succ n)
  have hO1 := hO.ext hx1 (Nat.le_succ n)
  have hF1 := hFr.ext hx1 (Nat.le_succ n)
  have hE1 := hE.ext hx1 (Nat.le_succ n)
  have hEq1 := hEq.ext hx1 (Nat.le_succ n)
  refine EC_for (α := Nat) (fun j => [(1, .pointer (some ⟨3 * n + 2, 0, none⟩)), (34, .slice aB p.blocks.length cB), (35, .int .i64 (p.blocks.length : Int)), (36, .int .i64 (j : Int))]) (fun j h' n' w => h1 = h' ∧ n' = n + 1 ∧ w = [] ∧ j ≤ p.blocks.length ∧ ∀ i d, i < j → p.blocks[i]? = some d → 1 ≤ d ∧ d ≤ 32) (fun j => p.blocks.length - j) 0 ⟨rfl, rfl, rfl, rfl, trivial⟩ ⟨rfl, rfl, rfl, Nat.zero_le _, fun i d hi => absurd hi (Nat.not_lt_zero i)⟩ (by show p.blocks.length - 0 < LL; unfold LL; omega) ?_
  rintro j t _ _ _ ⟨rfl, rfl, rfl, hj, hbs⟩
  simp only [NV, Nat.reduceEqDiff, reduceCtorEq]
  by_cases hjB : j ≠ p.blocks.length
  · obtain ⟨d, hd⟩ : ∃ d, p.blocks[j]? = some d := ⟨p.blocks[j]'(by omega), List.getElem?_eq_getElem (by omega)⟩
    obtain ⟨bB, oB, xB, csB, rfl, hbB, hxB, hcB, hcapB, hleB, heB⟩ := hB.inv (by omega)
    have hcell : csB[oB + j]? = some (.int .i64 d) := cell_at heB (by rw [i64s, List.getElem?_map, hd]; rfl)
    have hxB1 : h1 bB = some xB := by rw [hx1 bB hbB]; exact hxB
    repeat refine zR ?_
    simp only [NV, Nat.reduceEqDiff, reduceCtorEq]
    rw [EC_cond_true rfl]
    simp only [NV, Nat.reduceEqDiff, reduceCtorEq]
    refine st_idx rfl rfl rfl rfl rfl rfl rfl rfl (by omega) ?_
    refine st_load1 rfl rfl rfl rfl rfl rfl hxB1 hcB (v := .int .i64 d) (by rw [← hcell]; congr 1; omega) ?_
    repeat refine zR ?_
    simp only [NV, Nat.reduceEqDiff, reduceCtorEq]
    by_cases hd1 : d < 1
    · repeat refine zR ?_
      simp only [NV, Nat.reduceEqDiff, reduceCtorEq]
      rw [EC_cond_true rfl]
      simp only [NV, Nat.reduceEqDiff, reduceCtorEq]
      repeat refine zR ?_
      simp only [NV, Nat.reduceEqDiff, reduceCtorEq]
      exact retF _ rfl (resF_tmp rfl) rfl rfl ⟨false, rfl, fun h => absurd h (by simp), fun hV => by have := hV.b d (List.mem_of_getElem? hd); omega⟩
    by_cases hd2 : 32 < d
    · repeat refine zR ?_
      simp only [NV, Nat.reduceEqDiff, reduceCtorEq]
      rw [EC_cond_true rfl]
      simp only [NV, Nat.reduceEqDiff, reduceCtorEq]
      repeat refine zR ?_
      simp only [NV, Nat.reduceEqDiff, reduceCtorEq]
      exact retF _ rfl (resF_tmp rfl) rfl rfl ⟨false, rfl, fun h => absurd h (by simp), fun hV => by have := hV.b d (List.mem_of_getElem? hd); omega⟩
    repeat refine zR ?_
    simp only [NV, Nat.reduceEqDiff, reduceCtorEq]
    rw [EC_cond_false rfl]
    simp only [NV, Nat.reduceEqDiff, reduceCtorEq]
    repeat refine zR ?_
    simp only [NV, Nat.reduceEqDiff, reduceCtorEq]
    refine goOn (j + 1) (by show p.blocks.length - (j + 1) < p.blocks.length - j; omega) ⟨rfl, rfl, rfl, by show Value.int .i64 _ = Value.int .i64 _; congr 1, trivial⟩ ⟨rfl, rfl, rfl, by show j + 1 ≤ p.blocks.length; omega, fun i d' hi hd' => ?_⟩
    by_cases hij : i < j
    · exact hbs i d' hij hd'
    · have : i = j := by omega
      subst this
      rw [hd] at hd'
      injection hd' with hd'
      omega
  have hjB : j = p.blocks.length := Classical.not_not.1 hjB
  have hbs' : ∀ d ∈ p.blocks, 1 ≤ d ∧ d ≤ 32 := fun d hd => by
    obtain ⟨i, hi, e⟩ := List.getElem_of_mem hd
    exact hbs i d (by omega) (by rw [List.getElem?_eq_getElem hi, e])
  clear hbs
  repeat refine zR ?_
  simp only [NV, Nat.reduceEqDiff, reduceCtorEq]
  rw [EC_cond_false rfl]
  simp only [NV, Nat.reduceEqDiff, reduceCtorEq]
  repeat (first | refine st_load1 rfl rfl rfl rfl rfl rfl hr1 rfl rfl ?_ | refine zR ?_)
  refine st_vf _ rfl rfl rfl rfl rfl (listV_ok (k + 1) hO1 hB1 hok.os (by omega)) ?_
  rintro _ ⟨b1, rfl, hb1⟩
  cases b1 with
  | false =>
    repeat refine zR ?_
    simp only [NV, Nat.reduceEqDiff, reduceCtorEq]
    rw [EC_cond_true rfl]
    simp only [NV, Nat.reduceEqDiff, reduceCtorEq]
    repeat refine zR ?_
    simp only [NV, Nat.reduceEqDiff, reduceCtorEq]
    exact retF _ rfl (resF_tmp rfl) rfl rfl ⟨false, rfl, fun h => absurd h (by simp), fun hV => hb1.2 hV.obj⟩
  | true =>
  by_cases hofl : (p.objFree.length : Int) = fr
  case neg =>
    repeat (first | refine st_load1 rfl rfl rfl rfl rfl rfl hr1 rfl rfl ?_ | refine zR ?_)
    simp only [NV, Nat.reduceEqDiff, reduceCtorEq]
    rw [EC_cond_true rfl]
    simp only [NV, Nat.reduceEqDiff, reduceCtorEq]
    repeat refine zR ?_
    simp only [NV, Nat.reduceEqDiff, reduceCtorEq]
    exact retF _ rfl (resF_tmp rfl) rfl rfl ⟨false, rfl, fun h => absurd h (by simp), fun hV => absurd hV.ofl hofl⟩
  repeat (first | refine st_load1 rfl rfl rfl rfl rfl rfl hr1 rfl rfl ?_ | refine zR ?_)
  refine st_vf _ rfl rfl rfl rfl rfl (numbersR_ok k hF1 hok.fs (by omega)) ?_
  rintro _ ⟨b2, rfl, hb2⟩
  cases b2 with
  | false =>
    repeat refine zR ?_
    simp only [NV, Nat.reduceEqDiff, reduceCtorEq]
    rw [EC_cond_true rfl]
    simp only [NV, Nat.reduceEqDiff, reduceCtorEq]
    repeat refine zR ?_
    simp only [NV, Nat.reduceEqDiff, reduceCtorEq]
    exact retF _ rfl (resF_tmp rfl) rfl rfl ⟨false, rfl, fun h => absurd h (by simp), fun hV => hb2.2 hV.ofs⟩
  | true =>
  repeat refine zR ?_
  simp only [NV, Nat.reduceEqDiff, reduceCtorEq]
  rw [EC_cond_false rfl]
  simp only [NV, Nat.reduceEqDiff, reduceCtorEq]
  repeat (first | refine st_load1 rfl rfl rfl rfl rfl rfl hr1 rfl rfl ?_ | refine zR ?_)
  simp only [NV, Nat.reduceEqDiff, reduceCtorEq]
  refine EC_for (α := Nat) (fun j => [(1, .pointer (some ⟨3 * n + 2, 0, none⟩)), (68, .slice aE p.eqs.length cE), (69, .int .i64 (p.eqs.length : Int)), (70, .int .i64 (j : Int))]) (fun j h' n' w => Ext (n + 1) h1 h' ∧ n + 1 ≤ n' ∧ w = [] ∧ j ≤ p.eqs.length ∧ ∀ i q, i < j → p.eqs[i]? = some q → ListV p.blocks q.es ∧ (q.fr.length : Int) = fr ∧ ∀ s ∈ q.rhs :: q.fr, isNum s) (fun j => p.eqs.length - j) 0 ⟨rfl, rfl, rfl, rfl, trivial⟩ ⟨Ext.refl _ _, Nat.le_refl _, rfl, Nat.zero_le _, fun i d hi => absurd hi (Nat.not_lt_zero i)⟩ (by show p.eqs.length - 0 < LL; unfold LL; omega) ?_
  rintro i t h2 n2 _ ⟨hx2, hn2, rfl, hi, hqs⟩
  simp only [NV, Nat.reduceEqDiff, reduceCtorEq]
  by_cases hiE : i = p.eqs.length
  · repeat refine zR ?_
    simp only [NV, Nat.reduceEqDiff, reduceCtorEq]
    rw [EC_cond_false rfl]
    simp only [NV, Nat.reduceEqDiff, reduceCtorEq]
    repeat refine zR ?_
    simp only [NV, Nat.reduceEqDiff, reduceCtorEq]
    refine retF _ rfl (resF_tmp rfl) rfl rfl ⟨true, rfl, fun _ => ⟨g1, g2, g3, hbs', hb1.1 rfl, hofl, hb2.1 rfl, fun q hq => ?_⟩, fun _ => rfl⟩
    obtain ⟨i', hi', e⟩ := List.getElem_of_mem hq
    exact hqs i' q (by omega) (by rw [List.getElem?_eq_getElem hi', e])
  obtain ⟨q, hq⟩ : ∃ q, p.eqs[i]? = some q := ⟨p.eqs[i]'(by omega), List.getElem?_eq_getElem (by omega)⟩
  have hqm := List.mem_of_getElem? hq
  obtain ⟨q1, q2, q3, q4⟩ := hok.qs q hqm
  obtain ⟨ve, vf, hce, hve, hvf⟩ := hEq1.get hq
  obtain ⟨ae, le, cce, rfl, _⟩ := hve.len
  obtain ⟨af, lf, ccf, rfl, _⟩ := hvf.len
  have hle := hve.lenEq (m := q.es.length) (by omega) (ents_len _)
  have hlf := hvf.lenEq (m := q.fr.length) (by omega) (by simp [strs])
  subst hle hlf
  obtain ⟨bE, oE, xE, csE, rfl, hbE, hxE, hcE, hcapE, hleE, heE⟩ := hE1.inv (by omega)
  have hcell : (csE.drop (oE + i * 3)).take 3 = [.slice ae q.es.length cce, .slice af q.fr.length ccf, .string ⟨⟨q.rhs⟩⟩] := by rw [take_at heE (by omega), hce]
  have hxE2 : h2 bE = some xE := by rw [hx2 bE hbE]; exact hxE
  repeat refine zR ?_
  simp only [NV, Nat.reduceEqDiff, reduceCtorEq]
  rw [EC_cond_true rfl]
  simp only [NV, Nat.reduceEqDiff, reduceCtorEq]
  refine st_idx rfl rfl rfl rfl rfl rfl rfl rfl (by omega) ?_
  refine st_load (v := .agg #[.slice ae q.es.length cce, .slice af q.fr.length ccf, .string ⟨⟨q.rhs⟩⟩]) rfl rfl rfl rfl rfl (loadn_eq rfl rfl hxE2 hcE (by omega) (by rw [← hcell]; congr 2 <;> omega)) ?_
  refine st_alloc rfl rfl rfl rfl rfl ?_
  refine st_storeW [.slice ae q.es.length cce, .slice af q.fr.length ccf, .string ⟨⟨q.rhs⟩⟩] rfl rfl rfl rfl rfl rfl rfl rfl (upd_same _ _ _) rfl (by show 3 * n ≤ 3 * n2 + 2; omega) ?_
  rw [upd_upd]
  generalize hh : upd h2 (3 * n2 + 2) _ = h3
  have hp3 : ∃ ty, h3 (3 * n2 + 2) = some (.row [.slice ae q.es.length cce, .slice af q.fr.length ccf, .string ⟨⟨q.rhs⟩⟩] ty) := ⟨_, by rw [← hh, upd_same]⟩
  obtain ⟨ty3, hp3⟩ := hp3
  have hx3 : Ext n2 h2 h3 := by rw [← hh]; exact Ext.upd (by omega)
  clear hh
  have hx13 : Ext (n + 1) h1 h3 := hx2.trans hx3 hn2
  have hr3 : h3 (3 * n + 2) = some (.row [.slice aB p.blocks.length cB, .int .i64 fr, .slice aO p.obj.length cO, .slice aF p.objFree.length cF, .slice (some ⟨bE, oE, none⟩) p.eqs.length cE] ty1) := by rw [hx13 _ (by omega)]; exact hr1
  simp only [NV, Nat.reduceEqDiff, reduceCtorEq]
  repeat (first | refine st_load1 rfl rfl rfl rfl rfl rfl hp3 rfl rfl ?_ | refine st_load1 rfl rfl rfl rfl rfl rfl hr3 rfl rfl ?_ | refine zR ?_)
  refine st_vf _ rfl rfl rfl rfl rfl (listV_ok (k + 1) (hve.ext hx13 (show n + 1 ≤ n2 + 1 by omega)) (hB1.ext hx13 (show n + 1 ≤ n2 + 1 by omega)) q3 (by omega)) ?_
  rintro _ ⟨b3, rfl, hb3⟩
  cases b3 with
  | false =>
    repeat refine zR ?_
    simp only [NV, Nat.reduceEqDiff, reduceCtorEq]
    rw [EC_cond_true rfl]
    simp only [NV, Nat.reduceEqDiff, reduceCtorEq]
    repeat refine zR ?_
    simp only [NV, Nat.reduceEqDiff, reduceCtorEq]
    exact retF _ rfl (resF_tmp rfl) rfl rfl ⟨false, rfl, fun h => absurd h (by simp), fun hV => hb3.2 (hV.eqs q hqm).1⟩
  | true =>
  by_cases hqf : (q.fr.length : Int) = fr
  case neg =>
    repeat (first | refine st_load1 rfl rfl rfl rfl rfl rfl hp3 rfl rfl ?_ | refine st_load1 rfl rfl rfl rfl rfl rfl hr3 rfl rfl ?_ | refine zR ?_)
    simp only [NV, Nat.reduceEqDiff, reduceCtorEq]
    rw [EC_cond_true rfl]
    simp only [NV, Nat.reduceEqDiff, reduceCtorEq]
    repeat refine zR ?_
    simp only [NV, Nat.reduceEqDiff, reduceCtorEq]
    exact retF _ rfl (resF_tmp rfl) rfl rfl ⟨false, rfl, fun h => absurd h (by simp), fun hV => absurd (hV.eqs q hqm).2.1 hqf⟩
  repeat (first | refine st_load1 rfl rfl rfl rfl rfl rfl hp3 rfl rfl ?_ | refine st_load1 rfl rfl rfl rfl rfl rfl hr3 rfl rfl ?_ | refine zR ?_)
  refine st_mks (cs := [.string ⟨⟨q.rhs⟩⟩]) rfl rfl rfl rfl rfl ?_
  have hx4 : Ext (n2 + 1) h3 (upd h3 (3 * (n2 + 1) + 2) (some (.row [.string ⟨⟨q.rhs⟩⟩] 9))) := Ext.upd (by omega)
  have hp4 : (upd h3 (3 * (n2 + 1) + 2) (some (.row [.string ⟨⟨q.rhs⟩⟩] 9))) (3 * n2 + 2) = _ := (hx4 _ (by omega)).trans hp3
  repeat (first | refine st_load1 rfl rfl rfl rfl rfl rfl hp4 rfl rfl ?_ | refine zR ?_)
  obtain ⟨v', h5, n5, ha5, hn5, hx5, hs5, a5, rfl⟩ := append_full (E := env) (h := upd h3 (3 * (n2 + 1) + 2) (some (.row [.string ⟨⟨q.rhs⟩⟩] 9))) (n := n2 + 1 + 1) (sT := 24) (b := 3 * (n2 + 1) + 2) (L := 1) (m := q.fr.length) (old := [.string ⟨⟨q.rhs⟩⟩]) rfl rfl rfl (by decide) (argS_sl ((hvf.ext hx13 (show n + 1 ≤ n2 + 1 by omega)).ext hx4 (Nat.le_succ _))) (by omega) (gro_two _) (upd_same _ _ _) (by omega) rfl (by rw [strs_len, Nat.mul_one])
  refine st_append rfl rfl rfl rfl rfl ha5 ?_
  refine st_vf _ rfl rfl rfl rfl rfl (numbersR_ok k (S := q.rhs :: q.fr) hs5 q4 (by rw [List.length_cons]; omega)) ?_
  rintro _ ⟨b4, rfl, hb4⟩
  cases b4 with
  | false =>
    repeat refine zR ?_
    simp only [NV, Nat.reduceEqDiff, reduceCtorEq]
    rw [EC_cond_true rfl]
    simp only [NV, Nat.reduceEqDiff, reduceCtorEq]
    repeat refine zR ?_
    simp only [NV, Nat.reduceEqDiff, reduceCtorEq]
    exact retF _ rfl (resF_tmp rfl) rfl rfl ⟨false, rfl, fun h => absurd h (by simp), fun hV => hb4.2 (hV.eqs q hqm).2.2⟩
  | true =>
  repeat refine zR ?_
  simp only [NV, Nat.reduceEqDiff, reduceCtorEq]
  rw [EC_cond_false rfl]
  simp only [NV, Nat.reduceEqDiff, reduceCtorEq]
  repeat refine zR ?_
  simp only [NV, Nat.reduceEqDiff, reduceCtorEq]
  refine goOn (i + 1) (by show p.eqs.length - (i + 1) < p.eqs.length - i; omega) ⟨rfl, rfl, rfl, by show Value.int .i64 _ = Value.int .i64 _; congr 1, trivial⟩ ⟨fun b hb => (hx5 b (by omega)).trans ((hx4 b (by omega)).trans (hx13 b hb)), by show n + 1 ≤ n5; omega, rfl, by show i + 1 ≤ p.eqs.length; omega, fun i' q' hi' hq' => ?_⟩
  by_cases hij : i' < i
  · exact hqs i' q' hij hq'
  · have : i' = i := by omega
    subst this
    rw [hq] at hq'
    injection hq' with hq'
    subst hq'
    exact ⟨hb3.1 rfl, hqf, hb4.1 rfl⟩
end Go.Proofs.YtokfihhdllmbmaaGreatDoor
namespace Go.Proofs.YtokfihhdllmbmaaGreatDoor
open Go Go.GL
def RV (kr : Nat) (R : List UInt8 → Prop) : Prop := ∀ (j : Nat) {h : HF}, GK.G h → ∀ (n : Nat), 20 ≤ n → ∀ (s : List UInt8), R s → VF (cal (kr + j)) 63 [.string ⟨⟨s⟩⟩] h n fun v => ∃ b : Bool, v = .bool b ∧ (b = true ↔ isNum s)
set_option maxHeartbeats 4000000
theorem numbersS_ok (k : Nat) {R : List UInt8 → Prop} (hR : RV (k + 1) R) {h : HF} (hG : GK.G h) {n : Nat} (hn : 20 ≤ n) {a : Option Addr} {len cap : Nat} {S : List (List UInt8)} (hs : Sl h n 1 (.slice a len cap) (strs S)) (hS : ∀ s ∈ S, R s) (hb : S.length < 1000000) : VF (cal (k + 2)) 62 [.slice a len cap] h n fun v => ∃ b : Bool, v = .bool b ∧ (b = true ↔ ∀ s ∈ S, isNum s) := by
  refine CF_flat (fn := Tryz.f62) rfl rfl rfl rfl ?_
  have e1 := strs_at hs
  subst e1
  simp only [NV, Nat.reduceEqDiff, reduceCtorEq]
  repeat refine zR ?_
  simp only [NV, Nat.reduceEqDiff, reduceCtorEq]
  repeat refine zR ?_
  simp only [NV, Nat.reduceEqDiff, reduceCtorEq]
  refine EC_for (α := Nat) (fun z => [(0, .slice a S.length cap), (5, .slice a S.length cap), (6, .int .i64 (S.length : Int)), (7, .int .i64 (z : Int))]) (fun z h' n' w' => h = h' ∧ n' = n ∧ w' = [] ∧ z ≤ S.length ∧ ∀ i s, i < z → S[i]? = some s → isNum s) (fun z => S.length - z) 0 ⟨rfl, rfl, rfl, rfl, trivial⟩ ⟨rfl, rfl, rfl, Nat.zero_le _, fun i d hi => absurd hi (Nat.not_lt_zero i)⟩ (by show S.length - 0 < LL; unfold LL; omega) ?_
  rintro z t _ _ _ ⟨rfl, rfl, rfl, hz, hall⟩
  simp only [NV, Nat.reduceEqDiff, reduceCtorEq]
  by_cases hze : z = S.length
  · repeat refine zR ?_
    simp only [NV, Nat.reduceEqDiff, reduceCtorEq]
    rw [EC_cond_false rfl]
    simp only [NV, Nat.reduceEqDiff, reduceCtorEq]
    repeat refine zR ?_
    simp only [NV, Nat.reduceEqDiff, reduceCtorEq]
    refine retF _ rfl (resF_tmp rfl) rfl rfl ⟨true, rfl, fun _ s hs => ?_, fun _ => rfl⟩
    obtain ⟨i, hi, e⟩ := List.getElem_of_mem hs
    exact hall i s (by omega) (by rw [List.getElem?_eq_getElem hi, e])
  obtain ⟨s, hsz⟩ : ∃ s, S[z]? = some s := ⟨S[z]'(by omega), List.getElem?_eq_getElem (by omega)⟩
  have hmem : s ∈ S := List.mem_of_getElem? hsz
  repeat refine zR ?_
  simp only [NV, Nat.reduceEqDiff, reduceCtorEq]
  rw [EC_cond_true rfl]
  simp only [NV, Nat.reduceEqDiff, reduceCtorEq]
  refine st_at (f := fun s => Value.string ⟨⟨s⟩⟩) (j := z) (dv := s) rfl rfl rfl rfl rfl rfl rfl hs rfl rfl hsz (fun _ => rfl) rfl rfl rfl rfl fun _ => ?_
  repeat refine zR ?_
  simp only [NV, Nat.reduceEqDiff, reduceCtorEq]
  refine zM ?_
  refine st_vf _ rfl rfl rfl rfl rfl (hR 0 hG _ hn s (hS s hmem)) ?_
  rintro _ ⟨b, rfl, hb'⟩
  cases b with
  | false =>
    repeat refine zR ?_
    simp only [NV, Nat.reduceEqDiff, reduceCtorEq]
    rw [EC_cond_true rfl]
    simp only [NV, Nat.reduceEqDiff, reduceCtorEq]
    repeat refine zR ?_
    simp only [NV, Nat.reduceEqDiff, reduceCtorEq]
    exact retF _ rfl (resF_tmp rfl) rfl rfl ⟨false, rfl, fun h => absurd h (by simp), fun hV => hb'.2 (hV s hmem)⟩
  | true =>
  repeat refine zR ?_
  simp only [NV, Nat.reduceEqDiff, reduceCtorEq]
  rw [EC_cond_false rfl]
  simp only [NV, Nat.reduceEqDiff, reduceCtorEq]
  repeat refine zR ?_
  simp only [NV, Nat.reduceEqDiff, reduceCtorEq]
  refine goOn (z + 1) (by show S.length - (z + 1) < S.length - z; omega) ⟨rfl, rfl, rfl, by show Value.int .i64 _ = Value.int .i64 _; congr 1, trivial⟩ ⟨rfl, rfl, rfl, by show z + 1 ≤ S.length; omega, fun i s' hi hs' => ?_⟩
  by_cases hij : i < z
  · exact hall i s' hij hs'
  · have : i = z := by omega
    subst this
    rw [hsz] at hs'
    injection hs' with hs'
    subst hs'
    exact hb'.1 rfl
theorem listS_ok (k : Nat) {R : List UInt8 → Prop} (hR : RV (k + 1) R) {h : HF} (hG : GK.G h) {n : Nat} {aE aB : Option Addr} {lE cE lB cB : Nat} {E : List Ent} {B : List Int} (hn : 20 ≤ n) (hE : Sl h n 4 (.slice aE lE cE) (ents E)) (hB : Sl h n 1 (.slice aB lB cB) (i64s B)) (hl : ∀ e ∈ E, R e.v) (hb : E.length < 1000000 ∧ B.length < 1000000) : VF (cal (k + 2)) 61 [.slice aE lE cE, .slice aB lB cB] h n fun v => ∃ b : Bool, v = .bool b ∧ (b = true ↔ ListV B E) := by
  refine CF_flat (fn := Tryz.f61) rfl rfl rfl rfl ?_
  have hlE : lE = E.length := by
    obtain ⟨a', len', cap', e, hl⟩ := hE.len
    injection e with e1 e2 e3
    rw [ents_len] at hl
    omega
  have hlB : lB = B.length := by
    obtain ⟨a', len', cap', e, hl⟩ := hB.len
    injection e with e1 e2 e3
    simp [i64s] at hl
    omega
  subst hlE hlB
  simp only [NV, Nat.reduceEqDiff, reduceCtorEq]
  repeat refine zR ?_
  simp only [NV, Nat.reduceEqDiff, reduceCtorEq]
  repeat refine zR ?_
  simp only [NV, Nat.reduceEqDiff, reduceCtorEq]
  refine EC_for (α := Nat) (fun j => [(0, .slice aE E.length cE), (1, .slice aB B.length cB), (7, .slice aE E.length cE), (8, .int .i64 (E.length : Int)), (9, .int .i64 (j : Int))]) (fun j h' n' w => Ext n h h' ∧ n ≤ n' ∧ w = [] ∧ j ≤ E.length ∧ ∀ i e, i < j → E[i]? = some e → EntV B E i e) (fun j => E.length - j) 0 ⟨rfl, rfl, rfl, rfl, rfl, trivial⟩ ⟨Ext.refl _ _, Nat.le_refl _, rfl, Nat.zero_le _, fun i e hi => absurd hi (Nat.not_lt_zero i)⟩ (by show E.length - 0 < LL; unfold LL; omega) ?_
  rintro j t h1 n1 _ ⟨hx1, hn1, rfl, hj, hall⟩
  simp only [NV, Nat.reduceEqDiff, reduceCtorEq]
  by_cases hjE : j = E.length
  · repeat refine zR ?_
    simp only [NV, Nat.reduceEqDiff, reduceCtorEq]
    rw [EC_cond_false rfl]
    simp only [NV, Nat.reduceEqDiff, reduceCtorEq]
    repeat refine zR ?_
    simp only [NV, Nat.reduceEqDiff, reduceCtorEq]
    exact retF _ rfl (resF_tmp rfl) rfl rfl ⟨true, rfl, fun _ i e hi => hall i e (by have := (List.getElem?_eq_some_iff.1 hi).1; omega) hi, fun _ => rfl⟩
  obtain ⟨e, he'⟩ : ∃ e, E[j]? = some e := ⟨E[j]'(by omega), List.getElem?_eq_getElem (by omega)⟩
  have hmem : e ∈ E := List.mem_of_getElem? he'
  obtain ⟨bE, oE, xE, csE, rfl, hbE, hxE, hcE, hcapE, hleE, heE⟩ := hE.inv (by omega)
  have hcell : (csE.drop (oE + j * 4)).take 4 = entC e := by rw [take_at heE (by omega), ents_at he']
  have hxE1 : h1 bE = some xE := by rw [hx1 bE hbE]; exact hxE
  repeat refine zR ?_
  simp only [NV, Nat.reduceEqDiff, reduceCtorEq]
  rw [EC_cond_true rfl]
  simp only [NV, Nat.reduceEqDiff, reduceCtorEq]
  repeat refine zR ?_
  refine st_idx rfl rfl rfl rfl rfl rfl rfl rfl (by omega) ?_
  refine st_load (v := .agg (entC e).toArray) rfl rfl rfl rfl rfl (loadn_eq rfl rfl hxE1 hcE (by omega) (by rw [← hcell]; congr 2 <;> omega)) ?_
  refine st_alloc rfl rfl rfl rfl rfl ?_
  repeat refine zR ?_
  refine st_storeW (entC e) rfl rfl rfl rfl rfl rfl rfl rfl (upd_same _ _ _) rfl (by show 3 * n ≤ 3 * n1 + 2; omega) ?_
  rw [upd_upd]
  generalize hh : upd h1 (3 * n1 + 2) _ = h2
  have hp2 : ∃ ty, h2 (3 * n1 + 2) = some (.row (entC e) ty) := ⟨_, by rw [← hh, upd_same]⟩
  obtain ⟨ty2, hp2⟩ := hp2
  have hx2 : Ext n1 h1 h2 := by rw [← hh]; exact Ext.upd (by omega)
  clear hh
  have hxE2 : h2 bE = some xE := by rw [hx2 bE (by omega)]; exact hxE1
  have hG2 : GK.G h2 := G_ext hG (hx1.trans hx2 hn1) hn
  simp only [EC_skip, EO_nil, after_normal, EC_seq]
  refine EC_cutx (α := Bool) (fun z => [(0, .slice (some ⟨bE, oE, none⟩) E.length cE), (1, .slice aB B.length cB), (5, .int .i64 (j : Int)), (6, .pointer (some ⟨3 * n1 + 2, 0, none⟩)), (7, .slice (some ⟨bE, oE, none⟩) E.length cE), (8, .int .i64 (E.length : Int)), (9, .int .i64 (j : Int)), (45, .bool z)]) (fun z h' n' w => h2 = h' ∧ n' = n1 + 1 ∧ w = [] ∧ (z = false ↔ Fits B e)) ?_ ?_
  · rw [EC_quiet rfl]
    by_cases q1 : e.b < 0
    · repeat (first | refine st_load1 rfl rfl rfl rfl rfl rfl hp2 rfl rfl ?_ | refine zR ?_)
      simp only [NV, Nat.reduceEqDiff, reduceCtorEq]
      exact cutx_mk true ⟨rfl, rfl, rfl, rfl, rfl, rfl, rfl, rfl, trivial⟩ ⟨rfl, rfl, rfl, by simp only [Bool.true_eq_false, false_iff]; rintro ⟨⟨g1, g2⟩, g3, g4⟩; omega⟩
    by_cases q2 : (B.length : Int) ≤ e.b
    · repeat (first | refine st_load1 rfl rfl rfl rfl rfl rfl hp2 rfl rfl ?_ | refine zR ?_)
      simp only [NV, Nat.reduceEqDiff, reduceCtorEq]
      exact cutx_mk true ⟨rfl, rfl, rfl, rfl, rfl, rfl, rfl, rfl, trivial⟩ ⟨rfl, rfl, rfl, by simp only [Bool.true_eq_false, false_iff]; rintro ⟨⟨g1, g2⟩, g3, g4⟩; omega⟩
    by_cases q3 : e.r < 0
    · repeat (first | refine st_load1 rfl rfl rfl rfl rfl rfl hp2 rfl rfl ?_ | refine zR ?_)
      simp only [NV, Nat.reduceEqDiff, reduceCtorEq]
      exact cutx_mk true ⟨rfl, rfl, rfl, rfl, rfl, rfl, rfl, rfl, trivial⟩ ⟨rfl, rfl, rfl, by simp only [Bool.true_eq_false, false_iff]; rintro ⟨⟨g1, g2⟩, g3, g4⟩; omega⟩
    by_cases q4 : e.c < e.r
    · repeat (first | refine st_load1 rfl rfl rfl rfl rfl rfl hp2 rfl rfl ?_ | refine zR ?_)
      simp only [NV, Nat.reduceEqDiff, reduceCtorEq]
      exact cutx_mk true ⟨rfl, rfl, rfl, rfl, rfl, rfl, rfl, rfl, trivial⟩ ⟨rfl, rfl, rfl, by simp only [Bool.true_eq_false, false_iff]; rintro ⟨⟨g1, g2⟩, g3, g4⟩; omega⟩
    obtain ⟨bB, oB, xB, csB, rfl, hbB, hxB, hcB, hcapB, hleB, heB⟩ := hB.inv (by omega)
    have hxB2 : h2 bB = some xB := by rw [hx2 bB (by omega), hx1 bB hbB]; exact hxB
    obtain ⟨dd, hdd⟩ : ∃ d, B[e.b.toNat]? = some d := ⟨B[e.b.toNat]'(by omega), List.getElem?_eq_getElem (by omega)⟩
    have hcellB : csB[oB + e.b.toNat]? = some (.int .i64 dd) := cell_at heB (by rw [i64s, List.getElem?_map, hdd]; rfl)
    repeat (first | refine st_load1 rfl rfl rfl rfl rfl rfl hp2 rfl rfl ?_ | refine zR ?_)
    refine st_idx rfl rfl rfl rfl rfl rfl rfl rfl (by omega) ?_
    refine st_load1 rfl rfl rfl rfl rfl rfl hxB2 hcB (v := .int .i64 dd) (by rw [← hcellB]; congr 1; omega) ?_
    by_cases q5 : dd ≤ e.c
    · repeat (first | refine st_load1 rfl rfl rfl rfl rfl rfl hp2 rfl rfl ?_ | refine zR ?_)
      simp only [NV, Nat.reduceEqDiff, reduceCtorEq]
      exact cutx_mk true ⟨rfl, rfl, rfl, rfl, rfl, rfl, rfl, rfl, trivial⟩ ⟨rfl, rfl, rfl, by simp only [Bool.true_eq_false, false_iff]; rintro ⟨⟨g1, g2⟩, g3, g4⟩; have := g4 dd hdd; omega⟩
    · repeat (first | refine st_load1 rfl rfl rfl rfl rfl rfl hp2 rfl rfl ?_ | refine zR ?_)
      simp only [NV, Nat.reduceEqDiff, reduceCtorEq]
      exact cutx_mk false ⟨rfl, rfl, rfl, rfl, rfl, rfl, rfl, rfl, trivial⟩ ⟨rfl, rfl, rfl, fun _ => ⟨by omega, by omega, fun d hd => by rw [hdd] at hd; injection hd with hd; omega⟩, fun _ => rfl⟩
  rintro z t _ _ _ ⟨rfl, rfl, rfl, hz⟩
  cases z with
  | true =>
    rw [EC_cond_true rfl]
    simp only [NV, Nat.reduceEqDiff, reduceCtorEq]
    repeat refine zR ?_
    simp only [NV, Nat.reduceEqDiff, reduceCtorEq]
    exact retF _ rfl (resF_tmp rfl) rfl rfl ⟨false, rfl, fun h => absurd h (by simp), fun hV => absurd (hz.2 (hV j e he').1) (by simp)⟩
  | false =>
  rw [EC_cond_false rfl]
  simp only [EC_skip, EO_nil, after_normal, EC_seq]
  have hfits := hz.1 rfl
  refine EC_cutx (α := Bool) (fun z => [(0, .slice (some ⟨bE, oE, none⟩) E.length cE), (1, .slice aB B.length cB), (7, .slice (some ⟨bE, oE, none⟩) E.length cE), (8, .int .i64 (E.length : Int)), (9, .int .i64 (j : Int)), (68, .bool z)]) (fun z h' n' w => h2 = h' ∧ n' = n1 + 1 ∧ w = [] ∧ (z = false ↔ (∀ f, 0 < j → E[j - 1]? = some f → ltE f e) ∧ isNum e.v ∧ e.v ≠ [48])) ?_ ?_
  · refine EC_draw [0, 1, 3, 7, 7, 23, 63, 127, 7, 511, 1023, 2047, 4095, 8191, 16383, 32767, 65535, 131071, 262143, 524287, 1048575, 2097151, 4194303] rfl ?_
    by_cases hj0 : j = 0
    · skip
      repeat refine zD ?_
      refine dr_load rfl rfl rfl rfl rfl rfl (load1_eq rfl hp2 rfl (v := .string ⟨⟨e.v⟩⟩) rfl) rfl rfl ?_
      refine dr_vf _ rfl rfl rfl rfl rfl rfl rfl (hR 0 hG2 _ (by omega) e.v (hl e hmem)) ?_
      rintro _ ⟨b, rfl, hb'⟩
      cases b with
      | false =>
        repeat refine zD ?_
        simp only [NV, Nat.reduceEqDiff, reduceCtorEq]
        exact cutx_mk true ⟨rfl, rfl, rfl, rfl, rfl, rfl, trivial⟩ ⟨rfl, rfl, rfl, by simp only [Bool.true_eq_false, false_iff]; rintro ⟨_, g2, _⟩; exact absurd (hb'.2 g2) (by simp)⟩
      | true =>
      repeat refine zD ?_
      refine dr_load rfl rfl rfl rfl rfl rfl (load1_eq rfl hp2 rfl (v := .string ⟨⟨e.v⟩⟩) rfl) (okEffsF_nil (by simp)) rfl ?_
      by_cases h48 : e.v = [48]
      · refine dr_val (v := .bool true) rfl rfl rfl rfl (by show some (Value.bool (e.v == [48])) = _; rw [h48]; rfl) ?_
        repeat refine zD ?_
        simp only [NV, Nat.reduceEqDiff, reduceCtorEq]
        exact cutx_mk true ⟨rfl, rfl, rfl, rfl, rfl, rfl, trivial⟩ ⟨rfl, rfl, rfl, by simp only [Bool.true_eq_false, false_iff]; rintro ⟨_, _, g3⟩; exact g3 h48⟩
      · refine dr_val (v := .bool false) rfl rfl rfl rfl (by show some (Value.bool (e.v == [48])) = _; rw [show (e.v == [48]) = false from by simpa using h48]) ?_
        repeat refine zD ?_
        simp only [NV, Nat.reduceEqDiff, reduceCtorEq]
        exact cutx_mk false ⟨rfl, rfl, rfl, rfl, rfl, rfl, trivial⟩ ⟨rfl, rfl, rfl, fun _ => ⟨fun f h0 => by omega, hb'.1 rfl, h48⟩, fun _ => rfl⟩
    obtain ⟨f, hf'⟩ : ∃ f, E[j - 1]? = some f := ⟨E[j - 1]'(by omega), List.getElem?_eq_getElem (by omega)⟩
    have hcellf : (csE.drop (oE + (j - 1) * 4)).take 4 = entC f := by rw [take_at heE (by omega), ents_at hf']
    repeat refine zD ?_
    refine dr_idx rfl rfl rfl rfl rfl rfl rfl rfl (by omega) ?_
    refine dr_load (v := .agg (entC f).toArray) rfl rfl rfl rfl rfl rfl (loadn_eq rfl rfl hxE2 hcE (by omega) (by rw [← hcellf]; congr 2 <;> omega)) rfl rfl ?_
    refine dr_load (v := .agg (entC e).toArray) rfl rfl rfl rfl rfl rfl (loadn_eq rfl rfl hp2 rfl (Nat.le_of_ble_eq_true rfl) rfl) rfl rfl ?_
    refine dr_vf _ rfl rfl rfl rfl rfl rfl rfl (ascending_ok k h2 (n1 + 1) f e) ?_
    rintro _ ⟨ba, rfl, hba⟩
    cases ba with
    | false =>
      repeat refine zD ?_
      simp only [NV, Nat.reduceEqDiff, reduceCtorEq]
      exact cutx_mk true ⟨rfl, rfl, rfl, rfl, rfl, rfl, trivial⟩ ⟨rfl, rfl, rfl, by simp only [Bool.true_eq_false, false_iff]; rintro ⟨g1, _, _⟩; exact absurd (hba.2 (g1 f (by omega) hf')) (by simp)⟩
    | true =>
    repeat refine zD ?_
    refine dr_load rfl rfl rfl rfl rfl rfl (load1_eq rfl hp2 rfl (v := .string ⟨⟨e.v⟩⟩) rfl) (okEffsF_nil (by simp)) rfl ?_
    refine dr_vf _ rfl rfl rfl rfl rfl rfl rfl (hR 0 hG2 _ (by omega) e.v (hl e hmem)) ?_
    rintro _ ⟨b, rfl, hb'⟩
    cases b with
    | false =>
      repeat refine zD ?_
      simp only [NV, Nat.reduceEqDiff, reduceCtorEq]
      exact cutx_mk true ⟨rfl, rfl, rfl, rfl, rfl, rfl, trivial⟩ ⟨rfl, rfl, rfl, by simp only [Bool.true_eq_false, false_iff]; rintro ⟨_, g2, _⟩; exact absurd (hb'.2 g2) (by simp)⟩
    | true =>
    repeat refine zD ?_
    refine dr_load rfl rfl rfl rfl rfl rfl (load1_eq rfl hp2 rfl (v := .string ⟨⟨e.v⟩⟩) rfl) (okEffsF_nil (by simp)) rfl ?_
    by_cases h48 : e.v = [48]
    · refine dr_val (v := .bool true) rfl rfl rfl rfl (by show some (Value.bool (e.v == [48])) = _; rw [h48]; rfl) ?_
      repeat refine zD ?_
      simp only [NV, Nat.reduceEqDiff, reduceCtorEq]
      exact cutx_mk true ⟨rfl, rfl, rfl, rfl, rfl, rfl, trivial⟩ ⟨rfl, rfl, rfl, by simp only [Bool.true_eq_false, false_iff]; rintro ⟨_, _, g3⟩; exact g3 h48⟩
    · refine dr_val (v := .bool false) rfl rfl rfl rfl (by show some (Value.bool (e.v == [48])) = _; rw [show (e.v == [48]) = false from by simpa using h48]) ?_
      repeat refine zD ?_
      simp only [NV, Nat.reduceEqDiff, reduceCtorEq]
      exact cutx_mk false ⟨rfl, rfl, rfl, rfl, rfl, rfl, trivial⟩ ⟨rfl, rfl, rfl, fun _ => ⟨fun f' _ hf2 => by rw [hf'] at hf2; injection hf2 with hf2; subst hf2; exact hba.1 rfl, hb'.1 rfl, h48⟩, fun _ => rfl⟩
  rintro z t _ _ _ ⟨rfl, rfl, rfl, hz2⟩
  cases z with
  | true =>
    rw [EC_cond_true rfl]
    simp only [NV, Nat.reduceEqDiff, reduceCtorEq]
    repeat refine zR ?_
    simp only [NV, Nat.reduceEqDiff, reduceCtorEq]
    exact retF _ rfl (resF_tmp rfl) rfl rfl ⟨false, rfl, fun h => absurd h (by simp), fun hV => absurd (hz2.2 (hV j e he').2) (by simp)⟩
  | false =>
  rw [EC_cond_false rfl]
  simp only [NV, Nat.reduceEqDiff, reduceCtorEq]
  repeat refine zR ?_
  simp only [NV, Nat.reduceEqDiff, reduceCtorEq]
  refine goOn (j + 1) (by show E.length - (j + 1) < E.length - j; omega) ⟨rfl, rfl, rfl, rfl, by show Value.int .i64 _ = Value.int .i64 _; congr 1, trivial⟩ ⟨hx1.trans hx2 hn1, by show n ≤ n1 + 1; omega, rfl, by show j + 1 ≤ E.length; omega, fun i e' hi he2 => ?_⟩
  by_cases hij : i < j
  · exact hall i e' hij he2
  · have : i = j := by omega
    subst this
    rw [he'] at he2
    injection he2 with he2
    subst he2
    exact ⟨hfits, hz2.1 rfl⟩
end Go.Proofs.YtokfihhdllmbmaaGreatDoor
namespace Go.Proofs.YtokfihhdllmbmaaGreatDoor
open Go Go.GL
structure SdpStr (R : List UInt8 → Prop) (p : Sdp) : Prop where
  obj : ∀ e ∈ p.obj, R e.v
  objFree : ∀ s ∈ p.objFree, R s
  eqs : ∀ q ∈ p.eqs, (∀ e ∈ q.es, R e.v) ∧ ∀ s ∈ q.rhs :: q.fr, R s
set_option maxHeartbeats 4000000
theorem sdpValid_ok (k : Nat) {R : List UInt8 → Prop} (hR : RV (k + 1) R) {h : HF} (hG : GK.G h) {n : Nat} (hn : 20 ≤ n) {vB vO vF vE : Value} {p : Sdp} {fr : Int} (hp : SdpR h n vB vO vF vE p) (hok : SdpB p) (hsR : SdpStr R p) : VF (cal (k + 3)) 15 [.agg #[vB, .int .i64 fr, vO, vF, vE]] h n fun v => ∃ b : Bool, v = .bool b ∧ (b = true ↔ SdpV p fr) := by
  refine CF_flat (fn := Tryz.f15) rfl rfl rfl rfl ?_
  obtain ⟨hB, hO, hFr, ce, hE, hEq⟩ := hp
  obtain ⟨aB, lB, cB, rfl, _⟩ := hB.len
  obtain ⟨aO, lO, cO, rfl, _⟩ := hO.len
  obtain ⟨aF, lF, cF, rfl, _⟩ := hFr.len
  obtain ⟨aE, lE, cE, rfl, _⟩ := hE.len
  have hlB := hB.lenEq (m := p.blocks.length) (by omega) (by simp [i64s])
  have hlO := hO.lenEq (m := p.obj.length) (by omega) (ents_len _)
  have hlF := hFr.lenEq (m := p.objFree.length) (by omega) (by simp [strs])
  have hlE := hE.lenEq (m := p.eqs.length) (by omega) hEq.len
  subst hlB hlO hlF hlE
  have hbl := hok.bl
  have hol := hok.ol
  have hfl := hok.fl
  have heql := hok.el
  simp only [NV, Nat.reduceEqDiff, reduceCtorEq]
  refine st_mkp (cs := [.slice aB p.blocks.length cB, .int .i64 fr, .slice aO p.obj.length cO, .slice aF p.objFree.length cF, .slice aE p.eqs.length cE]) rfl rfl rfl rfl rfl ?_
  generalize hh : upd h (3 * n + 2) _ = h1
  have hx1 : Ext n h h1 := by rw [← hh]; exact Ext.upd (by omega)
  have hr1 : ∃ ty, h1 (3 * n + 2) = some (.row [.slice aB p.blocks.length cB, .int .i64 fr, .slice aO p.obj.length cO, .slice aF p.objFree.length cF, .slice aE p.eqs.length cE] ty) := ⟨_, by rw [← hh, upd_same]⟩
  obtain ⟨ty1, hr1⟩ := hr1
  clear hh
  have hG1 : GK.G h1 := G_ext hG hx1 hn
  repeat refine zR ?_
  simp only [EC_skip, EO_nil, after_normal, EC_seq]
  refine EC_cutx (α := Bool) (fun z => [(1, .pointer (some ⟨3 * n + 2, 0, none⟩)), (32, .bool z)]) (fun z h' n' w => h1 = h' ∧ n' = n + 1 ∧ w = [] ∧ (z = false ↔ (1 ≤ p.blocks.length ∧ p.blocks.length ≤ 64) ∧ (0 ≤ fr ∧ fr ≤ 512) ∧ p.eqs.length ≤ 512)) ?_ ?_
  · simp only [NV, Nat.reduceEqDiff, reduceCtorEq]
    by_cases q1 : p.blocks.length < 1
    · repeat (first | refine st_load1 rfl rfl rfl rfl rfl rfl hr1 rfl rfl ?_ | refine zR ?_)
      simp only [NV, Nat.reduceEqDiff, reduceCtorEq]
      exact cutx_mk true ⟨rfl, rfl, trivial⟩ ⟨rfl, rfl, rfl, by simp only [Bool.true_eq_false, false_iff]; omega⟩
    by_cases q2 : 64 < p.blocks.length
    · repeat (first | refine st_load1 rfl rfl rfl rfl rfl rfl hr1 rfl rfl ?_ | refine zR ?_)
      simp only [NV, Nat.reduceEqDiff, reduceCtorEq]
      exact cutx_mk true ⟨rfl, rfl, trivial⟩ ⟨rfl, rfl, rfl, by simp only [Bool.true_eq_false, false_iff]; omega⟩
    by_cases q3 : fr < 0
    · repeat (first | refine st_load1 rfl rfl rfl rfl rfl rfl hr1 rfl rfl ?_ | refine zR ?_)
      simp only [NV, Nat.reduceEqDiff, reduceCtorEq]
      exact cutx_mk true ⟨rfl, rfl, trivial⟩ ⟨rfl, rfl, rfl, by simp only [Bool.true_eq_false, false_iff]; omega⟩
    by_cases q4 : 512 < fr
    · repeat (first | refine st_load1 rfl rfl rfl rfl rfl rfl hr1 rfl rfl ?_ | refine zR ?_)
      simp only [NV, Nat.reduceEqDiff, reduceCtorEq]
      exact cutx_mk true ⟨rfl, rfl, trivial⟩ ⟨rfl, rfl, rfl, by simp only [Bool.true_eq_false, false_iff]; omega⟩
    by_cases q5 : 512 < p.eqs.length
    · repeat (first | refine st_load1 rfl rfl rfl rfl rfl rfl hr1 rfl rfl ?_ | refine zR ?_)
      simp only [NV, Nat.reduceEqDiff, reduceCtorEq]
      exact cutx_mk true ⟨rfl, rfl, trivial⟩ ⟨rfl, rfl, rfl, by simp only [Bool.true_eq_false, false_iff]; omega⟩
    · repeat (first | refine st_load1 rfl rfl rfl rfl rfl rfl hr1 rfl rfl ?_ | refine zR ?_)
      simp only [NV, Nat.reduceEqDiff, reduceCtorEq]
      exact cutx_mk false ⟨rfl, rfl, trivial⟩ ⟨rfl, rfl, rfl, fun _ => by omega, fun _ => rfl⟩
  rintro z t _ _ _ ⟨rfl, rfl, rfl, hz⟩
  cases z with
  | true =>
    rw [EC_cond_true rfl]
    simp only [NV, Nat.reduceEqDiff, reduceCtorEq]
    repeat refine zR ?_
    simp only [NV, Nat.reduceEqDiff, reduceCtorEq]
    exact retF _ rfl (resF_tmp rfl) rfl rfl ⟨false, rfl, fun h => absurd h (by simp), fun hV => absurd (hz.2 ⟨hV.bl, hV.free, hV.el⟩) (by simp)⟩
  | false =>
  rw [EC_cond_false rfl]
  simp only [NV, Nat.reduceEqDiff, reduceCtorEq]
  obtain ⟨g1, g2, g3⟩ := hz.1 rfl
  clear hz
  repeat (first | refine st_load1 rfl rfl rfl rfl rfl rfl hr1 rfl rfl ?_ | refine zR ?_)
  simp only [NV, Nat.reduceEqDiff, reduceCtorEq]
  have hB1 := hB.ext hx1 (Nat.le_succ n)
  have hO1 := hO.ext hx1 (Nat.le_succ n)
  have hF1 := hFr.ext hx1 (Nat.le_succ n)
  have hE1 := hE.ext hx1 (Nat.le_succ n)
  have hEq1 := hEq.ext hx1 (Nat.le_succ n)
  refine EC_for (α := Nat) (fun j => [(1, .pointer (some ⟨3 * n + 2, 0, none⟩)), (34, .slice aB p.blocks.length cB), (35, .int .i64 (p.blocks.length : Int)), (36, .int .i64 (j : Int))]) (fun j h' n' w => h1 = h' ∧ n' = n + 1 ∧ w = [] ∧ j ≤ p.blocks.length ∧ ∀ i d, i < j → p.blocks[i]? = some d → 1 ≤ d ∧ d ≤ 32) (fun j => p.blocks.length - j) 0 ⟨rfl, rfl, rfl, rfl, trivial⟩ ⟨rfl, rfl, rfl, Nat.zero_le _, fun i d hi => absurd hi (Nat.not_lt_zero i)⟩ (by show p.blocks.length - 0 < LL; unfold LL; omega) ?_
  rintro j t _ _ _ ⟨rfl, rfl, rfl, hj, hbs⟩
  simp only [NV, Nat.reduceEqDiff, reduceCtorEq]
  by_cases hjB : j ≠ p.blocks.length
  · obtain ⟨d, hd⟩ : ∃ d, p.blocks[j]? = some d := ⟨p.blocks[j]'(by omega), List.getElem?_eq_getElem (by omega)⟩
    obtain ⟨bB, oB, xB, csB, rfl, hbB, hxB, hcB, hcapB, hleB, heB⟩ := hB.inv (by omega)
    have hcell : csB[oB + j]? = some (.int .i64 d) := cell_at heB (by rw [i64s, List.getElem?_map, hd]; rfl)
    have hxB1 : h1 bB = some xB := by rw [hx1 bB hbB]; exact hxB
    repeat refine zR ?_
    simp only [NV, Nat.reduceEqDiff, reduceCtorEq]
    rw [EC_cond_true rfl]
    simp only [NV, Nat.reduceEqDiff, reduceCtorEq]
    refine st_idx rfl rfl rfl rfl rfl rfl rfl rfl (by omega) ?_
    refine st_load1 rfl rfl rfl rfl rfl rfl hxB1 hcB (v := .int .i64 d) (by rw [← hcell]; congr 1; omega) ?_
    repeat refine zR ?_
    simp only [NV, Nat.reduceEqDiff, reduceCtorEq]
    by_cases hd1 : d < 1
    · repeat refine zR ?_
      simp only [NV, Nat.reduceEqDiff, reduceCtorEq]
      rw [EC_cond_true rfl]
      simp only [NV, Nat.reduceEqDiff, reduceCtorEq]
      repeat refine zR ?_
      simp only [NV, Nat.reduceEqDiff, reduceCtorEq]
      exact retF _ rfl (resF_tmp rfl) rfl rfl ⟨false, rfl, fun h => absurd h (by simp), fun hV => by have := hV.b d (List.mem_of_getElem? hd); omega⟩
    by_cases hd2 : 32 < d
    · repeat refine zR ?_
      simp only [NV, Nat.reduceEqDiff, reduceCtorEq]
      rw [EC_cond_true rfl]
      simp only [NV, Nat.reduceEqDiff, reduceCtorEq]
      repeat refine zR ?_
      simp only [NV, Nat.reduceEqDiff, reduceCtorEq]
      exact retF _ rfl (resF_tmp rfl) rfl rfl ⟨false, rfl, fun h => absurd h (by simp), fun hV => by have := hV.b d (List.mem_of_getElem? hd); omega⟩
    repeat refine zR ?_
    simp only [NV, Nat.reduceEqDiff, reduceCtorEq]
    rw [EC_cond_false rfl]
    simp only [NV, Nat.reduceEqDiff, reduceCtorEq]
    repeat refine zR ?_
    simp only [NV, Nat.reduceEqDiff, reduceCtorEq]
    refine goOn (j + 1) (by show p.blocks.length - (j + 1) < p.blocks.length - j; omega) ⟨rfl, rfl, rfl, by show Value.int .i64 _ = Value.int .i64 _; congr 1, trivial⟩ ⟨rfl, rfl, rfl, by show j + 1 ≤ p.blocks.length; omega, fun i d' hi hd' => ?_⟩
    by_cases hij : i < j
    · exact hbs i d' hij hd'
    · have : i = j := by omega
      subst this
      rw [hd] at hd'
      injection hd' with hd'
      omega
  have hjB : j = p.blocks.length := Classical.not_not.1 hjB
  have hbs' : ∀ d ∈ p.blocks, 1 ≤ d ∧ d ≤ 32 := fun d hd => by
    obtain ⟨i, hi, e⟩ := List.getElem_of_mem hd
    exact hbs i d (by omega) (by rw [List.getElem?_eq_getElem hi, e])
  clear hbs
  repeat refine zR ?_
  simp only [NV, Nat.reduceEqDiff, reduceCtorEq]
  rw [EC_cond_false rfl]
  simp only [NV, Nat.reduceEqDiff, reduceCtorEq]
  by_cases hofl : (p.objFree.length : Int) = fr
  case neg =>
    repeat (first | refine st_load1 rfl rfl rfl rfl rfl rfl hr1 rfl rfl ?_ | refine zR ?_)
    simp only [NV, Nat.reduceEqDiff, reduceCtorEq]
    rw [EC_cond_true rfl]
    simp only [NV, Nat.reduceEqDiff, reduceCtorEq]
    repeat refine zR ?_
    simp only [NV, Nat.reduceEqDiff, reduceCtorEq]
    exact retF _ rfl (resF_tmp rfl) rfl rfl ⟨false, rfl, fun h => absurd h (by simp), fun hV => absurd hV.ofl hofl⟩
  repeat (first | refine st_load1 rfl rfl rfl rfl rfl rfl hr1 rfl rfl ?_ | refine zR ?_)
  refine st_vf _ rfl rfl rfl rfl rfl (listS_ok k hR hG1 (by omega) hO1 hB1 hsR.obj (by omega)) ?_
  rintro _ ⟨b1, rfl, hb1⟩
  cases b1 with
  | false =>
    repeat refine zR ?_
    simp only [NV, Nat.reduceEqDiff, reduceCtorEq]
    rw [EC_cond_true rfl]
    simp only [NV, Nat.reduceEqDiff, reduceCtorEq]
    repeat refine zR ?_
    simp only [NV, Nat.reduceEqDiff, reduceCtorEq]
    exact retF _ rfl (resF_tmp rfl) rfl rfl ⟨false, rfl, fun h => absurd h (by simp), fun hV => hb1.2 hV.obj⟩
  | true =>
  repeat (first | refine st_load1 rfl rfl rfl rfl rfl rfl hr1 rfl rfl ?_ | refine zR ?_)
  refine st_vf _ rfl rfl rfl rfl rfl (numbersS_ok k hR hG1 (by omega) hF1 hsR.objFree (by omega)) ?_
  rintro _ ⟨b2, rfl, hb2⟩
  cases b2 with
  | false =>
    repeat refine zR ?_
    simp only [NV, Nat.reduceEqDiff, reduceCtorEq]
    rw [EC_cond_true rfl]
    simp only [NV, Nat.reduceEqDiff, reduceCtorEq]
    repeat refine zR ?_
    simp only [NV, Nat.reduceEqDiff, reduceCtorEq]
    exact retF _ rfl (resF_tmp rfl) rfl rfl ⟨false, rfl, fun h => absurd h (by simp), fun hV => hb2.2 hV.ofs⟩
  | true =>
  repeat refine zR ?_
  simp only [NV, Nat.reduceEqDiff, reduceCtorEq]
  rw [EC_cond_false rfl]
  simp only [NV, Nat.reduceEqDiff, reduceCtorEq]
  repeat (first | refine st_load1 rfl rfl rfl rfl rfl rfl hr1 rfl rfl ?_ | refine zR ?_)
  simp only [NV, Nat.reduceEqDiff, reduceCtorEq]
  refine EC_for (α := Nat) (fun j => [(1, .pointer (some ⟨3 * n + 2, 0, none⟩)), (68, .slice aE p.eqs.length cE), (69, .int .i64 (p.eqs.length : Int)), (70, .int .i64 (j : Int))]) (fun j h' n' w => Ext (n + 1) h1 h' ∧ n + 1 ≤ n' ∧ w = [] ∧ j ≤ p.eqs.length ∧ ∀ i q, i < j → p.eqs[i]? = some q → ListV p.blocks q.es ∧ (q.fr.length : Int) = fr ∧ ∀ s ∈ q.rhs :: q.fr, isNum s) (fun j => p.eqs.length - j) 0 ⟨rfl, rfl, rfl, rfl, trivial⟩ ⟨Ext.refl _ _, Nat.le_refl _, rfl, Nat.zero_le _, fun i d hi => absurd hi (Nat.not_lt_zero i)⟩ (by show p.eqs.length - 0 < LL; unfold LL; omega) ?_
  rintro i t h2 n2 _ ⟨hx2, hn2, rfl, hi, hqs⟩
  simp only [NV, Nat.reduceEqDiff, reduceCtorEq]
  by_cases hiE : i = p.eqs.length
  · repeat refine zR ?_
    simp only [NV, Nat.reduceEqDiff, reduceCtorEq]
    rw [EC_cond_false rfl]
    simp only [NV, Nat.reduceEqDiff, reduceCtorEq]
    repeat refine zR ?_
    simp only [NV, Nat.reduceEqDiff, reduceCtorEq]
    refine retF _ rfl (resF_tmp rfl) rfl rfl ⟨true, rfl, fun _ => ⟨g1, g2, g3, hbs', hb1.1 rfl, hofl, hb2.1 rfl, fun q hq => ?_⟩, fun _ => rfl⟩
    obtain ⟨i', hi', e⟩ := List.getElem_of_mem hq
    exact hqs i' q (by omega) (by rw [List.getElem?_eq_getElem hi', e])
  obtain ⟨q, hq⟩ : ∃ q, p.eqs[i]? = some q := ⟨p.eqs[i]'(by omega), List.getElem?_eq_getElem (by omega)⟩
  have hqm := List.mem_of_getElem? hq
  obtain ⟨q1, q2, q3, q4⟩ := hok.qs q hqm
  obtain ⟨ve, vf, hce, hve, hvf⟩ := hEq1.get hq
  obtain ⟨ae, le, cce, rfl, _⟩ := hve.len
  obtain ⟨af, lf, ccf, rfl, _⟩ := hvf.len
  have hle := hve.lenEq (m := q.es.length) (by omega) (ents_len _)
  have hlf := hvf.lenEq (m := q.fr.length) (by omega) (by simp [strs])
  subst hle hlf
  obtain ⟨bE, oE, xE, csE, rfl, hbE, hxE, hcE, hcapE, hleE, heE⟩ := hE1.inv (by omega)
  have hcell : (csE.drop (oE + i * 3)).take 3 = [.slice ae q.es.length cce, .slice af q.fr.length ccf, .string ⟨⟨q.rhs⟩⟩] := by rw [take_at heE (by omega), hce]
  have hxE2 : h2 bE = some xE := by rw [hx2 bE hbE]; exact hxE
  repeat refine zR ?_
  simp only [NV, Nat.reduceEqDiff, reduceCtorEq]
  rw [EC_cond_true rfl]
  simp only [NV, Nat.reduceEqDiff, reduceCtorEq]
  refine st_idx rfl rfl rfl rfl rfl rfl rfl rfl (by omega) ?_
  refine st_load (v := .agg #[.slice ae q.es.length cce, .slice af q.fr.length ccf, .string ⟨⟨q.rhs⟩⟩]) rfl rfl rfl rfl rfl (loadn_eq rfl rfl hxE2 hcE (by omega) (by rw [← hcell]; congr 2 <;> omega)) ?_
  refine st_alloc rfl rfl rfl rfl rfl ?_
  refine st_storeW [.slice ae q.es.length cce, .slice af q.fr.length ccf, .string ⟨⟨q.rhs⟩⟩] rfl rfl rfl rfl rfl rfl rfl rfl (upd_same _ _ _) rfl (by show 3 * n ≤ 3 * n2 + 2; omega) ?_
  rw [upd_upd]
  generalize hh : upd h2 (3 * n2 + 2) _ = h3
  have hp3 : ∃ ty, h3 (3 * n2 + 2) = some (.row [.slice ae q.es.length cce, .slice af q.fr.length ccf, .string ⟨⟨q.rhs⟩⟩] ty) := ⟨_, by rw [← hh, upd_same]⟩
  obtain ⟨ty3, hp3⟩ := hp3
  have hx3 : Ext n2 h2 h3 := by rw [← hh]; exact Ext.upd (by omega)
  clear hh
  have hx13 : Ext (n + 1) h1 h3 := hx2.trans hx3 hn2
  have hr3 : h3 (3 * n + 2) = some (.row [.slice aB p.blocks.length cB, .int .i64 fr, .slice aO p.obj.length cO, .slice aF p.objFree.length cF, .slice (some ⟨bE, oE, none⟩) p.eqs.length cE] ty1) := by rw [hx13 _ (by omega)]; exact hr1
  have hG3 : GK.G h3 := G_ext hG1 hx13 (by omega)
  simp only [NV, Nat.reduceEqDiff, reduceCtorEq]
  by_cases hqf : (q.fr.length : Int) = fr
  case neg =>
    repeat (first | refine st_load1 rfl rfl rfl rfl rfl rfl hp3 rfl rfl ?_ | refine st_load1 rfl rfl rfl rfl rfl rfl hr3 rfl rfl ?_ | refine zR ?_)
    simp only [NV, Nat.reduceEqDiff, reduceCtorEq]
    rw [EC_cond_true rfl]
    simp only [NV, Nat.reduceEqDiff, reduceCtorEq]
    repeat refine zR ?_
    simp only [NV, Nat.reduceEqDiff, reduceCtorEq]
    exact retF _ rfl (resF_tmp rfl) rfl rfl ⟨false, rfl, fun h => absurd h (by simp), fun hV => absurd (hV.eqs q hqm).2.1 hqf⟩
  repeat (first | refine st_load1 rfl rfl rfl rfl rfl rfl hp3 rfl rfl ?_ | refine st_load1 rfl rfl rfl rfl rfl rfl hr3 rfl rfl ?_ | refine zR ?_)
  refine st_vf _ rfl rfl rfl rfl rfl (listS_ok k hR hG3 (by omega) (hve.ext hx13 (show n + 1 ≤ n2 + 1 by omega)) (hB1.ext hx13 (show n + 1 ≤ n2 + 1 by omega)) (hsR.eqs q hqm).1 (by omega)) ?_
  rintro _ ⟨b3, rfl, hb3⟩
  cases b3 with
  | false =>
    repeat refine zR ?_
    simp only [NV, Nat.reduceEqDiff, reduceCtorEq]
    rw [EC_cond_true rfl]
    simp only [NV, Nat.reduceEqDiff, reduceCtorEq]
    repeat refine zR ?_
    simp only [NV, Nat.reduceEqDiff, reduceCtorEq]
    exact retF _ rfl (resF_tmp rfl) rfl rfl ⟨false, rfl, fun h => absurd h (by simp), fun hV => hb3.2 (hV.eqs q hqm).1⟩
  | true =>
  repeat (first | refine st_load1 rfl rfl rfl rfl rfl rfl hp3 rfl rfl ?_ | refine st_load1 rfl rfl rfl rfl rfl rfl hr3 rfl rfl ?_ | refine zR ?_)
  refine st_vf _ rfl rfl rfl rfl rfl (numbersS_ok k hR hG3 (by omega) (hvf.ext hx13 (show n + 1 ≤ n2 + 1 by omega)) (fun s hs => (hsR.eqs q hqm).2 s (by simp [hs])) (by omega)) ?_
  rintro _ ⟨b4, rfl, hb4⟩
  cases b4 with
  | false =>
    repeat refine zR ?_
    simp only [NV, Nat.reduceEqDiff, reduceCtorEq]
    rw [EC_cond_true rfl]
    simp only [NV, Nat.reduceEqDiff, reduceCtorEq]
    repeat refine zR ?_
    simp only [NV, Nat.reduceEqDiff, reduceCtorEq]
    exact retF _ rfl (resF_tmp rfl) rfl rfl ⟨false, rfl, fun h => absurd h (by simp), fun hV => hb4.2 fun s hs => (hV.eqs q hqm).2.2 s (by simp [hs])⟩
  | true =>
  repeat (first | refine st_load1 rfl rfl rfl rfl rfl rfl hp3 rfl rfl ?_ | refine st_load1 rfl rfl rfl rfl rfl rfl hr3 rfl rfl ?_ | refine zR ?_)
  refine st_vf _ rfl rfl rfl rfl rfl (hR 1 hG3 _ (by omega) q.rhs ((hsR.eqs q hqm).2 _ (by simp))) ?_
  rintro _ ⟨b5, rfl, hb5⟩
  cases b5 with
  | false =>
    repeat refine zR ?_
    simp only [NV, Nat.reduceEqDiff, reduceCtorEq]
    rw [EC_cond_true rfl]
    simp only [NV, Nat.reduceEqDiff, reduceCtorEq]
    repeat refine zR ?_
    simp only [NV, Nat.reduceEqDiff, reduceCtorEq]
    exact retF _ rfl (resF_tmp rfl) rfl rfl ⟨false, rfl, fun h => absurd h (by simp), fun hV => hb5.2 ((hV.eqs q hqm).2.2 _ (by simp))⟩
  | true =>
  repeat refine zR ?_
  simp only [NV, Nat.reduceEqDiff, reduceCtorEq]
  rw [EC_cond_false rfl]
  simp only [NV, Nat.reduceEqDiff, reduceCtorEq]
  repeat refine zR ?_
  simp only [NV, Nat.reduceEqDiff, reduceCtorEq]
  refine goOn (i + 1) (by show p.eqs.length - (i + 1) < p.eqs.length - i; omega) ⟨rfl, rfl, rfl, by show Value.int .i64 _ = Value.int .i64 _; congr 1, trivial⟩ ⟨hx13, by show n + 1 ≤ n2 + 1; omega, rfl, by show i + 1 ≤ p.eqs.length; omega, fun i' q' hi' hq' => ?_⟩
  by_cases hij : i' < i
  · exact hqs i' q' hij hq'
  · have : i' = i := by omega
    subst this
    rw [hq] at hq'
    injection hq' with hq'
    subst hq'
    exact ⟨hb3.1 rfl, hqf, fun s hs => by rcases List.mem_cons.1 hs with rfl | hs; exact hb5.1 rfl; exact hb4.1 rfl s hs⟩
end Go.Proofs.YtokfihhdllmbmaaGreatDoor
namespace Go.Proofs.YtokfihhdllmbmaaGreatDoor
def dig (b : UInt8) : Bool := decide (48 ≤ b.toNat ∧ b.toNat ≤ 57)
theorem dig_iff {b : UInt8} : dig b = true ↔ 48 ≤ b.toNat ∧ b.toNat ≤ 57 := by unfold dig; simp
theorem AllD.all {s : List UInt8} : AllD s ↔ ∀ b ∈ s, dig b = true := by
  unfold AllD
  constructor
  · exact fun h b hb => dig_iff.2 (h b hb)
  · exact fun h b hb => dig_iff.1 (h b hb)
theorem takeWhile_all {p : UInt8 → Bool} {s : List UInt8} : ∀ b ∈ s.takeWhile p, p b = true := by
  induction s with
  | nil => intro b hb; simp at hb
  | cons x s ih =>
    intro b hb
    rw [List.takeWhile_cons] at hb
    split at hb
    · rename_i h
      rcases List.mem_cons.1 hb with rfl | hb
      · exact h
      · exact ih b hb
    · simp at hb
theorem takeWhile_dig {a r : List UInt8} (ha : AllD a) (hr : r = [] ∨ ∃ x r', r = x :: r' ∧ dig x = false) : (a ++ r).takeWhile dig = a ∧ (a ++ r).dropWhile dig = r := by
  induction a with
  | nil =>
    rcases hr with rfl | ⟨x, r', rfl, hx⟩
    · exact ⟨rfl, rfl⟩
    · simp [List.takeWhile_cons, List.dropWhile_cons, hx]
  | cons b a ih =>
    have hb : dig b = true := dig_iff.2 (ha b (by simp))
    have := ih fun c hc => ha c (by simp [hc])
    simp only [List.cons_append, List.takeWhile_cons, List.dropWhile_cons, hb, if_true]
    exact ⟨by rw [this.1], this.2⟩
theorem uint8_eq {a b : UInt8} (h : a.toNat = b.toNat) : a = b := UInt8.toNat_inj.1 h
theorem dig_back {b : UInt8} (h : 48 ≤ b.toNat ∧ b.toNat ≤ 57) : UInt8.ofNat (48 + (b.toNat - 48)) = b := by
  apply uint8_eq
  rw [ofNat_digit (by omega)]
  omega
theorem dec_of {d : List UInt8} (hd : AllD d) (h0 : d ≠ []) (h1 : d.head? ≠ some 48) : dval d ≠ 0 ∧ (decB (dval d)).map UInt8.ofNat = d := by
  induction hl : d.length generalizing d with
  | zero => exact absurd (List.length_eq_zero_iff.1 hl) h0
  | succ m ih =>
    obtain ⟨i, b, rfl⟩ : ∃ i b, d = i ++ [b] := ⟨d.dropLast, d.getLast h0, (List.dropLast_concat_getLast h0).symm⟩
    have hb := hd b (by simp)
    rw [dval_snoc]
    by_cases hi : i = []
    · subst hi
      have hb0 : b.toNat ≠ 48 := fun e => h1 (by show some b = some 48; rw [uint8_eq (a := b) (b := 48) e])
      have e0 : dval [] = 0 := rfl
      rw [e0]
      refine ⟨by omega, ?_⟩
      rw [decB_step (by omega) (.inr (by omega))]
      have : decB 0 = [] := by unfold decB; rw [decD_zero]; rfl
      rw [this, List.nil_append, List.map_cons, List.map_nil, dig_back hb]
      rfl
    · obtain ⟨h2, h3⟩ := ih (d := i) (fun c hc => hd c (by simp [hc])) hi (by
        cases i with
        | nil => exact absurd rfl hi
        | cons x i => simpa using h1) (by simpa using hl)
      refine ⟨by omega, ?_⟩
      rw [decB_step (by omega) (.inl h2), List.map_append, h3, List.map_cons, List.map_nil, dig_back hb]
theorem decT_of {d : List UInt8} (hd : AllD d) (h0 : d ≠ []) (h1 : d.head? ≠ some 48) : decT (dval d) = d := by
  obtain ⟨h2, h3⟩ := dec_of hd h0 h1
  unfold decT
  rw [if_neg h2, h3]
theorem decT_one : decT 1 = [49] := decT_of (d := [49]) (fun b hb => by rw [List.mem_singleton.1 hb]; decide) (by simp) (by simp)
theorem decB_head {V : Nat} (h : V ≠ 0) : ((decB V).map UInt8.ofNat).head? ≠ some 48 := by
  induction V using Nat.strongRecOn with
  | ind V ih =>
    have e : decB V = decB (V / 10) ++ [48 + V % 10] := by
      unfold decB
      rw [decD_pos h]
      simp
    rw [e]
    by_cases h2 : V / 10 = 0
    · have : decB (V / 10) = [] := by unfold decB; rw [h2, decD_zero]; rfl
      rw [this]
      intro he
      simp only [List.nil_append, List.map_cons, List.map_nil, List.head?_cons, Option.some.injEq] at he
      have := ofNat_digit (c := V % 10) (by omega)
      rw [he] at this
      have e48 : (48 : UInt8).toNat = 48 := rfl
      omega
    · have := ih (V / 10) (by omega) h2
      cases hd : (decB (V / 10)).map UInt8.ofNat with
      | nil =>
        have h5 := (decB_all (V / 10)).2
        rw [hd] at h5
        exact absurd h5.symm h2
      | cons x l =>
        rw [List.map_append, hd]
        rw [hd] at this
        simpa using this
theorem decT_head {V : Nat} (h : V ≠ 0) : (decT V).head? ≠ some 48 := by
  unfold decT
  rw [if_neg h]
  exact decB_head h
def spl (s : List UInt8) : List UInt8 × List UInt8 × Bool :=
  let b := bodyOf s
  let m := b.takeWhile dig
  let r := b.dropWhile dig
  if m = [48] then (m, [], !hasMinus s && r.isEmpty)
  else if m = [] ∨ m.head? = some 48 then (m, [], false)
  else if r = [] then (m, [], true)
  else if r.head? ≠ some 47 then (m, [], false)
  else
    let d := (r.drop 1).takeWhile dig
    let r2 := (r.drop 1).dropWhile dig
    (m, d, r2.isEmpty && !d.isEmpty && d.head? != some 48 && d != [49])
theorem body_split (s : List UInt8) : (bodyOf s).takeWhile dig ++ (bodyOf s).dropWhile dig = bodyOf s := List.takeWhile_append_dropWhile
theorem of_body {s : List UInt8} : s = (if hasMinus s then [45] else []) ++ bodyOf s := by
  unfold bodyOf
  by_cases h : hasMinus s = true
  · rw [if_pos h, if_pos h]
    unfold hasMinus at h
    cases s with
    | nil => simp at h
    | cons x s =>
      have : x = 45 := by simpa using h
      subst this
      rfl
  · rw [if_neg h, if_neg h]
    rfl
structure Frm (s : List UInt8) (m d : List UInt8) : Prop where
  dm : AllD m
  m0 : m ≠ []
  dd : AllD d
  lead : m = [48] ∧ hasMinus s = false ∧ d = [] ∨ m.head? ≠ some 48
  den : d = [] ∨ d.head? ≠ some 48 ∧ d ≠ [49]
  eq : s = (if hasMinus s then [45] else []) ++ (m ++ (if d = [] then [] else 47 :: d))
theorem spl_frm {s : List UInt8} {m d : List UInt8} (h : spl s = (m, d, true)) : Frm s m d := by
  have hb := body_split s
  have hs := of_body (s := s)
  have hm : AllD ((bodyOf s).takeWhile dig) := AllD.all.2 takeWhile_all
  unfold spl at h
  simp only at h
  generalize (bodyOf s).takeWhile dig = m0 at *
  generalize (bodyOf s).dropWhile dig = r at *
  split at h
  · rename_i h48
    simp only [Prod.mk.injEq] at h
    obtain ⟨rfl, rfl, h3⟩ := h
    simp only [Bool.and_eq_true, Bool.not_eq_true', List.isEmpty_iff] at h3
    obtain ⟨h3, rfl⟩ := h3
    refine ⟨hm, by rw [h48]; simp, fun b hb => absurd hb (by simp), .inl ⟨h48, h3, rfl⟩, .inl rfl, ?_⟩
    rw [if_pos rfl, hb]; exact hs
  · split at h
    · simp at h
    · rename_i h48 hne
      have hne1 : ¬ m0 = [] := fun e => hne (.inl e)
      have hne2 : ¬ m0.head? = some 48 := fun e => hne (.inr e)
      split at h
      · rename_i hr
        simp only [Prod.mk.injEq] at h
        obtain ⟨rfl, rfl, _⟩ := h
        refine ⟨hm, hne1, fun b hb => absurd hb (by simp), .inr hne2, .inl rfl, ?_⟩
        subst hr
        rw [if_pos rfl, hb]; exact hs
      · split at h
        · simp at h
        · rename_i hr h47
          have h47 : r.head? = some 47 := Classical.not_not.1 h47
          simp only [Prod.mk.injEq] at h
          obtain ⟨rfl, rfl, h3⟩ := h
          simp only [Bool.and_eq_true, Bool.not_eq_true', List.isEmpty_iff, bne_iff_ne, ne_eq] at h3
          obtain ⟨⟨⟨h3, h4⟩, h5⟩, h6⟩ := h3
          obtain ⟨r', rfl⟩ : ∃ r', r = 47 :: r' := by
            cases r with
            | nil => simp at h47
            | cons x r => exact ⟨r, by simp at h47; rw [h47]⟩
          simp only [List.drop_one, List.tail_cons] at h3 h4 h5 h6 ⊢
          have hd : AllD (r'.takeWhile dig) := AllD.all.2 takeWhile_all
          have hd2 : r'.takeWhile dig ++ r'.dropWhile dig = r' := List.takeWhile_append_dropWhile
          rw [h3, List.append_nil] at hd2
          rw [hd2] at hd h4 h5 h6 ⊢
          have hne : ¬ r' = [] := fun e => by rw [e] at h4; simp at h4
          refine ⟨hm, hne1, hd, .inr hne2, .inr ⟨h5, h6⟩, ?_⟩
          rw [if_neg hne, hb]; exact hs
theorem ratT_spl (q : Rat) : spl (ratT q) = (decT q.num.natAbs, (if q.den = 1 then [] else decT q.den), true) := by
  obtain ⟨h1, h2⟩ := ratT_minus q
  obtain ⟨hd, hv, hne⟩ := decT_all q.num.natAbs
  obtain ⟨dd, dvv, dne⟩ := decT_all q.den
  have htw := takeWhile_dig (a := decT q.num.natAbs) (r := if q.den = 1 then [] else 47 :: decT q.den) hd (by
    by_cases h : q.den = 1
    · left; rw [if_pos h]
    · right; rw [if_neg h]; exact ⟨47, _, rfl, rfl⟩)
  have hdw := takeWhile_dig (a := decT q.den) (r := []) dd (.inl rfl)
  rw [List.append_nil] at hdw
  unfold spl
  simp only
  rw [h2, htw.1, htw.2, h1]
  by_cases h0 : q.num = 0
  · have hq : q.den = 1 := by
      have := q.reduced
      rw [h0] at this
      simpa using this
    rw [h0, if_pos hq, if_pos hq]
    rfl
  · have hn0 : q.num.natAbs ≠ 0 := by omega
    have hhd := decT_head hn0
    have h48 : ¬ decT q.num.natAbs = [48] := fun e => hhd (by rw [e]; rfl)
    rw [if_neg h48, if_neg (by rintro (e | e); exact hne e; exact hhd e)]
    by_cases hq : q.den = 1
    · rw [if_pos hq, if_pos rfl, if_pos hq]
    · rw [if_neg hq, if_neg (by simp), if_neg (by simp), if_neg hq]
      simp only [List.drop_one, List.tail_cons]
      rw [hdw.1, hdw.2]
      have hd0 : q.den ≠ 0 := q.den_nz
      have e1 : (decT q.den).isEmpty = false := by cases h : decT q.den with
        | nil => exact absurd h dne
        | cons x l => rfl
      have e2 : ((decT q.den).head? != some 48) = true := by rw [bne_iff_ne]; exact decT_head hd0
      have e3 : (decT q.den != [49]) = true := by
        rw [bne_iff_ne]
        intro e
        have : dval (decT q.den) = 1 := by rw [e]; rfl
        rw [dvv] at this
        exact hq this
      rw [e1, e2, e3]
      rfl
theorem Frm.rat {s m d : List UInt8} (h : Frm s m d) (hg : d = [] ∨ Nat.gcd (dval m) (dval d) = 1) : ∃ q : Rat, ratT q = s ∧ q.num = (if hasMinus s then -(dval m : Int) else dval m) ∧ q.den = (if d = [] then 1 else dval d) := by
  obtain ⟨dm, m0, dd, lead, den, eq⟩ := h
  have hdv : ∃ D : Nat, D ≠ 0 ∧ D = (if d = [] then 1 else dval d) ∧ Nat.gcd (dval m) D = 1 ∧ (if D = 1 then [] else 47 :: decT D) = (if d = [] then [] else 47 :: d) := by
    by_cases hd : d = []
    · refine ⟨1, by decide, by rw [if_pos hd], Nat.gcd_one_right _, by rw [if_pos rfl, if_pos hd]⟩
    · rcases den with h | ⟨h1, h2⟩
      · exact absurd h hd
      · have e := decT_of dd hd h1
        refine ⟨dval d, (dec_of dd hd h1).1, by rw [if_neg hd], hg.resolve_left hd, ?_⟩
        rw [e, if_neg hd, if_neg]
        intro h
        rw [h] at e
        exact h2 (by rw [← e]; exact decT_one)
  obtain ⟨D, D0, hD, hgD, hDt⟩ := hdv
  refine ⟨⟨if hasMinus s then -(dval m : Int) else dval m, D, D0, ?_⟩, ?_, rfl, hD⟩
  · show Nat.Coprime _ _
    unfold Nat.Coprime
    split
    · rw [Int.natAbs_neg]; exact hgD
    · exact hgD
  · have habs : (if hasMinus s then -(dval m : Int) else dval m).natAbs = dval m := by
      split
      · rw [Int.natAbs_neg]; rfl
      · rfl
    have hm : decT (dval m) = m := by
      rcases lead with ⟨h, _, _⟩ | h
      · rw [h]; rfl
      · exact decT_of dm m0 h
    have hsign : (if (if hasMinus s then -(dval m : Int) else dval m) < 0 then [45] else []) = (if hasMinus s then [45] else ([] : List UInt8)) := by
      by_cases hh : hasMinus s = true
      · rw [if_pos hh, if_pos hh]
        rcases lead with ⟨_, h, _⟩ | h
        · rw [h] at hh; cases hh
        · have := (dec_of dm m0 h).1
          rw [if_pos (by omega)]
      · rw [if_neg hh, if_neg hh, if_neg (by omega)]
    show (if (if hasMinus s then -(dval m : Int) else dval m) < 0 then [45] else []) ++ (decT (if hasMinus s then -(dval m : Int) else dval m).natAbs ++ (if D = 1 then [] else 47 :: decT D)) = s
    rw [hsign, habs, hm, hDt]
    exact eq.symm
theorem isNum_spl (s : List UInt8) : isNum s ↔ (spl s).2.2 = true ∧ ((spl s).2.1 = [] ∨ Nat.gcd (dval (spl s).1) (dval (spl s).2.1) = 1) := by
  constructor
  · rintro ⟨q, rfl⟩
    rw [ratT_spl]
    refine ⟨rfl, ?_⟩
    by_cases hq : q.den = 1
    · left; show (if q.den = 1 then [] else _) = _; rw [if_pos hq]
    · right
      show Nat.gcd (dval (decT _)) (dval (if q.den = 1 then [] else _)) = 1
      rw [if_neg hq, (decT_all _).2.1, (decT_all _).2.1]
      exact q.reduced
  · rintro ⟨h1, h2⟩
    have hf := spl_frm (s := s) (m := (spl s).1) (d := (spl s).2.1) (by rw [← h1])
    obtain ⟨q, hq, _⟩ := hf.rat h2
    exact ⟨q, hq⟩
theorem isSmall_num {s : List UInt8} (h : GK.isSmall s = true) : isNum s := by
  unfold GK.isSmall at h
  rw [List.any_eq_true] at h
  obtain ⟨l, hl, he⟩ := h
  have he : l = s := by simpa using he
  subst he
  simp only [GK.smalls, List.mem_cons, List.not_mem_nil, or_false] at hl
  rcases hl with rfl | rfl | rfl | rfl | rfl | rfl | rfl | rfl | rfl <;> exact (isNum_spl _).2 ⟨by decide, .inl (by decide)⟩
theorem isBad_num {s : List UInt8} (h : GK.isBad s = true) : ¬ isNum s ∧ GK.isSmall s = false := by
  unfold GK.isBad at h
  rw [List.any_eq_true] at h
  obtain ⟨l, hl, he⟩ := h
  have he : l = s := by simpa using he
  subst he
  simp only [GK.bads, List.mem_cons, List.not_mem_nil, or_false] at hl
  rcases hl with rfl | rfl | rfl <;> exact ⟨fun h => absurd ((isNum_spl _).1 h).1 (by decide), by decide⟩
end Go.Proofs.YtokfihhdllmbmaaGreatDoor
namespace Go.Proofs.YtokfihhdllmbmaaGreatDoor
open Go Go.GL
theorem gro_two2 (n : Nat) : gro (3 * n + 2) = false := by
  unfold gro
  rw [show (3 * n + 2) % 3 = 2 from by omega]
  rfl
section
variable {E : Env} {h : HF} {n : Nat} {sT e : TypeId} {size bytes : Nat} {z x : Value}
theorem append_made {m b : Nat} {new : List Value} (hu : E.und sT = some (.slice e)) (hi : E.inf e = some (size, bytes, z)) (hz : (vcells z).length = size) (h1 : 1 ≤ size ∧ 1 ≤ bytes) (hx : argS h size x m new) (hb : m * bytes ≤ 1099511627776) (hg : gro b = false) (hm : m ≠ 0) :
    appendF E h n sT (.slice (some ⟨b, 0, none⟩) 0 0) x = some (.val (.slice (some ⟨3 * n + 1, 0, none⟩) m m) (upd h (3 * n + 1) (some (.row new e))) (n + 1) []) := by
  obtain ⟨hl', hc⟩ := hx
  have c1 : Nat.ble (m * bytes) 1099511627776 = true := Nat.ble_eq_true_of_le hb
  have c2 : Nat.beq (vcells z).length size = true := by rw [hz]; exact Nat.beq_refl _
  have c3 : Nat.ble 1 size = true := Nat.ble_eq_true_of_le h1.1
  have c4 : Nat.ble 1 bytes = true := Nat.ble_eq_true_of_le h1.2
  have c5 : Nat.ble m 0 = false := by
    cases hb : Nat.ble m 0 with
    | false => rfl
    | true => have := Nat.le_of_ble_eq_true hb; omega
  have c6 : argCellsF h size 0 (.slice (some ⟨b, 0, none⟩) 0 0) = some [] := by simp [argCellsF]
  simp only [appendF, hu, hi, hl', hc, Nat.zero_add, c1, c2, c3, c4, c5, c6, Bool.and_self, growF, hg, List.nil_append]
theorem append_same {a : Option Addr} {L : Nat} (hu : E.und sT = some (.slice e)) (hi : E.inf e = some (size, bytes, z)) (hz : (vcells z).length = size) (h1 : 1 ≤ size ∧ 1 ≤ bytes) (hx : argS h size x 0 []) (hb : L * bytes ≤ 1099511627776) :
    appendF E h n sT (.slice a L L) x = some (.val (.slice a L L) h n []) := by
  obtain ⟨hl', hc⟩ := hx
  have c1 : Nat.ble (L * bytes) 1099511627776 = true := Nat.ble_eq_true_of_le hb
  have c2 : Nat.beq (vcells z).length size = true := by rw [hz]; exact Nat.beq_refl _
  have c3 : Nat.ble 1 size = true := Nat.ble_eq_true_of_le h1.1
  have c4 : Nat.ble 1 bytes = true := Nat.ble_eq_true_of_le h1.2
  have c5 : Nat.ble L L = true := Nat.ble_eq_true_of_le (Nat.le_refl _)
  simp only [appendF, hu, hi, hl', hc, Nat.add_zero, c1, c2, c3, c4, c5, Bool.and_self, inPlaceF]
inductive Gr0 (h : HF) (lo n : Nat) (e : TypeId) (sz : Nat) : Value → Nat → List Value → Prop
  | gro {v : Value} {len : Nat} {c : List Value} (g : Gro h lo n e sz v len c) : Gr0 h lo n e sz v len c
  | emp {m : Nat} (hlo : lo ≤ m) (hm : m < n) : Gr0 h lo n e sz (.slice (some ⟨3 * m + 2, 0, none⟩) 0 0) 0 []
theorem Gr0.ext {h h' : HF} {lo n n' : Nat} {e : TypeId} {sz len : Nat} {v : Value} {c : List Value} (g : Gr0 h lo n e sz v len c) (he : Ext n h h') (hn : n ≤ n') : Gr0 h' lo n' e sz v len c := by
  cases g with
  | gro g => exact .gro (g.ext he hn)
  | emp hlo hm => exact .emp hlo (by omega)
theorem Gr0.sl {h : HF} {lo n : Nat} {e : TypeId} {sz len : Nat} {v : Value} {c : List Value} (g : Gr0 h lo n e sz v len c) : Sl h n sz v c := by
  cases g with
  | gro g => exact g.sl
  | emp hlo hm => exact .nil (.inr ⟨_, _, _, rfl, by omega⟩)
theorem Gr0.shape {h : HF} {lo n : Nat} {e : TypeId} {sz len : Nat} {v : Value} {c : List Value} (g : Gr0 h lo n e sz v len c) : ∃ a, v = .slice a len len ∧ c.length = len * sz := by
  cases g with
  | gro g => exact g.shape
  | emp hlo hm => exact ⟨_, rfl, by simp⟩
theorem Gr0.below {h : HF} {lo n : Nat} {e : TypeId} {sz len : Nat} {v : Value} {c : List Value} (g : Gr0 h lo n e sz v len c) : Below n v := g.sl.below
theorem Gr0.fresh {h : HF} {lo n : Nat} {e : TypeId} {sz len : Nat} {v : Value} {c : List Value} (g : Gr0 h lo n e sz v len c) : Fresh lo v := by
  cases g with
  | gro g => exact g.fresh
  | emp hlo hm => show 3 * lo ≤ 3 * _ + 2; omega
theorem Gr0.lo {h : HF} {lo lo' n : Nat} {e : TypeId} {sz len : Nat} {v : Value} {c : List Value} (g : Gr0 h lo n e sz v len c) (hl : lo' ≤ lo) : Gr0 h lo' n e sz v len c := by
  cases g with
  | gro g =>
    cases g with
    | nil => exact .gro .nil
    | at_ hg hlo hb hr hl ho => exact .gro (.at_ hg (by omega) hb hr hl ho)
  | emp hlo hm => exact .emp (by omega) hm
def Apt (u v : Value) : Prop := ∀ a l c a' l' c', u = .slice (some a) l c → v = .slice (some a') l' c' → a.block ≠ a'.block
theorem Apt.of {m : Nat} {u v : Value} (hu : Below m u) (hv : Fresh m v) : Apt u v := fun a l c a' l' c' e e' => by
  subst e e'
  have h1 : a.block < 3 * m := hu
  have h2 : 3 * m ≤ a'.block := hv
  omega
theorem Apt.symm {u v : Value} (h : Apt u v) : Apt v u := fun a l c a' l' c' e e' q => h a' l' c' a l c e' e q.symm
theorem Gr0.keep {h h' : HF} {lo n n' : Nat} {e : TypeId} {sz len : Nat} {u v : Value} {c : List Value} (g : Gr0 h lo n e sz u len c) (hk : Keep v n h h') (ha : Apt u v) (hn : n ≤ n') : Gr0 h' lo n' e sz u len c := by
  cases g with
  | emp hlo hm => exact .emp hlo (by omega)
  | gro g =>
    cases g with
    | nil => exact .gro .nil
    | at_ hg hlo hb hr hl ho => exact .gro (.at_ hg hlo (by omega) (by rw [hk _ hb fun o l c e => ha _ _ _ _ _ _ rfl e rfl]; exact hr) hl ho)
theorem append_Gr0 {lo len m : Nat} {v : Value} {c new : List Value} (hu : E.und sT = some (.slice e)) (hi : E.inf e = some (size, bytes, z)) (hz : (vcells z).length = size) (h1 : 1 ≤ size ∧ 1 ≤ bytes) (hg : Gr0 h lo n e size v len c) (hx : argS h size x m new) (hb : (len + m) * bytes ≤ 1099511627776) (hl : new.length = m * size) (ho : ones new = true) (hlo : lo ≤ n) :
    ∃ v' h' n' W, appendF E h n sT v x = some (.val v' h' n' W) ∧ n ≤ n' ∧ Gr0 h' lo n' e size v' (len + m) (c ++ new) ∧ Ext lo h h' ∧ Keep v n h h' ∧ (∀ b ∈ W, 3 * lo ≤ b ∧ gro b = true) ∧ (v' = v ∨ Fresh n v') := by
  by_cases hm : m = 0
  · subst hm
    have hn0 : new = [] := List.length_eq_zero_iff.1 (by rw [hl]; simp)
    subst hn0
    obtain ⟨a, rfl, _⟩ := hg.shape
    exact ⟨_, _, _, _, append_same hu hi hz h1 hx hb, Nat.le_refl _, by rw [List.append_nil]; exact hg, Ext.refl _ _, fun _ _ _ => rfl, fun b hb => absurd hb List.not_mem_nil, .inl rfl⟩
  · cases hg with
    | emp hlo2 hm2 =>
      rw [Nat.zero_add] at hb ⊢
      refine ⟨_, _, _, _, append_made hu hi hz h1 hx hb (gro_two2 _) hm, Nat.le_succ n, .gro (.at_ (gro_new n) (by omega) (by omega) (upd_same _ _ _) hl ho), Ext.upd (by omega), fun b hb _ => upd_ne (by omega), fun b hb => absurd hb List.not_mem_nil, .inr (by show 3 * n ≤ 3 * n + 1; omega)⟩
    | gro hg =>
      cases hg with
      | nil =>
        refine ⟨_, _, _, _, append_nil hu hi hz h1.1 h1.2 hx (by omega) (by rw [Nat.zero_add] at hb; exact hb), Nat.le_succ n, ?_, Ext.upd (by omega), fun b hb _ => upd_ne (by omega), fun b hb => absurd hb List.not_mem_nil, .inr (by show 3 * n ≤ 3 * n + 1; omega)⟩
        rw [Nat.zero_add]
        exact .gro (.at_ (gro_new n) (by omega) (by omega) (upd_same _ _ _) hl ho)
      | at_ hg hlo2 hb2 hr hl2 ho2 =>
        refine ⟨_, _, _, _, append_gro hu hi hz h1.1 h1.2 hx (by omega) hb hg hr hl2 (ones_append ho2 ho) hl, Nat.le_succ n, .gro (.at_ (gro_new n) (by omega) (by omega) (upd_same _ _ _) (by rw [List.length_append, hl2, hl, Nat.add_mul]) (ones_append ho2 ho)), fun b hb => ?_, fun b hb hne => ?_, fun b hb => ?_, .inr (by show 3 * n ≤ 3 * n + 1; omega)⟩
        · rw [upd_ne (by omega), upd_ne (by omega)]
        · rw [upd_ne (by omega), upd_ne (fun e => hne 0 len len (by rw [e]))]
        · have hb := List.mem_singleton.1 hb
          rw [hb]
          exact ⟨hlo2, hg⟩
end
theorem memN_gro {b : Nat} : ∀ {W : List Nat}, (∀ c ∈ W, gro c = true) → gro b = false → memN b W = false := by
  intro W
  induction W with
  | nil => intro _ _; rfl
  | cons c W ih =>
    intro h hb
    unfold memN
    cases he : Nat.beq b c with
    | true =>
      have := h c (by simp)
      rw [← Nat.eq_of_beq_eq_true he, hb] at this
      cases this
    | false => exact ih (fun d hd => h d (by simp [hd])) hb
theorem okEffsF_gro {u b : Nat} : ∀ {l : List (Nat × HF × List Nat)}, (∀ x ∈ l, ∀ c ∈ x.2.2, gro c = true) → gro b = false → okEffsF u b l = true := by
  intro l
  induction l with
  | nil => intro _ _; rfl
  | cons x l ih =>
    intro h hb
    obtain ⟨e, g, W⟩ := x
    unfold okEffsF
    rw [memN_gro (h (e, g, W) (by simp)) hb, Bool.not_false, Bool.or_true]
    exact ih (fun y hy => h y (by simp [hy])) hb
theorem okLoads_gro {m : Nat} {W : List Nat} : ∀ {l : List (Nat × Nat)}, (∀ b ∈ W, gro b = true) → (∀ x ∈ l, gro x.2 = false) → okLoads m W l = true := by
  intro l
  induction l with
  | nil => intro _ _; rfl
  | cons x l ih =>
    intro h hb
    obtain ⟨i, b⟩ := x
    unfold okLoads
    rw [memN_gro h (hb (i, b) (by simp)), Bool.not_false, Bool.or_true]
    exact ih h fun y hy => hb y (by simp [hy])
theorem okAls_dif {m b : Nat} : ∀ {l : List (Nat × Nat)}, (∀ x ∈ l, x.2 ≠ b) → okAls m b l = true := by
  intro l
  induction l with
  | nil => intro _; rfl
  | cons x l ih =>
    intro h
    obtain ⟨i, c⟩ := x
    unfold okAls
    have : Nat.beq b c = false := by
      cases he : Nat.beq b c with
      | false => rfl
      | true => exact absurd (Nat.eq_of_beq_eq_true he).symm (h (i, c) (by simp))
    rw [this, Bool.not_false, Bool.or_true]
    exact ih fun y hy => h y (by simp [hy])
theorem okLoads_dif {m b : Nat} : ∀ {l : List (Nat × Nat)}, (∀ x ∈ l, x.2 ≠ b) → okLoads m [b] l = true := by
  intro l
  induction l with
  | nil => intro _; rfl
  | cons x l ih =>
    intro h
    obtain ⟨i, c⟩ := x
    have hm : memN c [b] = false := by
      unfold memN
      cases he : Nat.beq c b with
      | false => rfl
      | true => exact absurd (Nat.eq_of_beq_eq_true he) (h (i, c) (by simp))
    unfold okLoads
    rw [hm, Bool.not_false, Bool.or_true]
    exact ih fun y hy => h y (by simp [hy])
section
variable {X : CtxF} {ops r : List Oper} {t : TF} {h : HF} {n : Nat} {w : List Nat} {Q : SV → Prop} {o : Oper} {d : Tmp}
theorem st_appG {xT sT e : TypeId} {s x : Operand} {lo len size bytes m : Nat} {z : Value} {c new : List Value} (hw : wantsF ops t o = true) (hd : o.dst = some d) (hn : dstOk X.nt (some d) = true) (ho : o.op = .call { callee := .builtin .append, args := #[s, x], argTypes := #[sT, xT] }) (hxT : (match X.E.und xT with | some (.int _) => false | none => false | _ => true) = true)
    (hu : X.E.und sT = some (.slice e)) (hi : X.E.inf e = some (size, bytes, z)) (hz : (vcells z).length = size) (h1 : 1 ≤ size ∧ 1 ≤ bytes) (hg : Gr0 h lo n e size (evF t s) len c) (hx : argS h size (evF t x) m new) (hb : (len + m) * bytes ≤ 1099511627776) (hl : new.length = m * size) (hon : ones new = true) (hlo : X.n0 ≤ lo ∧ lo ≤ n)
    (k : ∀ v' h' n', n ≤ n' → Gr0 h' lo n' e size v' (len + m) (c ++ new) → Ext lo h h' → Keep (evF t s) n h h' → (v' = evF t s ∨ Fresh n v') → EO X ops r ⟨upd t d v', h', n', w⟩ Q) : EO X ops (o :: r) ⟨t, h, n, w⟩ Q := by
  obtain ⟨v', h', n', W, h2, h3, h4, h5, h6, h7, h8⟩ := append_Gr0 hu hi hz h1 hg hx hb hl hon hlo.2
  refine st_append hw hd hn ho hxT h2 ?_
  rw [addW_big fun b hb => by have := (h7 b hb).1; omega]
  exact k v' h' n' h3 h4 h5 h6 h8
end
section
variable {X : CtxF} {ops r : List Oper} {ms : List Nat} {i m : Nat} {t : TF} {h : HF} {n : Nat} {w : List Nat} {al ld : List (Nat × Nat)} {ef : List (Nat × HF × List Nat)} {Q : SV → Prop} {o : Oper} {d : Tmp}
theorem dr_appG {xT sT e : TypeId} {s x : Operand} {lo len size bytes mm : Nat} {z : Value} {c new : List Value} (hw : wantsF ops t o = true) (hd : o.dst = some d) (hn : dstOk X.nt (some d) = true) (ho : o.op = .call { callee := .builtin .append, args := #[s, x], argTypes := #[sT, xT] }) (hxT : (match X.E.und xT with | some (.int _) => false | none => false | _ => true) = true)
    (hu : X.E.und sT = some (.slice e)) (hi : X.E.inf e = some (size, bytes, z)) (hz : (vcells z).length = size) (h1 : 1 ≤ size ∧ 1 ≤ bytes) (g1 : allEfF m ef = true) (g2 : allAl m al = true) (g3 : ∀ y ∈ ld, gro y.2 = false) (hg : Gr0 h lo n e size (evF t s) len c) (hx : argS h size (evF t x) mm new) (hb : (len + mm) * bytes ≤ 1099511627776) (hl : new.length = mm * size) (hon : ones new = true) (hlo : X.n0 ≤ lo ∧ lo ≤ n)
    (k : ∀ v' h' n' W, n ≤ n' → Gr0 h' lo n' e size v' (len + mm) (c ++ new) → Ext lo h h' → Keep (evF t s) n h h' → (v' = evF t s ∨ Fresh n v') → (∀ b ∈ W, gro b = true) → ED X ops r ms (i + 1) ⟨⟨upd t d v', h', n', w⟩, al, ld, (i, h, W) :: ef⟩ Q) : ED X ops (o :: r) (m :: ms) i ⟨⟨t, h, n, w⟩, al, ld, ef⟩ Q := by
  obtain ⟨v', h', n', W, h2, h3, h4, h5, h6, h7, h8⟩ := append_Gr0 hu hi hz h1 hg hx hb hl hon hlo.2
  refine dr_append hw hd hn ho hxT h2 g1 g2 (okLoads_gro (fun b hb => (h7 b hb).2) g3) h3 ?_
  rw [addW_big fun b hb => by have := (h7 b hb).1; omega]
  exact k v' h' n' W h3 h4 h5 h6 h8 fun b hb => (h7 b hb).2
end
end Go.Proofs.YtokfihhdllmbmaaGreatDoor
namespace Go.Proofs.YtokfihhdllmbmaaGreatDoor
open Go Go.GL
section
variable {X : CtxF} {ops r : List Oper} {t : TF} {h : HF} {n : Nat} {w : List Nat} {Q : SV → Prop} {o : Oper} {d : Tmp}
theorem st_strB {ty ty' : TypeId} {x y : Operand} {a b : List UInt8} (c : Bool) (hw : wantsF ops t o = true) (hd : o.dst = some d) (hn : dstOk X.nt (some d) = true) (ho : o.op = .binOp .eql ty x y ty') (hx : evF t x = .string ⟨⟨a⟩⟩) (hy : evF t y = .string ⟨⟨b⟩⟩) (hr : (a == b) = c)
    (k : EO X ops r ⟨upd t d (.bool c), h, n, w⟩ Q) : EO X ops (o :: r) ⟨t, h, n, w⟩ Q := by
  refine st_val hw hd hn (by rw [ho]; rfl) ?_ k
  rw [ho]
  show binE X.E .eql ty (evF t x) (evF t y) = _
  rw [hx, hy, ← hr]
  rfl
theorem st_strN {ty ty' : TypeId} {x y : Operand} {a b : List UInt8} (c : Bool) (hw : wantsF ops t o = true) (hd : o.dst = some d) (hn : dstOk X.nt (some d) = true) (ho : o.op = .binOp .neq ty x y ty') (hx : evF t x = .string ⟨⟨a⟩⟩) (hy : evF t y = .string ⟨⟨b⟩⟩) (hr : (!(a == b)) = c)
    (k : EO X ops r ⟨upd t d (.bool c), h, n, w⟩ Q) : EO X ops (o :: r) ⟨t, h, n, w⟩ Q := by
  refine st_val hw hd hn (by rw [ho]; rfl) ?_ k
  rw [ho]
  show binE X.E .neq ty (evF t x) (evF t y) = _
  rw [hx, hy, ← hr]
  rfl
end
def VX (C : CalF) (f : FuncId) (args : List Value) (h : HF) (n : Nat) (P : Value → Prop) : Prop := CF C f args h n fun v h' n' w => w = [] ∧ n ≤ n' ∧ Ext n h h' ∧ P v
theorem retCellX {fn : Func} {P : Value → Prop} {e : Ex} {t : TF} {h h' : HF} {n n' : Nat} {a a2 : Tmp} {ty e1 : TypeId} {b sz bt : Nat} {z : Value} (u : Value) {cs : List Value} (he : isEnd e = true) (hr : fn.results.toList = [.cell a ty, .tmp a2]) (ha : t a = .pointer (some ⟨b, 0, none⟩)) (ha2 : t a2 = u) (hg : GL.isAgg env ty = some true) (hi : env.inf ty = some (sz, bt, z)) (hb : h' b = some (.row cs e1)) (hl : cs.length = sz) (hn : n ≤ n') (hx : Ext n h h') (hp : P (.tuple #[.agg cs.toArray, u])) : RetH fn (fun v h' n' w => w = [] ∧ n ≤ n' ∧ Ext n h h' ∧ P v) e ⟨t, h', n', []⟩ := by
  refine retH [.agg cs.toArray, u] he ?_ rfl ⟨rfl, hn, hx, hp⟩
  rw [hr]
  have l1 := loadn_eq hg hi hb rfl (show 0 + sz ≤ cs.length by omega) (show (cs.drop 0).take sz = cs by rw [List.drop_zero, List.take_of_length_le (by omega)])
  simp only [resF, ha, ha2, l1]
theorem hasPre_ok (k : Nat) (h : HF) (n : Nat) (s : List UInt8) : VF (cal (k + 1)) 231 [.string ⟨⟨s⟩⟩, .string ⟨⟨[45]⟩⟩] h n fun v => v = .bool (hasMinus s) := by
  refine CF_flat (fn := Tryz.f231) rfl rfl rfl rfl ?_
  simp only [NV, Nat.reduceEqDiff, reduceCtorEq]
  repeat refine zR ?_
  simp only [NV, Nat.reduceEqDiff, reduceCtorEq]
  cases s with
  | nil =>
    refine zM ?_
    refine st_I (ik := .i64) (a := 0) rfl rfl rfl rfl rfl ?_
    refine zM ?_
    refine st_I (ik := .i64) (a := 1) rfl rfl rfl rfl rfl ?_
    repeat refine zR ?_
    simp only [NV, Nat.reduceEqDiff, reduceCtorEq]
    exact retF _ rfl (resF_tmp rfl) rfl rfl rfl
  | cons x s =>
    refine zM ?_
    refine st_I (ik := .i64) (a := ((x :: s).length : Int)) rfl rfl rfl rfl rfl ?_
    refine zM ?_
    refine st_I (ik := .i64) (a := 1) rfl rfl rfl rfl rfl ?_
    refine st_geT rfl rfl rfl rfl rfl rfl (by rw [List.length_cons]; omega) ?_
    refine zM ?_
    refine zM ?_
    refine zM ?_
    refine st_I (ik := .i64) (a := 1) rfl rfl rfl rfl rfl ?_
    refine st_strHi (s := x :: s) (j := 1) rfl rfl rfl rfl rfl rfl rfl rfl (by simp) ?_
    refine zM ?_
    refine st_strB (a := [x]) (b := [45]) (x == 45) rfl rfl rfl rfl rfl rfl (by simp) ?_
    repeat refine zR ?_
    simp only [NV, Nat.reduceEqDiff, reduceCtorEq]
    exact retF _ rfl (resF_tmp rfl) rfl rfl (by show Value.bool _ = Value.bool _; simp [hasMinus])
theorem minus_len {s : List UInt8} (h : hasMinus s = true) : 1 ≤ s.length := by
  unfold hasMinus at h
  cases s with
  | nil => simp at h
  | cons => simp
theorem cutPre1_ok (k : Nat) (h : HF) (n : Nat) (s : List UInt8) : VF (cal (k + 2)) 200 [.string ⟨⟨s⟩⟩, .string ⟨⟨[45]⟩⟩] h n fun v => v = .tuple #[.string ⟨⟨bodyOf s⟩⟩, .bool (hasMinus s)] := by
  refine CF_flat (fn := Tryz.f200) rfl rfl rfl rfl ?_
  simp only [NV, Nat.reduceEqDiff, reduceCtorEq]
  repeat refine zR ?_
  simp only [NV, Nat.reduceEqDiff, reduceCtorEq]
  refine zM ?_
  refine zM ?_
  refine st_vf _ rfl rfl rfl rfl rfl (hasPre_ok k h n s) ?_
  rintro _ rfl
  by_cases hm : hasMinus s = true
  · rw [hm]
    repeat refine zR ?_
    simp only [NV, Nat.reduceEqDiff, reduceCtorEq]
    rw [EC_cond_false rfl]
    simp only [NV, Nat.reduceEqDiff, reduceCtorEq]
    refine zM ?_
    refine zM ?_
    refine st_I (ik := .i64) (a := 1) rfl rfl rfl rfl rfl ?_
    refine st_strLo (s := s) (j := 1) rfl rfl rfl rfl rfl rfl rfl rfl (minus_len hm) ?_
    repeat refine zR ?_
    simp only [NV, Nat.reduceEqDiff, reduceCtorEq]
    refine retF [.string ⟨⟨s.drop 1⟩⟩, .bool true] rfl rfl rfl rfl ?_
    unfold bodyOf
    rw [if_pos hm]
    rfl
  · rw [Bool.eq_false_iff.2 hm]
    repeat refine zR ?_
    simp only [NV, Nat.reduceEqDiff, reduceCtorEq]
    rw [EC_cond_true rfl]
    simp only [NV, Nat.reduceEqDiff, reduceCtorEq]
    repeat refine zR ?_
    simp only [NV, Nat.reduceEqDiff, reduceCtorEq]
    refine retF [.string ⟨⟨s⟩⟩, .bool false] rfl rfl rfl rfl ?_
    unfold bodyOf
    rw [if_neg hm]
    rfl
theorem cutPre_ok (k : Nat) (h : HF) (n : Nat) (s : List UInt8) : VF (cal (k + 3)) 168 [.string ⟨⟨s⟩⟩, .string ⟨⟨[45]⟩⟩] h n fun v => v = .tuple #[.string ⟨⟨bodyOf s⟩⟩, .bool (hasMinus s)] := by
  refine CF_flat (fn := Tryz.f168) rfl rfl rfl rfl ?_
  simp only [NV, Nat.reduceEqDiff, reduceCtorEq]
  repeat refine zR ?_
  simp only [NV, Nat.reduceEqDiff, reduceCtorEq]
  refine zM ?_
  refine zM ?_
  refine st_vf _ rfl rfl rfl rfl rfl (cutPre1_ok k h n s) ?_
  rintro _ rfl
  repeat refine zR ?_
  simp only [NV, Nat.reduceEqDiff, reduceCtorEq]
  exact retF [.string ⟨⟨bodyOf s⟩⟩, .bool (hasMinus s)] rfl rfl rfl rfl rfl
theorem cut_parts (s : List UInt8) : ∃ T D, s.takeWhile dig = T ∧ s.dropWhile dig = D ∧ s = T ++ D ∧ (∀ b ∈ T, dig b = true) ∧ (D = [] ∨ ∃ x D', D = x :: D' ∧ dig x = false) := by
  refine ⟨_, _, rfl, rfl, List.takeWhile_append_dropWhile.symm, takeWhile_all, ?_⟩
  cases hd : s.dropWhile dig with
  | nil => exact .inl rfl
  | cons x D' => exact .inr ⟨x, D', rfl, by
      have := List.head?_dropWhile_not dig s
      rw [hd] at this
      simpa using this⟩
set_option maxHeartbeats 1000000
theorem cutDigits_ok (k : Nat) (h : HF) (n : Nat) (s : List UInt8) (hs : s.length < 1000000) : VF (cal (k + 1)) 169 [.string ⟨⟨s⟩⟩] h n fun v => v = .tuple #[.string ⟨⟨s.takeWhile dig⟩⟩, .string ⟨⟨s.dropWhile dig⟩⟩] := by
  refine CF_flat (fn := Tryz.f169) rfl rfl rfl rfl ?_
  obtain ⟨T, D, hT, hD, hTD, hall, hnd⟩ := cut_parts s
  rw [hT, hD]
  clear hT hD
  have hlen : s.length = T.length + D.length := by rw [hTD, List.length_append]
  simp only [NV, Nat.reduceEqDiff, reduceCtorEq]
  repeat refine zR ?_
  simp only [NV, Nat.reduceEqDiff, reduceCtorEq]
  repeat refine zR ?_
  simp only [NV, Nat.reduceEqDiff, reduceCtorEq]
  refine EC_for (α := Nat) (fun m => [(0, .string ⟨⟨s⟩⟩), (4, .int .i64 (m : Int))]) (fun m h' n' w => h = h' ∧ n = n' ∧ w = [] ∧ m ≤ T.length) (fun m => T.length - m) 0 ⟨rfl, rfl, trivial⟩ ⟨rfl, rfl, rfl, Nat.zero_le _⟩ (by show T.length - 0 < LL; unfold LL; omega) ?_
  rintro m t _ _ _ ⟨rfl, rfl, rfl, hm⟩
  simp only [NV, Nat.reduceEqDiff, reduceCtorEq]
  refine zM ?_
  refine zM ?_
  refine st_I (ik := .i64) (a := (s.length : Int)) rfl rfl rfl rfl rfl ?_
  have fin : ∀ t' : TF, t' 0 = .string ⟨⟨s⟩⟩ → m = T.length → True := fun _ _ _ => trivial
  by_cases hmT : m = T.length
  · have htake : s.take m = T := by rw [hTD, hmT, List.take_left' rfl]
    have hdrop : s.drop m = D := by rw [hTD, hmT, List.drop_left' rfl]
    rcases hnd with rfl | ⟨x, D', rfl, hx⟩
    · rw [List.length_nil] at hlen
      repeat refine zR ?_
      simp only [NV, Nat.reduceEqDiff, reduceCtorEq]
      rw [EC_cond_false rfl]
      simp only [NV, Nat.reduceEqDiff, reduceCtorEq]
      rw [EC_quietC rfl]
      refine zM ?_
      refine zM ?_
      refine st_strHi (s := s) (j := m) rfl rfl rfl rfl rfl rfl rfl rfl (by omega) ?_
      refine zM ?_
      refine zM ?_
      refine st_strLo (s := s) (j := m) rfl rfl rfl rfl rfl rfl rfl rfl (by omega) ?_
      rw [htake, hdrop]
      repeat refine zR ?_
      simp only [NV, Nat.reduceEqDiff, reduceCtorEq]
      exact retF [.string ⟨⟨T⟩⟩, .string ⟨⟨[]⟩⟩] rfl rfl rfl rfl rfl
    · rw [List.length_cons] at hlen
      have hb : s[m]? = some x := by rw [hTD, hmT, List.getElem?_append_right (Nat.le_refl _), Nat.sub_self]; rfl
      have hx' : ¬ (48 ≤ x.toNat ∧ x.toNat ≤ 57) := fun h => by rw [dig_iff.2 h] at hx; cases hx
      refine st_ltT rfl rfl rfl rfl rfl rfl (by omega) ?_
      refine zM ?_
      refine zM ?_
      refine zM ?_
      refine st_byte (j := m) rfl rfl rfl rfl rfl rfl rfl rfl hb ?_
      by_cases hx1 : 48 ≤ x.toNat
      · refine st_leT rfl rfl rfl rfl rfl rfl (by omega) ?_
        repeat refine zR ?_
        refine st_byte (j := m) rfl rfl rfl rfl rfl rfl rfl rfl hb ?_
        repeat refine zR ?_
        simp only [NV, Nat.reduceEqDiff, reduceCtorEq]
        rw [EC_cond_false rfl]
        simp only [NV, Nat.reduceEqDiff, reduceCtorEq]
        rw [EC_quietC rfl]
        refine zM ?_
        refine zM ?_
        refine st_strHi (s := s) (j := m) rfl rfl rfl rfl rfl rfl rfl rfl (by omega) ?_
        refine zM ?_
        refine zM ?_
        refine st_strLo (s := s) (j := m) rfl rfl rfl rfl rfl rfl rfl rfl (by omega) ?_
        rw [htake, hdrop]
        repeat refine zR ?_
        simp only [NV, Nat.reduceEqDiff, reduceCtorEq]
        exact retF [.string ⟨⟨T⟩⟩, .string ⟨⟨x :: D'⟩⟩] rfl rfl rfl rfl rfl
      · refine st_leF rfl rfl rfl rfl rfl rfl (by omega) ?_
        repeat refine zR ?_
        simp only [NV, Nat.reduceEqDiff, reduceCtorEq]
        rw [EC_cond_false rfl]
        simp only [NV, Nat.reduceEqDiff, reduceCtorEq]
        rw [EC_quietC rfl]
        refine zM ?_
        refine zM ?_
        refine st_strHi (s := s) (j := m) rfl rfl rfl rfl rfl rfl rfl rfl (by omega) ?_
        refine zM ?_
        refine zM ?_
        refine st_strLo (s := s) (j := m) rfl rfl rfl rfl rfl rfl rfl rfl (by omega) ?_
        rw [htake, hdrop]
        repeat refine zR ?_
        simp only [NV, Nat.reduceEqDiff, reduceCtorEq]
        exact retF [.string ⟨⟨T⟩⟩, .string ⟨⟨x :: D'⟩⟩] rfl rfl rfl rfl rfl
  obtain ⟨x, hx⟩ : ∃ x, T[m]? = some x := ⟨T[m]'(by omega), List.getElem?_eq_getElem (by omega)⟩
  have hb : s[m]? = some x := by rw [hTD, List.getElem?_append_left (by omega)]; exact hx
  have hx1 := dig_iff.1 (hall x (List.mem_of_getElem? hx))
  refine st_ltT rfl rfl rfl rfl rfl rfl (by omega) ?_
  refine zM ?_
  refine zM ?_
  refine zM ?_
  refine st_byte (j := m) rfl rfl rfl rfl rfl rfl rfl rfl hb ?_
  refine st_leT rfl rfl rfl rfl rfl rfl (by omega) ?_
  repeat refine zR ?_
  refine st_byte (j := m) rfl rfl rfl rfl rfl rfl rfl rfl hb ?_
  repeat refine zR ?_
  simp only [NV, Nat.reduceEqDiff, reduceCtorEq]
  rw [EC_cond_true rfl]
  simp only [NV, Nat.reduceEqDiff, reduceCtorEq]
  repeat refine zR ?_
  simp only [NV, Nat.reduceEqDiff, reduceCtorEq]
  exact goOn (m + 1) (by show T.length - (m + 1) < T.length - m; omega) ⟨rfl, rfl, trivial⟩ ⟨rfl, rfl, rfl, by show m + 1 ≤ _; omega⟩
def spP (mi : Bool) (m r : List UInt8) : List UInt8 × List UInt8 × Bool :=
  if m = [48] then (m, [], !mi && r.isEmpty)
  else if m = [] ∨ m.head? = some 48 then (m, [], false)
  else if r = [] then (m, [], true)
  else if r.head? ≠ some 47 then (m, [], false)
  else (m, (r.drop 1).takeWhile dig, ((r.drop 1).dropWhile dig).isEmpty && !((r.drop 1).takeWhile dig).isEmpty && ((r.drop 1).takeWhile dig).head? != some 48 && (r.drop 1).takeWhile dig != [49])
theorem spl_spP (s : List UInt8) : spl s = spP (hasMinus s) ((bodyOf s).takeWhile dig) ((bodyOf s).dropWhile dig) := rfl
theorem head_ne {x : UInt8} {l : List UInt8} {c : UInt8} (h : x.toNat ≠ c.toNat) : (x :: l).head? ≠ some c := fun e => h (by
  have : x = c := by simpa using e
  rw [this])
set_option maxHeartbeats 4000000
theorem split_ok (k : Nat) (h : HF) (n : Nat) (s : List UInt8) (hs : s.length < 1000000) : VX (cal (k + 4)) 129 [.string ⟨⟨s⟩⟩] h n fun v => v = .tuple #[.agg #[.bool (hasMinus s), .string ⟨⟨(spl s).1⟩⟩, .string ⟨⟨(spl s).2.1⟩⟩], .bool (spl s).2.2] := by
  refine CF_heap (fn := Tryz.f129) rfl rfl rfl rfl ?_
  rw [spl_spP]
  have hbl := bodyOf_len s
  simp only [NV, Nat.reduceEqDiff, reduceCtorEq]
  refine st_alloc rfl rfl rfl rfl rfl ?_
  repeat refine zR ?_
  simp only [NV, Nat.reduceEqDiff, reduceCtorEq]
  refine st_alloc rfl rfl rfl rfl rfl ?_
  simp only [NV, Nat.reduceEqDiff, reduceCtorEq]
  generalize hh : upd (upd h (3 * n + 2) _) (3 * (n + 1) + 2) _ = h1
  have hr2 : ∃ e, h1 (3 * n + 2) = some (.row [.bool false, .string ⟨⟨[]⟩⟩, .string ⟨⟨[]⟩⟩] e) := ⟨_, by rw [← hh, upd_ne (by omega), upd_same]; rfl⟩
  have hr4 : ∃ e, h1 (3 * (n + 1) + 2) = some (.row [.bool false, .string ⟨⟨[]⟩⟩, .string ⟨⟨[]⟩⟩] e) := ⟨_, by rw [← hh, upd_same]; rfl⟩
  obtain ⟨e2, hr2⟩ := hr2
  obtain ⟨e4, hr4⟩ := hr4
  have hx : Ext n h h1 := fun b hb => by rw [← hh, upd_ne (by omega), upd_ne (by omega)]
  clear hh
  refine zM ?_
  refine st_vf _ rfl rfl rfl rfl rfl (cutPre_ok k h1 (n + 1 + 1) s) ?_
  rintro _ rfl
  generalize bodyOf s = B at hbl ⊢
  generalize hasMinus s = mi
  repeat refine zR ?_
  simp only [NV, Nat.reduceEqDiff, reduceCtorEq]
  repeat refine zR ?_
  refine st_storeN (cs := [.bool mi]) rfl rfl rfl rfl rfl rfl rfl rfl hr4 (Nat.le_of_ble_eq_true rfl) (by show 3 * n ≤ 3 * (n + 1) + 2; omega) ?_
  simp only [NV, Nat.reduceEqDiff, reduceCtorEq]
  generalize hh : upd h1 (3 * (n + 1) + 2) _ = h2
  replace hr2 : h2 (3 * n + 2) = some (.row [.bool false, .string ⟨⟨[]⟩⟩, .string ⟨⟨[]⟩⟩] e2) := by rw [← hh, upd_ne (by omega)]; exact hr2
  replace hr4 : h2 (3 * (n + 1) + 2) = some (.row [.bool mi, .string ⟨⟨[]⟩⟩, .string ⟨⟨[]⟩⟩] e4) := by rw [← hh, upd_same]; rfl
  replace hx : Ext n h h2 := fun b hb => by rw [← hh, upd_ne (by omega), hx b hb]
  clear hh
  refine zM ?_
  refine st_vf _ rfl rfl rfl rfl rfl (cutDigits_ok (k + 2) h2 (n + 1 + 1) B (by omega)) ?_
  rintro _ rfl
  have hRl : (B.dropWhile dig).length ≤ B.length := (List.dropWhile_sublist dig).length_le
  generalize B.takeWhile dig = M
  generalize B.dropWhile dig = R at hRl ⊢
  repeat refine zR ?_
  refine st_storeN (cs := [.string ⟨⟨M⟩⟩]) rfl rfl rfl rfl rfl rfl rfl rfl hr4 (Nat.le_of_ble_eq_true rfl) (by show 3 * n ≤ 3 * (n + 1) + 2; omega) ?_
  generalize hh : upd h2 (3 * (n + 1) + 2) _ = h3
  replace hr2 : h3 (3 * n + 2) = some (.row [.bool false, .string ⟨⟨[]⟩⟩, .string ⟨⟨[]⟩⟩] e2) := by rw [← hh, upd_ne (by omega)]; exact hr2
  replace hr4 : h3 (3 * (n + 1) + 2) = some (.row [.bool mi, .string ⟨⟨M⟩⟩, .string ⟨⟨[]⟩⟩] e4) := by rw [← hh, upd_same]; rfl
  replace hx : Ext n h h3 := fun b hb => by rw [← hh, upd_ne (by omega), hx b hb]
  clear hh
  repeat refine zR ?_
  simp only [NV, Nat.reduceEqDiff, reduceCtorEq]
  repeat refine zR ?_
  refine st_load1 rfl rfl rfl rfl rfl rfl hr4 rfl (v := .string ⟨⟨M⟩⟩) rfl ?_
  have ldT : loadVF env 181 h3 ⟨3 * (n + 1) + 2, 0, none⟩ = some (.agg #[.bool mi, .string ⟨⟨M⟩⟩, .string ⟨⟨[]⟩⟩]) := loadn_eq rfl rfl hr4 rfl (Nat.le_of_ble_eq_true rfl) rfl
  by_cases h48 : M = [48]
  · refine st_strB true rfl rfl rfl rfl rfl rfl (by rw [h48]; rfl) ?_
    repeat refine zR ?_
    simp only [NV, Nat.reduceEqDiff, reduceCtorEq]
    rw [EC_cond_true rfl]
    simp only [NV, Nat.reduceEqDiff, reduceCtorEq]
    refine st_load (v := .agg #[.bool mi, .string ⟨⟨M⟩⟩, .string ⟨⟨[]⟩⟩]) rfl rfl rfl rfl rfl ldT ?_
    cases mi with
    | true =>
      repeat refine zR ?_
      refine st_storeW [.bool true, .string ⟨⟨M⟩⟩, .string ⟨⟨[]⟩⟩] rfl rfl rfl rfl rfl rfl rfl rfl hr2 rfl (by show 3 * n ≤ 3 * n + 2; omega) ?_
      repeat refine zR ?_
      simp only [NV, Nat.reduceEqDiff, reduceCtorEq]
      refine retCellX (.bool false) rfl rfl rfl rfl rfl rfl (upd_same _ _ _) rfl (by omega) (fun b hb => (upd_ne (by omega)).trans (hx b hb)) ?_
      rw [show spP true M R = (M, [], false) from by unfold spP; rw [if_pos h48]; rfl]
    | false =>
      cases R with
      | nil =>
        repeat refine zR ?_
        refine st_storeW [.bool false, .string ⟨⟨M⟩⟩, .string ⟨⟨[]⟩⟩] rfl rfl rfl rfl rfl rfl rfl rfl hr2 rfl (by show 3 * n ≤ 3 * n + 2; omega) ?_
        repeat refine zR ?_
        simp only [NV, Nat.reduceEqDiff, reduceCtorEq]
        refine retCellX (.bool true) rfl rfl rfl rfl rfl rfl (upd_same _ _ _) rfl (by omega) (fun b hb => (upd_ne (by omega)).trans (hx b hb)) ?_
        rw [show spP false M [] = (M, [], true) from by unfold spP; rw [if_pos h48]; rfl]
      | cons z R =>
        repeat refine zR ?_
        refine st_storeW [.bool false, .string ⟨⟨M⟩⟩, .string ⟨⟨[]⟩⟩] rfl rfl rfl rfl rfl rfl rfl rfl hr2 rfl (by show 3 * n ≤ 3 * n + 2; omega) ?_
        repeat refine zR ?_
        simp only [NV, Nat.reduceEqDiff, reduceCtorEq]
        refine retCellX (.bool false) rfl rfl rfl rfl rfl rfl (upd_same _ _ _) rfl (by omega) (fun b hb => (upd_ne (by omega)).trans (hx b hb)) ?_
        rw [show spP false M (z :: R) = (M, [], false) from by unfold spP; rw [if_pos h48]; rfl]
  refine st_strB false rfl rfl rfl rfl rfl rfl (by simpa using h48) ?_
  repeat refine zR ?_
  simp only [NV, Nat.reduceEqDiff, reduceCtorEq]
  rw [EC_cond_false rfl]
  simp only [NV, Nat.reduceEqDiff, reduceCtorEq]
  repeat refine zR ?_
  refine st_load1 rfl rfl rfl rfl rfl rfl hr4 rfl (v := .string ⟨⟨M⟩⟩) rfl ?_
  have bad : ∀ t' : TF, spP mi M R = (M, [], false) → True := fun _ _ => trivial
  cases M with
  | nil =>
    repeat refine zR ?_
    simp only [NV, Nat.reduceEqDiff, reduceCtorEq]
    rw [EC_cond_true rfl]
    simp only [NV, Nat.reduceEqDiff, reduceCtorEq]
    refine st_load (v := .agg #[.bool mi, .string ⟨⟨[]⟩⟩, .string ⟨⟨[]⟩⟩]) rfl rfl rfl rfl rfl ldT ?_
    refine st_storeW [.bool mi, .string ⟨⟨[]⟩⟩, .string ⟨⟨[]⟩⟩] rfl rfl rfl rfl rfl rfl rfl rfl hr2 rfl (by show 3 * n ≤ 3 * n + 2; omega) ?_
    repeat refine zR ?_
    simp only [NV, Nat.reduceEqDiff, reduceCtorEq]
    refine retCellX (.bool false) rfl rfl rfl rfl rfl rfl (upd_same _ _ _) rfl (by omega) (fun b hb => (upd_ne (by omega)).trans (hx b hb)) ?_
    rw [show spP mi [] R = ([], [], false) from by unfold spP; rw [if_neg h48, if_pos (.inl rfl)]]
  | cons y M =>
  repeat refine zR ?_
  refine st_load1 rfl rfl rfl rfl rfl rfl hr4 rfl (v := .string ⟨⟨y :: M⟩⟩) rfl ?_
  refine st_byte (s := y :: M) (j := 0) rfl rfl rfl rfl rfl rfl rfl rfl rfl ?_
  by_cases hy : y.toNat = 48
  · have hy' : y = 48 := UInt8.toNat_inj.1 hy
    repeat refine zR ?_
    simp only [NV, Nat.reduceEqDiff, reduceCtorEq]
    rw [EC_cond_true rfl]
    simp only [NV, Nat.reduceEqDiff, reduceCtorEq]
    refine st_load (v := .agg #[.bool mi, .string ⟨⟨y :: M⟩⟩, .string ⟨⟨[]⟩⟩]) rfl rfl rfl rfl rfl ldT ?_
    refine st_storeW [.bool mi, .string ⟨⟨y :: M⟩⟩, .string ⟨⟨[]⟩⟩] rfl rfl rfl rfl rfl rfl rfl rfl hr2 rfl (by show 3 * n ≤ 3 * n + 2; omega) ?_
    repeat refine zR ?_
    simp only [NV, Nat.reduceEqDiff, reduceCtorEq]
    refine retCellX (.bool false) rfl rfl rfl rfl rfl rfl (upd_same _ _ _) rfl (by omega) (fun b hb => (upd_ne (by omega)).trans (hx b hb)) ?_
    rw [show spP mi (y :: M) R = (y :: M, [], false) from by unfold spP; rw [if_neg h48, if_pos (.inr (by rw [hy']; rfl))]]
  have hy2 : ¬ (y :: M = [] ∨ (y :: M).head? = some 48) := by
    rintro (h | h)
    · cases h
    · exact head_ne (c := 48) hy h
  repeat refine zR ?_
  simp only [NV, Nat.reduceEqDiff, reduceCtorEq]
  rw [EC_cond_false rfl]
  simp only [NV, Nat.reduceEqDiff, reduceCtorEq]
  cases R with
  | nil =>
    repeat refine zR ?_
    simp only [NV, Nat.reduceEqDiff, reduceCtorEq]
    rw [EC_cond_true rfl]
    simp only [NV, Nat.reduceEqDiff, reduceCtorEq]
    refine st_load (v := .agg #[.bool mi, .string ⟨⟨y :: M⟩⟩, .string ⟨⟨[]⟩⟩]) rfl rfl rfl rfl rfl ldT ?_
    refine st_storeW [.bool mi, .string ⟨⟨y :: M⟩⟩, .string ⟨⟨[]⟩⟩] rfl rfl rfl rfl rfl rfl rfl rfl hr2 rfl (by show 3 * n ≤ 3 * n + 2; omega) ?_
    repeat refine zR ?_
    simp only [NV, Nat.reduceEqDiff, reduceCtorEq]
    refine retCellX (.bool true) rfl rfl rfl rfl rfl rfl (upd_same _ _ _) rfl (by omega) (fun b hb => (upd_ne (by omega)).trans (hx b hb)) ?_
    rw [show spP mi (y :: M) [] = (y :: M, [], true) from by unfold spP; rw [if_neg h48, if_neg hy2, if_pos rfl]]
  | cons z R =>
  repeat refine zR ?_
  simp only [NV, Nat.reduceEqDiff, reduceCtorEq]
  rw [EC_cond_false rfl]
  simp only [NV, Nat.reduceEqDiff, reduceCtorEq]
  refine zM ?_
  refine st_byte (s := z :: R) (j := 0) rfl rfl rfl rfl rfl rfl rfl rfl rfl ?_
  by_cases hz : z.toNat = 47
  case neg =>
    repeat refine zR ?_
    simp only [NV, Nat.reduceEqDiff, reduceCtorEq]
    rw [EC_cond_true rfl]
    simp only [NV, Nat.reduceEqDiff, reduceCtorEq]
    refine st_load (v := .agg #[.bool mi, .string ⟨⟨y :: M⟩⟩, .string ⟨⟨[]⟩⟩]) rfl rfl rfl rfl rfl ldT ?_
    refine st_storeW [.bool mi, .string ⟨⟨y :: M⟩⟩, .string ⟨⟨[]⟩⟩] rfl rfl rfl rfl rfl rfl rfl rfl hr2 rfl (by show 3 * n ≤ 3 * n + 2; omega) ?_
    repeat refine zR ?_
    simp only [NV, Nat.reduceEqDiff, reduceCtorEq]
    refine retCellX (.bool false) rfl rfl rfl rfl rfl rfl (upd_same _ _ _) rfl (by omega) (fun b hb => (upd_ne (by omega)).trans (hx b hb)) ?_
    rw [show spP mi (y :: M) (z :: R) = (y :: M, [], false) from by unfold spP; rw [if_neg h48, if_neg hy2, if_neg (by simp), if_pos (head_ne (c := 47) hz)]]
  have hsp : spP mi (y :: M) (z :: R) = (y :: M, R.takeWhile dig, (R.dropWhile dig).isEmpty && !(R.takeWhile dig).isEmpty && (R.takeWhile dig).head? != some 48 && R.takeWhile dig != [49]) := by
    have hz' : z = 47 := UInt8.toNat_inj.1 hz
    unfold spP
    rw [if_neg h48, if_neg hy2, if_neg (by simp), if_neg (by rw [hz']; simp)]
    rfl
  rw [hsp]
  rw [List.length_cons] at hRl
  repeat refine zR ?_
  simp only [NV, Nat.reduceEqDiff, reduceCtorEq]
  rw [EC_cond_false rfl]
  simp only [NV, Nat.reduceEqDiff, reduceCtorEq]
  refine zM ?_
  refine st_strLo (s := z :: R) (j := 1) rfl rfl rfl rfl rfl rfl rfl rfl (by simp) ?_
  rw [show (z :: R).drop 1 = R from rfl]
  refine st_vf _ rfl rfl rfl rfl rfl (cutDigits_ok (k + 2) h3 (n + 1 + 1) R (by omega)) ?_
  rintro _ rfl
  generalize R.takeWhile dig = D
  generalize R.dropWhile dig = E
  repeat refine zR ?_
  refine st_storeN (cs := [.string ⟨⟨D⟩⟩]) rfl rfl rfl rfl rfl rfl rfl rfl hr4 (Nat.le_of_ble_eq_true rfl) (by show 3 * n ≤ 3 * (n + 1) + 2; omega) ?_
  generalize hh : upd h3 (3 * (n + 1) + 2) _ = h4
  replace hr2 : h4 (3 * n + 2) = some (.row [.bool false, .string ⟨⟨[]⟩⟩, .string ⟨⟨[]⟩⟩] e2) := by rw [← hh, upd_ne (by omega)]; exact hr2
  replace hr4 : h4 (3 * (n + 1) + 2) = some (.row [.bool mi, .string ⟨⟨y :: M⟩⟩, .string ⟨⟨D⟩⟩] e4) := by rw [← hh, upd_same]; rfl
  replace hx : Ext n h h4 := fun b hb => by rw [← hh, upd_ne (by omega), hx b hb]
  clear hh ldT
  repeat refine zR ?_
  simp only [NV, Nat.reduceEqDiff, reduceCtorEq]
  refine EC_draw [0, 0, 2, 6, 14, 30, 62, 126, 254, 510, 1022, 2046, 4094, 8190, 16382, 32766, 65534, 131070, 262142, 32767, 1048575] rfl ?_
  refine dr_load (v := .agg #[.bool mi, .string ⟨⟨y :: M⟩⟩, .string ⟨⟨D⟩⟩]) rfl rfl rfl rfl rfl rfl (loadn_eq rfl rfl hr4 rfl (Nat.le_of_ble_eq_true rfl) rfl) rfl rfl ?_
  cases E with
  | cons x E =>
    repeat (first | refine dr_load rfl rfl rfl rfl rfl rfl (load1_eq rfl hr4 rfl rfl) rfl rfl ?_ | refine zD ?_)
    refine dr_storeN (cs := [.bool mi, .string ⟨⟨y :: M⟩⟩, .string ⟨⟨D⟩⟩]) rfl rfl rfl rfl rfl rfl rfl rfl hr2 (Nat.le_of_ble_eq_true rfl) (by show 3 * n ≤ 3 * n + 2; omega) rfl rfl rfl ?_
    repeat refine zD ?_
    simp only [NV, Nat.reduceEqDiff, reduceCtorEq]
    exact retCellX (.bool false) (cs := [.bool mi, .string ⟨⟨y :: M⟩⟩, .string ⟨⟨D⟩⟩]) rfl rfl rfl rfl rfl rfl (upd_same _ _ _) rfl (by omega) (fun b hb => (upd_ne (by omega)).trans (hx b hb)) rfl
  | nil =>
  cases D with
  | nil =>
    repeat (first | refine dr_load rfl rfl rfl rfl rfl rfl (load1_eq rfl hr4 rfl rfl) rfl rfl ?_ | refine zD ?_)
    refine dr_storeN (cs := [.bool mi, .string ⟨⟨y :: M⟩⟩, .string ⟨⟨[]⟩⟩]) rfl rfl rfl rfl rfl rfl rfl rfl hr2 (Nat.le_of_ble_eq_true rfl) (by show 3 * n ≤ 3 * n + 2; omega) rfl rfl rfl ?_
    repeat refine zD ?_
    simp only [NV, Nat.reduceEqDiff, reduceCtorEq]
    exact retCellX (.bool false) (cs := [.bool mi, .string ⟨⟨y :: M⟩⟩, .string ⟨⟨[]⟩⟩]) rfl rfl rfl rfl rfl rfl (upd_same _ _ _) rfl (by omega) (fun b hb => (upd_ne (by omega)).trans (hx b hb)) rfl
  | cons u D =>
  by_cases hu : u.toNat = 48
  · have hu' : u = 48 := UInt8.toNat_inj.1 hu
    repeat (first | refine dr_load rfl rfl rfl rfl rfl rfl (load1_eq rfl hr4 rfl rfl) rfl rfl ?_ | refine zD ?_)
    refine dr_storeN (cs := [.bool mi, .string ⟨⟨y :: M⟩⟩, .string ⟨⟨u :: D⟩⟩]) rfl rfl rfl rfl rfl rfl rfl rfl hr2 (Nat.le_of_ble_eq_true rfl) (by show 3 * n ≤ 3 * n + 2; omega) rfl rfl rfl ?_
    repeat refine zD ?_
    simp only [NV, Nat.reduceEqDiff, reduceCtorEq]
    refine retCellX (.bool false) (cs := [.bool mi, .string ⟨⟨y :: M⟩⟩, .string ⟨⟨u :: D⟩⟩]) rfl rfl rfl rfl rfl rfl (upd_same _ _ _) rfl (by omega) (fun b hb => (upd_ne (by omega)).trans (hx b hb)) ?_
    rw [hu']; rfl
  · have hu' : ((u :: D).head? != some 48) = true := by
      have := head_ne (l := D) (c := 48) hu
      simpa using this
    repeat (first | refine dr_load rfl rfl rfl rfl rfl rfl (load1_eq rfl hr4 rfl rfl) rfl rfl ?_ | refine zD ?_)
    refine dr_storeN (cs := [.bool mi, .string ⟨⟨y :: M⟩⟩, .string ⟨⟨u :: D⟩⟩]) rfl rfl rfl rfl rfl rfl rfl rfl hr2 (Nat.le_of_ble_eq_true rfl) (by show 3 * n ≤ 3 * n + 2; omega) rfl rfl (okLoads_dif (by intro x hx; simp at hx; rcases hx with rfl | rfl | rfl | rfl <;> show 3 * (n + 1) + 2 ≠ 3 * n + 2 <;> omega)) ?_
    repeat refine zD ?_
    simp only [NV, Nat.reduceEqDiff, reduceCtorEq]
    refine retCellX (.bool (u :: D != [49])) (cs := [.bool mi, .string ⟨⟨y :: M⟩⟩, .string ⟨⟨u :: D⟩⟩]) rfl rfl rfl rfl rfl rfl (upd_same _ _ _) rfl (by omega) (fun b hb => (upd_ne (by omega)).trans (hx b hb)) ?_
    rw [hu']; rfl
end Go.Proofs.YtokfihhdllmbmaaGreatDoor
namespace Go.Proofs.YtokfihhdllmbmaaGreatDoor
open Go Go.GL
theorem pow10_mono {i j : Nat} (h : i ≤ j) : 10 ^ i ≤ 10 ^ j := Nat.pow_le_pow_right (by decide) h
theorem digVal_ok (k : Nat) (h : HF) (n : Nat) (s : List UInt8) (hs : AllD s) (hl : s.length ≤ 9) : VF (cal (k + 1)) 166 [.string ⟨⟨s⟩⟩] h n fun v => v = .int .i64 ((dval s : Nat) : Int) := by
  refine CF_flat (fn := Tryz.f166) rfl rfl rfl rfl ?_
  simp only [NV, Nat.reduceEqDiff, reduceCtorEq]
  repeat refine zR ?_
  simp only [NV, Nat.reduceEqDiff, reduceCtorEq]
  repeat refine zR ?_
  simp only [NV, Nat.reduceEqDiff, reduceCtorEq]
  refine zM ?_
  refine st_I (ik := .i64) (a := (s.length : Int)) rfl rfl rfl rfl rfl ?_
  repeat refine zR ?_
  simp only [NV, Nat.reduceEqDiff, reduceCtorEq]
  refine EC_for (α := Nat) (fun m => [(0, .string ⟨⟨s⟩⟩), (3, .int .i64 ((dval (s.take m) : Nat) : Int)), (6, .int .i64 (s.length : Int)), (7, .int .i64 (m : Int))]) (fun m h' n' w => h = h' ∧ n = n' ∧ w = [] ∧ m ≤ s.length) (fun m => s.length - m) 0 ⟨rfl, rfl, rfl, rfl, trivial⟩ ⟨rfl, rfl, rfl, Nat.zero_le _⟩ (by show s.length - 0 < LL; unfold LL; omega) ?_
  rintro m t _ _ _ ⟨rfl, rfl, rfl, hm⟩
  simp only [NV, Nat.reduceEqDiff, reduceCtorEq]
  by_cases hml : m = s.length
  · repeat refine zR ?_
    simp only [NV, Nat.reduceEqDiff, reduceCtorEq]
    rw [EC_cond_false rfl]
    simp only [NV, Nat.reduceEqDiff, reduceCtorEq]
    repeat refine zR ?_
    simp only [NV, Nat.reduceEqDiff, reduceCtorEq]
    exact retF _ rfl (resF_tmp rfl) rfl rfl (by rw [hml, List.take_length]; rfl)
  obtain ⟨b, hb⟩ : ∃ b, s[m]? = some b := ⟨s[m]'(by omega), List.getElem?_eq_getElem (by omega)⟩
  have hbd := hs b (List.mem_of_getElem? hb)
  have hlt : dval (s.take m) < 10 ^ m := by
    have := dval_lt (s := s.take m) fun b hb => hs b (List.mem_of_mem_take hb)
    rw [List.length_take, Nat.min_eq_left (by omega)] at this
    exact this
  have hp := pow10_mono (i := m) (j := 8) (by omega)
  rw [show (10 : Nat) ^ 8 = 100000000 from rfl] at hp
  have hnext : dval (s.take (m + 1)) = 10 * dval (s.take m) + (b.toNat - 48) := by rw [take_snoc8 hb, dval_snoc]
  generalize dval (s.take m) = V at hlt hnext
  repeat refine zR ?_
  simp only [NV, Nat.reduceEqDiff, reduceCtorEq]
  rw [EC_cond_true rfl]
  simp only [NV, Nat.reduceEqDiff, reduceCtorEq]
  repeat refine zR ?_
  simp only [NV, Nat.reduceEqDiff, reduceCtorEq]
  refine zM ?_
  refine st_mul (a := 10) (b := (V : Int)) rfl rfl rfl rfl rfl rfl (by omega) ?_
  refine zM ?_
  refine zM ?_
  refine st_byte (j := m) rfl rfl rfl rfl rfl rfl rfl rfl hb ?_
  refine st_sub_u8 (a := b.toNat) (b := 48) rfl rfl rfl rfl rfl rfl (by omega) ?_
  refine st_conv (ik := .i64) (a := ((b.toNat - 48 : Nat) : Int)) rfl rfl rfl rfl rfl rfl (by show some (Value.int .i64 (IntKind.wrap .i64 _)) = _; rw [wrap_i64 (by omega)]) ?_
  refine st_add (a := 10 * (V : Int)) (b := ((b.toNat - 48 : Nat) : Int)) rfl rfl rfl rfl rfl rfl (by omega) ?_
  repeat refine zR ?_
  simp only [NV, Nat.reduceEqDiff, reduceCtorEq]
  repeat refine zR ?_
  simp only [NV, Nat.reduceEqDiff, reduceCtorEq]
  exact goOn (m + 1) (by show s.length - (m + 1) < s.length - m; omega) ⟨rfl, by show Value.int .i64 _ = Value.int .i64 _; rw [hnext]; congr 1, rfl, rfl, trivial⟩ ⟨rfl, rfl, rfl, by show m + 1 ≤ _; omega⟩
theorem gcdI_ok (k : Nat) (h : HF) (n : Nat) (a b : Nat) (hb : b < 9223372036854775808) : VF (cal (k + 1)) 167 [.int .i64 (a : Int), .int .i64 (b : Int)] h n fun v => v = .int .i64 ((Nat.gcd a b : Nat) : Int) := by
  refine CF_flat (fn := Tryz.f167) rfl rfl rfl rfl ?_
  simp only [NV, Nat.reduceEqDiff, reduceCtorEq]
  repeat refine zR ?_
  simp only [NV, Nat.reduceEqDiff, reduceCtorEq]
  refine EC_for (α := Nat × Nat) (fun z => [(0, .int .i64 (z.1 : Int)), (1, .int .i64 (z.2 : Int))]) (fun z h' n' w => h = h' ∧ n = n' ∧ w = [] ∧ z.2 < 9223372036854775808 ∧ Nat.gcd z.1 z.2 = Nat.gcd a b) (fun z => z.2) (a, b) ⟨rfl, rfl, trivial⟩ ⟨rfl, rfl, rfl, hb, rfl⟩ (by show b < LL; unfold LL; omega) ?_
  rintro ⟨x, y⟩ t _ _ _ ⟨rfl, rfl, rfl, hy, hg⟩
  simp only at hy hg
  simp only [NV, Nat.reduceEqDiff, reduceCtorEq]
  by_cases hy0 : y = 0
  · subst hy0
    repeat refine zR ?_
    simp only [NV, Nat.reduceEqDiff, reduceCtorEq]
    rw [EC_cond_false rfl]
    simp only [NV, Nat.reduceEqDiff, reduceCtorEq]
    repeat refine zR ?_
    simp only [NV, Nat.reduceEqDiff, reduceCtorEq]
    exact retF _ rfl (resF_tmp rfl) rfl rfl (by rw [← hg, Nat.gcd_zero_right]; rfl)
  · repeat refine zR ?_
    simp only [NV, Nat.reduceEqDiff, reduceCtorEq]
    rw [EC_cond_true rfl]
    simp only [NV, Nat.reduceEqDiff, reduceCtorEq]
    rw [EC_quietC rfl]
    refine zM ?_
    refine zM ?_
    refine zM ?_
    refine st_rem (a := (x : Int)) (b := (y : Int)) rfl rfl rfl rfl rfl rfl (by omega) ?_
    rw [show (x : Int).tmod (y : Int) = ((x % y : Nat) : Int) from rfl]
    repeat refine zR ?_
    simp only [NV, Nat.reduceEqDiff, reduceCtorEq]
    exact goOn (y, x % y) (Nat.mod_lt _ (by omega)) ⟨rfl, rfl, trivial⟩ ⟨rfl, rfl, rfl, Nat.lt_trans (Nat.mod_lt _ (by omega)) hy, by show Nat.gcd y (x % y) = _; rw [← hg, Nat.gcd_comm x y, Nat.gcd_rec y x, Nat.gcd_comm]⟩
def ShR (s : List UInt8) (v : Value) : Prop := ∃ (x y : Int) (ok : Bool), v = .tuple #[.agg #[.int .i64 x, .int .i64 y], .bool ok] ∧ (ok = true → ∃ q : Rat, ratT q = s ∧ x = q.num ∧ y = (q.den : Int) ∧ q.num.natAbs < 1000000000 ∧ q.den < 1000000000)
theorem dval_nine {s : List UInt8} (h : AllD s) (hl : s.length ≤ 9) : dval s < 1000000000 := Nat.lt_of_lt_of_le (dval_lt h) (Nat.le_trans (pow10_mono hl) (by decide))
set_option maxHeartbeats 4000000
theorem readShort_ok (k : Nat) (h : HF) (n : Nat) (s : List UInt8) (hs : s.length < 1000000) : VX (cal (k + 5)) 128 [.string ⟨⟨s⟩⟩] h n (ShR s) := by
  refine CF_heap (fn := Tryz.f128) rfl rfl rfl rfl ?_
  simp only [NV, Nat.reduceEqDiff, reduceCtorEq]
  refine st_alloc rfl rfl rfl rfl rfl ?_
  repeat refine zR ?_
  simp only [NV, Nat.reduceEqDiff, reduceCtorEq]
  generalize hh : upd h (3 * n + 2) _ = h1
  have hr2 : ∃ e, h1 (3 * n + 2) = some (.row [.int .i64 0, .int .i64 0] e) := ⟨_, by rw [← hh, upd_same]; rfl⟩
  obtain ⟨e2, hr2⟩ := hr2
  have hx : Ext n h h1 := fun b hb => by rw [← hh, upd_ne (by omega)]
  clear hh
  refine zM ?_
  refine st_I (ik := .i64) (a := (s.length : Int)) rfl rfl rfl rfl rfl ?_
  by_cases hl20 : 20 < s.length
  · repeat refine zR ?_
    simp only [NV, Nat.reduceEqDiff, reduceCtorEq]
    rw [EC_cond_true rfl]
    simp only [NV, Nat.reduceEqDiff, reduceCtorEq]
    refine st_val (v := .agg #[.int .i64 0, .int .i64 0]) rfl rfl rfl rfl rfl ?_
    refine st_storeW [.int .i64 0, .int .i64 0] rfl rfl rfl rfl rfl rfl rfl rfl hr2 rfl (by show 3 * n ≤ 3 * n + 2; omega) ?_
    repeat refine zR ?_
    simp only [NV, Nat.reduceEqDiff, reduceCtorEq]
    exact retCellX (.bool false) rfl rfl rfl rfl rfl rfl (upd_same _ _ _) rfl (by omega) (fun b hb => (upd_ne (by omega)).trans (hx b hb)) ⟨_, _, false, rfl, fun h => by cases h⟩
  repeat refine zR ?_
  simp only [NV, Nat.reduceEqDiff, reduceCtorEq]
  rw [EC_cond_false rfl]
  simp only [NV, Nat.reduceEqDiff, reduceCtorEq]
  refine zM ?_
  refine st_call _ rfl rfl rfl rfl rfl (split_ok k h1 (n + 1) s hs) ?_
  rintro _ h1s n2 _ ⟨rfl, hn2, hx1s, rfl⟩
  replace hr2 := (hx1s (3 * n + 2) (by omega)).trans hr2
  replace hx : Ext n h h1s := fun b hb => (hx1s b (by omega)).trans (hx b hb)
  have hfrm : (spl s).2.2 = true → Frm s (spl s).1 (spl s).2.1 := fun e => spl_frm (by rw [← e])
  generalize (spl s).1 = M at hfrm ⊢
  generalize (spl s).2.1 = D at hfrm ⊢
  generalize (spl s).2.2 = ok at hfrm ⊢
  generalize hmi : hasMinus s = mi
  repeat refine zR ?_
  refine st_alloc rfl rfl rfl rfl rfl ?_
  refine st_storeW [.bool mi, .string ⟨⟨M⟩⟩, .string ⟨⟨D⟩⟩] rfl rfl rfl rfl rfl rfl rfl rfl (upd_same _ _ _) rfl (by show 3 * n ≤ 3 * n2 + 2; omega) ?_
  rw [upd_upd]
  generalize hh : upd h1s (3 * n2 + 2) _ = h2
  replace hr2 : h2 (3 * n + 2) = some (.row [.int .i64 0, .int .i64 0] e2) := by rw [← hh, upd_ne (by omega)]; exact hr2
  have hr4 : ∃ e, h2 (3 * n2 + 2) = some (.row [.bool mi, .string ⟨⟨M⟩⟩, .string ⟨⟨D⟩⟩] e) := ⟨_, by rw [← hh, upd_same]⟩
  obtain ⟨e4, hr4⟩ := hr4
  replace hx : Ext n h h2 := fun b hb => by rw [← hh, upd_ne (by omega), hx b hb]
  clear hh
  repeat refine zR ?_
  simp only [EC_skip, EO_nil, after_normal, EC_seq]
  refine EC_cutx (α := Bool) (fun z => [(2, .pointer (some ⟨3 * n + 2, 0, none⟩)), (4, .pointer (some ⟨3 * n2 + 2, 0, none⟩)), (29, .bool z)]) (fun z h' n' w => h2 = h' ∧ n' = n2 + 1 ∧ w = [] ∧ (z = false → ok = true ∧ M.length ≤ 9 ∧ D.length ≤ 9)) ?_ ?_
  · simp only [NV, Nat.reduceEqDiff, reduceCtorEq]
    cases ok with
    | false =>
      repeat refine zR ?_
      simp only [NV, Nat.reduceEqDiff, reduceCtorEq]
      exact cutx_mk true ⟨rfl, rfl, rfl, trivial⟩ ⟨rfl, rfl, rfl, fun h => by cases h⟩
    | true =>
    repeat refine zR ?_
    refine st_load1 rfl rfl rfl rfl rfl rfl hr4 rfl (v := .string ⟨⟨M⟩⟩) rfl ?_
    refine st_I (ik := .i64) (a := (M.length : Int)) rfl rfl rfl rfl rfl ?_
    by_cases hM9 : 9 < M.length
    · repeat refine zR ?_
      simp only [NV, Nat.reduceEqDiff, reduceCtorEq]
      exact cutx_mk true ⟨rfl, rfl, rfl, trivial⟩ ⟨rfl, rfl, rfl, fun h => by cases h⟩
    repeat refine zR ?_
    refine st_load1 rfl rfl rfl rfl rfl rfl hr4 rfl (v := .string ⟨⟨D⟩⟩) rfl ?_
    refine st_I (ik := .i64) (a := (D.length : Int)) rfl rfl rfl rfl rfl ?_
    by_cases hD9 : 9 < D.length
    · repeat refine zR ?_
      simp only [NV, Nat.reduceEqDiff, reduceCtorEq]
      exact cutx_mk true ⟨rfl, rfl, rfl, trivial⟩ ⟨rfl, rfl, rfl, fun h => by cases h⟩
    repeat refine zR ?_
    simp only [NV, Nat.reduceEqDiff, reduceCtorEq]
    exact cutx_mk false ⟨rfl, rfl, rfl, trivial⟩ ⟨rfl, rfl, rfl, fun _ => ⟨by first | rfl | trivial, by omega, by omega⟩⟩
  rintro z t _ _ _ ⟨rfl, rfl, rfl, hz⟩
  cases z with
  | true =>
    rw [EC_cond_true rfl]
    simp only [NV, Nat.reduceEqDiff, reduceCtorEq]
    refine st_val (v := .agg #[.int .i64 0, .int .i64 0]) rfl rfl rfl rfl rfl ?_
    refine st_storeW [.int .i64 0, .int .i64 0] rfl rfl rfl rfl rfl rfl rfl rfl hr2 rfl (by show 3 * n ≤ 3 * n + 2; omega) ?_
    repeat refine zR ?_
    simp only [NV, Nat.reduceEqDiff, reduceCtorEq]
    exact retCellX (.bool false) rfl rfl rfl rfl rfl rfl (upd_same _ _ _) rfl (by omega) (fun b hb => (upd_ne (by omega)).trans (hx b hb)) ⟨_, _, false, rfl, fun h => by cases h⟩
  | false =>
  rw [EC_cond_false rfl]
  simp only [NV, Nat.reduceEqDiff, reduceCtorEq]
  obtain ⟨rfl, hM9, hD9⟩ := hz rfl
  have hf := hfrm rfl
  have hMv := dval_nine hf.dm hM9
  have hDv := dval_nine hf.dd hD9
  clear hz hfrm
  repeat refine zR ?_
  refine st_load1 rfl rfl rfl rfl rfl rfl hr4 rfl (v := .string ⟨⟨M⟩⟩) rfl ?_
  refine st_vf _ rfl rfl rfl rfl rfl (digVal_ok (k + 3) h2 (n2 + 1) M hf.dm hM9) ?_
  rintro _ rfl
  refine st_val (v := .agg #[.int .i64 ((dval M : Nat) : Int), .int .i64 1]) rfl rfl rfl rfl rfl ?_
  refine st_alloc rfl rfl rfl rfl rfl ?_
  refine st_storeW [.int .i64 ((dval M : Nat) : Int), .int .i64 1] rfl rfl rfl rfl rfl rfl rfl rfl (upd_same _ _ _) rfl (by show 3 * n ≤ 3 * (n2 + 1) + 2; omega) ?_
  rw [upd_upd]
  generalize hh : upd h2 (3 * (n2 + 1) + 2) _ = h3
  replace hr2 : h3 (3 * n + 2) = some (.row [.int .i64 0, .int .i64 0] e2) := by rw [← hh, upd_ne (by omega)]; exact hr2
  replace hr4 : h3 (3 * n2 + 2) = some (.row [.bool mi, .string ⟨⟨M⟩⟩, .string ⟨⟨D⟩⟩] e4) := by rw [← hh, upd_ne (by omega)]; exact hr4
  have hr6 : ∃ e, h3 (3 * (n2 + 1) + 2) = some (.row [.int .i64 ((dval M : Nat) : Int), .int .i64 1] e) := ⟨_, by rw [← hh, upd_same]⟩
  obtain ⟨e6, hr6⟩ := hr6
  replace hx : Ext n h h3 := fun b hb => by rw [← hh, upd_ne (by omega), hx b hb]
  clear hh
  simp only [NV, Nat.reduceEqDiff, reduceCtorEq]
  repeat refine zR ?_
  refine st_load1 rfl rfl rfl rfl rfl rfl hr4 rfl (v := .string ⟨⟨D⟩⟩) rfl ?_
  refine st_strN (!(D == [])) rfl rfl rfl rfl rfl rfl rfl ?_
  simp only [EC_skip, EO_nil, after_normal, EC_seq]
  refine EC_cutx (α := Nat) (fun _ => [(2, .pointer (some ⟨3 * n + 2, 0, none⟩)), (4, .pointer (some ⟨3 * n2 + 2, 0, none⟩)), (6, .pointer (some ⟨3 * (n2 + 1) + 2, 0, none⟩))]) (fun z h' n' w => w = [] ∧ n' = n2 + 1 + 1 ∧ Ext n h h' ∧ h' (3 * n + 2) = some (.row [.int .i64 0, .int .i64 0] e2) ∧ h' (3 * n2 + 2) = some (.row [.bool mi, .string ⟨⟨M⟩⟩, .string ⟨⟨D⟩⟩] e4) ∧ (∃ e, h' (3 * (n2 + 1) + 2) = some (.row [.int .i64 ((dval M : Nat) : Int), .int .i64 (z : Int)] e)) ∧ z = (if D = [] then 1 else dval D) ∧ (D = [] ∨ Nat.gcd (dval M) (dval D) = 1)) ?_ ?_
  · by_cases hD : D = []
    · rw [EC_cond_false (by show Value.bool _ = _; rw [hD]; rfl)]
      simp only [NV, Nat.reduceEqDiff, reduceCtorEq]
      exact cutx_mk 1 ⟨rfl, rfl, rfl, trivial⟩ ⟨rfl, rfl, hx, hr2, hr4, ⟨e6, hr6⟩, by rw [if_pos hD], .inl hD⟩
    rw [EC_cond_true (by show Value.bool _ = _; rw [show (D == []) = false from by simpa using hD]; rfl)]
    simp only [NV, Nat.reduceEqDiff, reduceCtorEq]
    repeat refine zR ?_
    refine st_load1 rfl rfl rfl rfl rfl rfl hr4 rfl (v := .string ⟨⟨D⟩⟩) rfl ?_
    refine st_vf _ rfl rfl rfl rfl rfl (digVal_ok (k + 3) h3 (n2 + 1 + 1) D hf.dd hD9) ?_
    rintro _ rfl
    repeat refine zR ?_
    refine st_storeN (cs := [.int .i64 ((dval D : Nat) : Int)]) rfl rfl rfl rfl rfl rfl rfl rfl hr6 (Nat.le_of_ble_eq_true rfl) (by show 3 * n ≤ 3 * (n2 + 1) + 2; omega) ?_
    generalize hh : upd h3 (3 * (n2 + 1) + 2) _ = h4
    replace hr2 : h4 (3 * n + 2) = some (.row [.int .i64 0, .int .i64 0] e2) := by rw [← hh, upd_ne (by omega)]; exact hr2
    replace hr4 : h4 (3 * n2 + 2) = some (.row [.bool mi, .string ⟨⟨M⟩⟩, .string ⟨⟨D⟩⟩] e4) := by rw [← hh, upd_ne (by omega)]; exact hr4
    replace hr6 : h4 (3 * (n2 + 1) + 2) = some (.row [.int .i64 ((dval M : Nat) : Int), .int .i64 ((dval D : Nat) : Int)] e6) := by rw [← hh, upd_same]; rfl
    replace hx : Ext n h h4 := fun b hb => by rw [← hh, upd_ne (by omega), hx b hb]
    clear hh
    simp only [NV, Nat.reduceEqDiff, reduceCtorEq]
    repeat refine zR ?_
    refine st_load1 rfl rfl rfl rfl rfl rfl hr6 rfl (v := .int .i64 ((dval M : Nat) : Int)) rfl ?_
    repeat refine zR ?_
    refine st_load1 rfl rfl rfl rfl rfl rfl hr6 rfl (v := .int .i64 ((dval D : Nat) : Int)) rfl ?_
    refine st_vf _ rfl rfl rfl rfl rfl (gcdI_ok (k + 3) h4 (n2 + 1 + 1) (dval M) (dval D) (by omega)) ?_
    rintro _ rfl
    by_cases hg : Nat.gcd (dval M) (dval D) = 1
    · repeat refine zR ?_
      simp only [NV, Nat.reduceEqDiff, reduceCtorEq]
      rw [EC_cond_false rfl]
      simp only [NV, Nat.reduceEqDiff, reduceCtorEq]
      exact cutx_mk (dval D) ⟨rfl, rfl, rfl, trivial⟩ ⟨rfl, rfl, hx, hr2, hr4, ⟨e6, hr6⟩, by rw [if_neg hD], .inr hg⟩
    · repeat refine zR ?_
      simp only [NV, Nat.reduceEqDiff, reduceCtorEq]
      rw [EC_cond_true rfl]
      simp only [NV, Nat.reduceEqDiff, reduceCtorEq]
      refine st_val (v := .agg #[.int .i64 0, .int .i64 0]) rfl rfl rfl rfl rfl ?_
      refine st_storeW [.int .i64 0, .int .i64 0] rfl rfl rfl rfl rfl rfl rfl rfl hr2 rfl (by show 3 * n ≤ 3 * n + 2; omega) ?_
      repeat refine zR ?_
      simp only [NV, Nat.reduceEqDiff, reduceCtorEq]
      exact retCellX (.bool false) rfl rfl rfl rfl rfl rfl (upd_same _ _ _) rfl (by omega) (fun b hb => (upd_ne (by omega)).trans (hx b hb)) ⟨_, _, false, rfl, fun h => by cases h⟩
  rintro z t h5 n5 _ ⟨rfl, rfl, hx, hr2, hr4, ⟨e6, hr6⟩, hz, hg⟩
  obtain ⟨q, hq, hq1, hq2⟩ := hf.rat hg
  rw [← hz] at hq2
  rw [hmi] at hq1
  have hz9 : z < 1000000000 := by
    rw [hz]
    split
    · decide
    · exact hDv
  simp only [NV, Nat.reduceEqDiff, reduceCtorEq]
  repeat refine zR ?_
  refine st_load1 rfl rfl rfl rfl rfl rfl hr4 rfl (v := .bool mi) rfl ?_
  simp only [NV, Nat.reduceEqDiff, reduceCtorEq]
  cases mi with
  | true =>
    rw [EC_cond_true rfl]
    simp only [NV, Nat.reduceEqDiff, reduceCtorEq]
    repeat refine zR ?_
    refine st_load1 rfl rfl rfl rfl rfl rfl hr6 rfl (v := .int .i64 ((dval M : Nat) : Int)) rfl ?_
    refine st_I (ik := .i64) (a := -((dval M : Nat) : Int)) rfl rfl rfl rfl (by show some (Value.int .i64 (IntKind.wrap .i64 _)) = _; rw [wrap_i64 (by omega), Int.zero_sub]) ?_
    repeat refine zR ?_
    refine st_storeN (cs := [.int .i64 (-((dval M : Nat) : Int))]) rfl rfl rfl rfl rfl rfl rfl rfl hr6 (Nat.le_of_ble_eq_true rfl) (by show 3 * n ≤ 3 * (n2 + 1) + 2; omega) ?_
    generalize hh : upd h5 (3 * (n2 + 1) + 2) _ = h6
    replace hr2 : h6 (3 * n + 2) = some (.row [.int .i64 0, .int .i64 0] e2) := by rw [← hh, upd_ne (by omega)]; exact hr2
    replace hr6 : h6 (3 * (n2 + 1) + 2) = some (.row [.int .i64 (-((dval M : Nat) : Int)), .int .i64 (z : Int)] e6) := by rw [← hh, upd_same]; rfl
    replace hx : Ext n h h6 := fun b hb => by rw [← hh, upd_ne (by omega), hx b hb]
    clear hh
    simp only [NV, Nat.reduceEqDiff, reduceCtorEq]
    refine st_load (v := .agg #[.int .i64 (-((dval M : Nat) : Int)), .int .i64 (z : Int)]) rfl rfl rfl rfl rfl (loadn_eq rfl rfl hr6 rfl (Nat.le_of_ble_eq_true rfl) rfl) ?_
    refine st_storeW [.int .i64 (-((dval M : Nat) : Int)), .int .i64 (z : Int)] rfl rfl rfl rfl rfl rfl rfl rfl hr2 rfl (by show 3 * n ≤ 3 * n + 2; omega) ?_
    repeat refine zR ?_
    simp only [NV, Nat.reduceEqDiff, reduceCtorEq]
    refine retCellX (.bool true) rfl rfl rfl rfl rfl rfl (upd_same _ _ _) rfl (by omega) (fun b hb => (upd_ne (by omega)).trans (hx b hb)) ⟨_, _, true, rfl, fun _ => ⟨q, hq, ?_, by rw [hq2], ?_, by rw [hq2]; exact hz9⟩⟩
    · rw [hq1]; rfl
    · rw [hq1]; simp only [if_true]; omega
  | false =>
    rw [EC_cond_false rfl]
    simp only [NV, Nat.reduceEqDiff, reduceCtorEq]
    refine st_load (v := .agg #[.int .i64 ((dval M : Nat) : Int), .int .i64 (z : Int)]) rfl rfl rfl rfl rfl (loadn_eq rfl rfl hr6 rfl (Nat.le_of_ble_eq_true rfl) rfl) ?_
    refine st_storeW [.int .i64 ((dval M : Nat) : Int), .int .i64 (z : Int)] rfl rfl rfl rfl rfl rfl rfl rfl hr2 rfl (by show 3 * n ≤ 3 * n + 2; omega) ?_
    repeat refine zR ?_
    simp only [NV, Nat.reduceEqDiff, reduceCtorEq]
    refine retCellX (.bool true) rfl rfl rfl rfl rfl rfl (upd_same _ _ _) rfl (by omega) (fun b hb => (upd_ne (by omega)).trans (hx b hb)) ⟨_, _, true, rfl, fun _ => ⟨q, hq, ?_, by rw [hq2], ?_, by rw [hq2]; exact hz9⟩⟩
    · rw [hq1]; rfl
    · rw [hq1]; simp only [Bool.false_eq_true, if_false]; omega
end Go.Proofs.YtokfihhdllmbmaaGreatDoor
namespace Go.Proofs.YtokfihhdllmbmaaGreatDoor
open Go Go.GL
def u64s (l : List Nat) : List Value := l.map fun d : Nat => Value.int .u64 (d : Int)
theorem u64s_len (l : List Nat) : (u64s l).length = l.length := by simp [u64s]
theorem u64s_append (a b : List Nat) : u64s (a ++ b) = u64s a ++ u64s b := by simp [u64s]
theorem u64s_set (l : List Nat) (j d : Nat) : (u64s l).set j (.int .u64 (d : Int)) = u64s (l.set j d) := by
  unfold u64s
  rw [List.map_set]
theorem u64s_get {l : List Nat} {j d : Nat} (h : l[j]? = some d) : (u64s l)[j]? = some (.int .u64 (d : Int)) := by
  rw [u64s, List.getElem?_map, h]; rfl
theorem ones_u64s (l : List Nat) : ones (u64s l) = true := by
  induction l with
  | nil => rfl
  | cons d l ih => exact ih
def WdD (l : List Nat) : Prop := ∀ d ∈ l, d < 18446744073709551616
def wv (l : List Nat) : Nat := dv 18446744073709551616 l
theorem WdD.snoc {D : List Nat} {d : Nat} (h : WdD D) (hd : d < 18446744073709551616) : WdD (D ++ [d]) := fun x hx => by
  rcases List.mem_append.1 hx with hx | hx
  · exact h x hx
  · simp at hx; omega
theorem WdD.get {l : List Nat} {j d : Nat} (h : WdD l) (hg : l[j]? = some d) : d < 18446744073709551616 := h d (List.mem_of_getElem? hg)
theorem WdD.nil : WdD [] := fun d hd => absurd hd List.not_mem_nil
theorem WdD.take {l : List Nat} (h : WdD l) (m : Nat) : WdD (l.take m) := fun d hd => h d (List.mem_of_mem_take hd)
theorem WdD.drop {l : List Nat} (h : WdD l) (m : Nat) : WdD (l.drop m) := fun d hd => h d (List.mem_of_mem_drop hd)
theorem WdD.append {a b : List Nat} (ha : WdD a) (hb : WdD b) : WdD (a ++ b) := fun x hx => by
  rcases List.mem_append.1 hx with hx | hx
  · exact ha x hx
  · exact hb x hx
theorem WdD.set {l : List Nat} {j d : Nat} (h : WdD l) (hd : d < 18446744073709551616) : WdD (l.set j d) := fun x hx => by
  rcases List.mem_or_eq_of_mem_set hx with hx | rfl
  · exact h x hx
  · exact hd
theorem trimL_wdd : ∀ l, WdD l → WdD (trimL l) :=
  trimL_induct (fun l ih h => by rw [trimL_zero]; exact ih fun d hd => h d (by simp [hd])) (fun l d hd h => by rw [trimL_pos l hd]; exact h) (fun h => h)
def NW (l : List Nat) : Prop := WdD l ∧ trimL l = l
theorem NW.trim {l : List Nat} (h : WdD l) : NW (trimL l) := ⟨trimL_wdd l h, trimL_idem l⟩
theorem NW.nil : NW [] := ⟨WdD.nil, rfl⟩
theorem NW.last {l : List Nat} {d : Nat} (h : NW (l ++ [d])) : d ≠ 0 := fun e => by
  have h2 := h.2
  subst e
  rw [trimL_zero] at h2
  have := trimL_len l
  rw [h2] at this
  simp at this
  omega
theorem NW.one {d : Nat} (h0 : d ≠ 0) (h : d < 18446744073709551616) : NW [d] := ⟨WdD.snoc WdD.nil h, trimL_pos [] h0⟩
theorem wv_lt {l : List Nat} (h : WdD l) : wv l < 18446744073709551616 ^ l.length := dv_lt h
theorem NW.low {l : List Nat} {d : Nat} (h : NW (l ++ [d])) : 18446744073709551616 ^ l.length ≤ wv (l ++ [d]) := dv_low h.last
theorem NW.pos {l : List Nat} (h : NW l) (hl : l ≠ []) : 0 < wv l := by
  obtain ⟨i, d, rfl⟩ := Go.Proofs.YtokfihhdllmbmaaGreatDoor.snoc hl
  have := h.low
  have : 0 < 18446744073709551616 ^ i.length := Nat.pow_pos (by omega)
  omega
theorem NW.zero {l : List Nat} (h : NW l) : wv l = 0 ↔ l = [] :=
  ⟨fun h0 => Classical.byContradiction fun hn => by have := h.pos hn; omega, fun e => by rw [e]; rfl⟩
theorem NW.len_lt {A C : List Nat} (hA : NW A) (hC : NW C) (h : A.length < C.length) : wv A < wv C := by
  obtain ⟨i, d, rfl⟩ := Go.Proofs.YtokfihhdllmbmaaGreatDoor.snoc (l := C) (by intro e; rw [e] at h; simp at h)
  have h1 := wv_lt hA.1
  have h2 := hC.low
  have h3 : 18446744073709551616 ^ A.length ≤ 18446744073709551616 ^ i.length := Nat.pow_le_pow_right (by omega) (by simp at h; omega)
  omega
theorem NW.len_le {A : List Nat} {k : Nat} (hA : NW A) (h : wv A < 18446744073709551616 ^ k) : A.length ≤ k := by
  apply Classical.byContradiction
  intro hn
  obtain ⟨i, d, rfl⟩ := Go.Proofs.YtokfihhdllmbmaaGreatDoor.snoc (l := A) (by intro e; rw [e] at hn; simp at hn)
  have h2 := hA.low
  have h3 : 18446744073709551616 ^ k ≤ 18446744073709551616 ^ i.length := Nat.pow_le_pow_right (by omega) (by simp at hn; omega)
  omega
theorem dv_inj {B : Nat} : ∀ {A C : List Nat}, A.length = C.length → (∀ d ∈ A, d < B) → (∀ d ∈ C, d < B) → dv B A = dv B C → A = C := by
  intro A
  induction A with
  | nil => intro C hl _ _ _; exact (List.length_eq_zero_iff.1 hl.symm).symm
  | cons a A ih =>
    intro C hl hA hC h
    cases C with
    | nil => simp at hl
    | cons c C =>
      have ha := hA a (by simp)
      have hc := hC c (by simp)
      simp only [dv] at h
      have h1 : a = c := by
        have := congrArg (· % B) h
        simp only [Nat.add_mul_mod_self_left, Nat.mod_eq_of_lt ha, Nat.mod_eq_of_lt hc] at this
        exact this
      subst h1
      have h2 : dv B A = dv B C := Nat.eq_of_mul_eq_mul_left (by omega) (Nat.add_left_cancel h)
      rw [ih (by simpa using hl) (fun d hd => hA d (by simp [hd])) (fun d hd => hC d (by simp [hd])) h2]
theorem NW.inj {A C : List Nat} (hA : NW A) (hC : NW C) (h : wv A = wv C) : A = C := by
  rcases Nat.lt_trichotomy A.length C.length with hl | hl | hl
  · have := hA.len_lt hC hl; omega
  · exact dv_inj hl hA.1 hC.1 h
  · have := hC.len_lt hA hl; omega
theorem Sl.lenW {h : HF} {n : Nat} {a : Option Addr} {len cap : Nat} {l : List Nat} (hv : Sl h n 1 (.slice a len cap) (u64s l)) : len = l.length := by
  obtain ⟨a', len', cap', e, hl⟩ := hv.len
  rw [u64s_len] at hl
  injection e with e1 e2 e3
  omega
set_option maxHeartbeats 1000000
end Go.Proofs.YtokfihhdllmbmaaGreatDoor
namespace Go.Proofs.YtokfihhdllmbmaaGreatDoor
open Go Go.GL
def cmpI (a b : Int) : Int := if a < b then -1 else if b < a then 1 else 0
theorem cmpI_nat (a b : Nat) : cmpI (a : Int) (b : Int) = cmpZ a b := by
  unfold cmpI cmpZ
  rcases Nat.lt_trichotomy a b with h | h | h
  · rw [if_pos (by omega), if_pos h]
  · rw [if_neg (by omega), if_neg (by omega), if_neg (by omega), if_pos h]
  · rw [if_neg (by omega), if_pos (by omega), if_neg (by omega), if_neg (by omega)]
set_option maxHeartbeats 1000000
theorem isNaN_int (k : Nat) (h : HF) (n : Nat) (a : Int) : VF (cal (k + 1)) 262 [.int .i64 a] h n fun v => v = .bool false := by
  refine CF_flat (fn := Tryz.f262) rfl rfl rfl rfl ?_
  simp only [NV, Nat.reduceEqDiff, reduceCtorEq]
  repeat refine zR ?_
  simp only [NV, Nat.reduceEqDiff, reduceCtorEq]
  repeat refine zR ?_
  simp only [NV, Nat.reduceEqDiff, reduceCtorEq]
  exact retF _ rfl (resF_tmp rfl) rfl rfl rfl
theorem cmp_int (k : Nat) (h : HF) (n : Nat) (a b : Int) : VF (cal (k + 2)) 236 [.int .i64 a, .int .i64 b] h n fun v => v = .int .i64 (cmpI a b) := by
  refine CF_flat (fn := Tryz.f236) rfl rfl rfl rfl ?_
  simp only [NV, Nat.reduceEqDiff, reduceCtorEq]
  repeat refine zR ?_
  simp only [NV, Nat.reduceEqDiff, reduceCtorEq]
  repeat refine zR ?_
  refine st_vf _ rfl rfl rfl rfl rfl (isNaN_int k h n a) ?_
  rintro _ rfl
  repeat refine zR ?_
  simp only [NV, Nat.reduceEqDiff, reduceCtorEq]
  repeat refine zR ?_
  refine st_vf _ rfl rfl rfl rfl rfl (isNaN_int k h n b) ?_
  rintro _ rfl
  repeat refine zR ?_
  simp only [NV, Nat.reduceEqDiff, reduceCtorEq]
  repeat refine zR ?_
  simp only [NV, Nat.reduceEqDiff, reduceCtorEq]
  rw [EC_cond_false rfl]
  simp only [NV, Nat.reduceEqDiff, reduceCtorEq]
  repeat refine zR ?_
  simp only [NV, Nat.reduceEqDiff, reduceCtorEq]
  rw [EC_cond_false rfl]
  simp only [NV, Nat.reduceEqDiff, reduceCtorEq]
  rcases Int.lt_trichotomy a b with hlt | heq | hgt
  · repeat refine zR ?_
    simp only [NV, Nat.reduceEqDiff, reduceCtorEq]
    rw [EC_cond_true rfl]
    simp only [NV, Nat.reduceEqDiff, reduceCtorEq]
    repeat refine zR ?_
    simp only [NV, Nat.reduceEqDiff, reduceCtorEq]
    exact retF _ rfl (resF_tmp rfl) rfl rfl (by rw [cmpI, if_pos hlt]; rfl)
  · repeat refine zR ?_
    simp only [NV, Nat.reduceEqDiff, reduceCtorEq]
    rw [EC_cond_false rfl]
    simp only [NV, Nat.reduceEqDiff, reduceCtorEq]
    repeat refine zR ?_
    simp only [NV, Nat.reduceEqDiff, reduceCtorEq]
    rw [EC_cond_false rfl]
    simp only [NV, Nat.reduceEqDiff, reduceCtorEq]
    repeat refine zR ?_
    simp only [NV, Nat.reduceEqDiff, reduceCtorEq]
    exact retF _ rfl (resF_tmp rfl) rfl rfl (by rw [cmpI, if_neg (by omega), if_neg (by omega)]; rfl)
  · repeat refine zR ?_
    simp only [NV, Nat.reduceEqDiff, reduceCtorEq]
    rw [EC_cond_false rfl]
    simp only [NV, Nat.reduceEqDiff, reduceCtorEq]
    repeat refine zR ?_
    simp only [NV, Nat.reduceEqDiff, reduceCtorEq]
    rw [EC_cond_true rfl]
    simp only [NV, Nat.reduceEqDiff, reduceCtorEq]
    repeat refine zR ?_
    simp only [NV, Nat.reduceEqDiff, reduceCtorEq]
    exact retF _ rfl (resF_tmp rfl) rfl rfl (by rw [cmpI, if_neg (by omega), if_pos hgt]; rfl)
theorem isNaN_uint64 (k : Nat) (h : HF) (n : Nat) (a : Int) : VF (cal (k + 1)) 263 [.int .u64 a] h n fun v => v = .bool false := by
  refine CF_flat (fn := Tryz.f263) rfl rfl rfl rfl ?_
  simp only [NV, Nat.reduceEqDiff, reduceCtorEq]
  repeat refine zR ?_
  simp only [NV, Nat.reduceEqDiff, reduceCtorEq]
  repeat refine zR ?_
  simp only [NV, Nat.reduceEqDiff, reduceCtorEq]
  exact retF _ rfl (resF_tmp rfl) rfl rfl rfl
theorem cmp_uint64 (k : Nat) (h : HF) (n : Nat) (a b : Int) : VF (cal (k + 2)) 237 [.int .u64 a, .int .u64 b] h n fun v => v = .int .i64 (cmpI a b) := by
  refine CF_flat (fn := Tryz.f237) rfl rfl rfl rfl ?_
  simp only [NV, Nat.reduceEqDiff, reduceCtorEq]
  repeat refine zR ?_
  simp only [NV, Nat.reduceEqDiff, reduceCtorEq]
  repeat refine zR ?_
  refine st_vf _ rfl rfl rfl rfl rfl (isNaN_uint64 k h n a) ?_
  rintro _ rfl
  repeat refine zR ?_
  simp only [NV, Nat.reduceEqDiff, reduceCtorEq]
  repeat refine zR ?_
  refine st_vf _ rfl rfl rfl rfl rfl (isNaN_uint64 k h n b) ?_
  rintro _ rfl
  repeat refine zR ?_
  simp only [NV, Nat.reduceEqDiff, reduceCtorEq]
  repeat refine zR ?_
  simp only [NV, Nat.reduceEqDiff, reduceCtorEq]
  rw [EC_cond_false rfl]
  simp only [NV, Nat.reduceEqDiff, reduceCtorEq]
  repeat refine zR ?_
  simp only [NV, Nat.reduceEqDiff, reduceCtorEq]
  rw [EC_cond_false rfl]
  simp only [NV, Nat.reduceEqDiff, reduceCtorEq]
  rcases Int.lt_trichotomy a b with hlt | heq | hgt
  · repeat refine zR ?_
    simp only [NV, Nat.reduceEqDiff, reduceCtorEq]
    rw [EC_cond_true rfl]
    simp only [NV, Nat.reduceEqDiff, reduceCtorEq]
    repeat refine zR ?_
    simp only [NV, Nat.reduceEqDiff, reduceCtorEq]
    exact retF _ rfl (resF_tmp rfl) rfl rfl (by rw [cmpI, if_pos hlt]; rfl)
  · repeat refine zR ?_
    simp only [NV, Nat.reduceEqDiff, reduceCtorEq]
    rw [EC_cond_false rfl]
    simp only [NV, Nat.reduceEqDiff, reduceCtorEq]
    repeat refine zR ?_
    simp only [NV, Nat.reduceEqDiff, reduceCtorEq]
    rw [EC_cond_false rfl]
    simp only [NV, Nat.reduceEqDiff, reduceCtorEq]
    repeat refine zR ?_
    simp only [NV, Nat.reduceEqDiff, reduceCtorEq]
    exact retF _ rfl (resF_tmp rfl) rfl rfl (by rw [cmpI, if_neg (by omega), if_neg (by omega)]; rfl)
  · repeat refine zR ?_
    simp only [NV, Nat.reduceEqDiff, reduceCtorEq]
    rw [EC_cond_false rfl]
    simp only [NV, Nat.reduceEqDiff, reduceCtorEq]
    repeat refine zR ?_
    simp only [NV, Nat.reduceEqDiff, reduceCtorEq]
    rw [EC_cond_true rfl]
    simp only [NV, Nat.reduceEqDiff, reduceCtorEq]
    repeat refine zR ?_
    simp only [NV, Nat.reduceEqDiff, reduceCtorEq]
    exact retF _ rfl (resF_tmp rfl) rfl rfl (by rw [cmpI, if_neg (by omega), if_pos hgt]; rfl)
theorem cmpWords_ok (k : Nat) {h : HF} {n : Nat} {a1 a2 : Option Addr} {l1 c1 l2 c2 : Nat} {A C : List Nat} (hA : Sl h n 1 (.slice a1 l1 c1) (u64s A)) (hC : Sl h n 1 (.slice a2 l2 c2) (u64s C)) (nA : NW A) (nC : NW C) (hb : A.length < 1000000000000) :
    VF (cal (k + 3)) 203 [.slice a1 l1 c1, .slice a2 l2 c2] h n fun v => v = .int .i64 (cmpZ (wv A) (wv C)) := by
  refine CF_flat (fn := Tryz.f203) rfl rfl rfl rfl ?_
  have e1 := hA.lenW
  have e2 := hC.lenW
  subst e1 e2
  simp only [NV, Nat.reduceEqDiff, reduceCtorEq]
  repeat refine zR ?_
  simp only [NV, Nat.reduceEqDiff, reduceCtorEq]
  by_cases hlen : A.length = C.length
  · repeat refine zR ?_
    simp only [NV, Nat.reduceEqDiff, reduceCtorEq]
    rw [EC_cond_false rfl]
    simp only [NV, Nat.reduceEqDiff, reduceCtorEq]
    repeat refine zR ?_
    simp only [NV, Nat.reduceEqDiff, reduceCtorEq]
    refine EC_for (α := Nat) (fun j => [(0, .slice a1 A.length c1), (1, .slice a2 C.length c2), (5, .int .i64 ((j : Int) - 1))]) (fun j h' n' w => h = h' ∧ n = n' ∧ w = [] ∧ j ≤ A.length ∧ A.drop j = C.drop j) (fun j => j) A.length ⟨rfl, rfl, rfl, trivial⟩ ⟨rfl, rfl, rfl, Nat.le_refl _, by rw [List.drop_length, hlen, List.drop_length]⟩ (by show A.length < LL; unfold LL; omega) ?_
    rintro j t _ _ _ ⟨rfl, rfl, rfl, hj, hd⟩
    simp only [NV, Nat.reduceEqDiff, reduceCtorEq]
    cases j with
    | zero =>
      repeat refine zR ?_
      simp only [NV, Nat.reduceEqDiff, reduceCtorEq]
      rw [EC_cond_false rfl]
      simp only [NV, Nat.reduceEqDiff, reduceCtorEq]
      repeat refine zR ?_
      simp only [NV, Nat.reduceEqDiff, reduceCtorEq]
      rw [List.drop_zero, List.drop_zero] at hd
      subst hd
      exact retF _ rfl (resF_tmp rfl) rfl rfl (by rw [cmpZ_eq]; rfl)
    | succ j =>
      obtain ⟨x, hx⟩ : ∃ x, A[j]? = some x := ⟨A[j]'(by omega), List.getElem?_eq_getElem (by omega)⟩
      obtain ⟨y, hy⟩ : ∃ x, C[j]? = some x := ⟨C[j]'(by omega), List.getElem?_eq_getElem (by omega)⟩
      repeat refine zR ?_
      simp only [NV, Nat.reduceEqDiff, reduceCtorEq]
      rw [EC_cond_true rfl]
      simp only [NV, Nat.reduceEqDiff, reduceCtorEq]
      rw [EC_quiet rfl]
      repeat refine zR ?_
      refine st_at (f := fun d : Nat => Value.int .u64 (d : Int)) (j := j) rfl rfl rfl rfl rfl rfl rfl hA rfl (by omega) hx (fun _ => rfl) rfl rfl rfl rfl fun _ => ?_
      repeat refine zR ?_
      refine st_at (f := fun d : Nat => Value.int .u64 (d : Int)) (j := j) rfl rfl rfl rfl rfl rfl rfl hC rfl (by omega) hy (fun _ => rfl) rfl rfl rfl rfl fun _ => ?_
      by_cases hxy : x = y
      · repeat refine zR ?_
        simp only [NV, Nat.reduceEqDiff, reduceCtorEq]
        rw [EC_cond_false rfl]
        simp only [NV, Nat.reduceEqDiff, reduceCtorEq]
        repeat refine zR ?_
        simp only [NV, Nat.reduceEqDiff, reduceCtorEq]
        refine goOn j (by omega) ⟨rfl, rfl, by show Value.int .i64 _ = Value.int .i64 _; congr 1; omega, trivial⟩ ⟨rfl, rfl, rfl, by omega, ?_⟩
        rw [drop_cons hx, drop_cons hy, hd, hxy]
      · repeat refine zR ?_
        simp only [NV, Nat.reduceEqDiff, reduceCtorEq]
        rw [EC_cond_true rfl]
        simp only [NV, Nat.reduceEqDiff, reduceCtorEq]
        refine EC_draw [0, 0, 3, 7, 0, 0, 48, 112, 255, 511] rfl ?_
        obtain ⟨b1, o1, x1, cs1, rfl, _, hxb1, hcs1, _, _, he1⟩ := hA.inv (by omega)
        obtain ⟨b2, o2, x2, cs2, rfl, _, hxb2, hcs2, _, _, he2⟩ := hC.inv (by omega)
        have g1 : cs1[o1 + j]? = some (.int .u64 (x : Int)) := cell_at he1 (u64s_get hx)
        have g2 : cs2[o2 + j]? = some (.int .u64 (y : Int)) := cell_at he2 (u64s_get hy)
        repeat refine zD ?_
        refine dr_idx rfl rfl rfl rfl rfl rfl rfl rfl (by omega) ?_
        refine dr_load rfl rfl rfl rfl rfl rfl (load1_eq rfl hxb1 hcs1 (v := .int .u64 (x : Int)) (by rw [← g1]; congr 1; omega)) rfl rfl ?_
        repeat refine zD ?_
        refine dr_idx rfl rfl rfl rfl rfl rfl rfl rfl (by omega) ?_
        refine dr_load rfl rfl rfl rfl rfl rfl (load1_eq rfl hxb2 hcs2 (v := .int .u64 (y : Int)) (by rw [← g2]; congr 1; omega)) rfl rfl ?_
        refine dr_vf _ rfl rfl rfl rfl rfl rfl rfl (cmp_uint64 k h n (x : Int) (y : Int)) ?_
        rintro _ rfl
        repeat refine zD ?_
        simp only [NV, Nat.reduceEqDiff, reduceCtorEq]
        refine retF _ rfl (resF_tmp rfl) rfl rfl ?_
        rw [cmpI_nat]
        show Value.int .i64 (cmpZ x y) = Value.int .i64 (cmpZ (wv A) (wv C))
        congr 1
        rcases Nat.lt_or_gt_of_ne hxy with hl | hl
        · rw [cmpZ_lt hl, cmpZ_lt (show wv A < wv C from dv_digit_lt nA.1 hx hy hd hl)]
        · rw [cmpZ_gt hl, cmpZ_gt (show wv C < wv A from dv_digit_lt nC.1 hy hx hd.symm hl)]
  · repeat refine zR ?_
    simp only [NV, Nat.reduceEqDiff, reduceCtorEq]
    rw [EC_cond_true rfl]
    simp only [NV, Nat.reduceEqDiff, reduceCtorEq]
    repeat refine zR ?_
    refine st_vf _ rfl rfl rfl rfl rfl (cmp_int k h n (A.length : Int) (C.length : Int)) ?_
    rintro _ rfl
    repeat refine zR ?_
    simp only [NV, Nat.reduceEqDiff, reduceCtorEq]
    refine retF _ rfl (resF_tmp rfl) rfl rfl ?_
    rw [cmpI_nat]
    show Value.int .i64 _ = Value.int .i64 _
    congr 1
    rcases Nat.lt_or_gt_of_ne hlen with hl | hl
    · rw [cmpZ_lt hl, cmpZ_lt (nA.len_lt nC hl)]
    · rw [cmpZ_gt hl, cmpZ_gt (nC.len_lt nA hl)]
def ResW (n : Nat) (h : HF) (v : Value) (h' : HF) (n' : Nat) (w : List Nat) (L : List Nat) : Prop := w = [] ∧ n ≤ n' ∧ Ext n h h' ∧ Sl h' n' 1 v (u64s L) ∧ NW L
theorem fromWord_ok (k : Nat) (h : HF) (n : Nat) {w : Nat} (hw : w < 18446744073709551616) : CF (cal (k + 1)) 209 [.int .u64 (w : Int)] h n fun v h' n' W => ∃ L, ResW n h v h' n' W L ∧ wv L = w ∧ L.length ≤ 1 ∧ Fresh n v := by
  refine CF_heap (fn := Tryz.f209) rfl rfl rfl rfl ?_
  simp only [NV, Nat.reduceEqDiff, reduceCtorEq]
  repeat refine zR ?_
  simp only [NV, Nat.reduceEqDiff, reduceCtorEq]
  by_cases h0 : w = 0
  · subst h0
    repeat refine zR ?_
    simp only [NV, Nat.reduceEqDiff, reduceCtorEq]
    rw [EC_cond_true rfl]
    simp only [NV, Nat.reduceEqDiff, reduceCtorEq]
    repeat refine zR ?_
    simp only [NV, Nat.reduceEqDiff, reduceCtorEq]
    exact retH _ rfl (resF_tmp rfl) rfl ⟨[], ⟨rfl, Nat.le_refl _, Ext.refl _ _, .nil (.inl rfl), NW.nil⟩, rfl, by decide, trivial⟩
  · repeat refine zR ?_
    simp only [NV, Nat.reduceEqDiff, reduceCtorEq]
    rw [EC_cond_false rfl]
    simp only [NV, Nat.reduceEqDiff, reduceCtorEq]
    repeat refine zR ?_
    refine st_mks (cs := [.int .u64 (w : Int)]) rfl rfl rfl rfl rfl ?_
    repeat refine zR ?_
    simp only [NV, Nat.reduceEqDiff, reduceCtorEq]
    exact retH _ rfl (resF_tmp rfl) rfl ⟨[w], ⟨rfl, Nat.le_succ _, Ext.upd (by omega), .at_ (by show 3 * n + 2 < 3 * (n + 1); omega) (upd_same _ _ _) rfl (Nat.le_refl _) (Nat.le_refl _) rfl, NW.one h0 hw⟩, by simp [wv, dv], Nat.le_refl _, by show 3 * n ≤ 3 * n + 2; omega⟩
end Go.Proofs.YtokfihhdllmbmaaGreatDoor
namespace Go.Proofs.YtokfihhdllmbmaaGreatDoor
theorem gcd_odd_pow {x : Nat} (hx : x % 2 = 1) (t y : Nat) : Nat.gcd x (2 ^ t * y) = Nat.gcd x y := by
  have hc : Nat.Coprime x (2 ^ t) := by
    apply Nat.Coprime.pow_right
    unfold Nat.Coprime
    rw [Nat.gcd_comm, Nat.gcd_rec, hx]
    rfl
  exact Nat.Coprime.gcd_mul_left_cancel_right y hc.symm
theorem gcd_min_sub (x y : Nat) : Nat.gcd (min x y) (max x y - min x y) = Nat.gcd x y := by
  rcases Nat.le_total x y with h | h
  · rw [Nat.min_eq_left h, Nat.max_eq_right h, Nat.gcd_sub_self_right h]
  · rw [Nat.min_eq_right h, Nat.max_eq_left h, Nat.gcd_sub_self_right h, Nat.gcd_comm]
def Tz (x t : Nat) : Prop := ∃ o, x = 2 ^ t * o ∧ o % 2 = 1
theorem Tz.or {x y t : Nat} (h : Tz (x ||| y) t) : ∃ a b, x = 2 ^ t * a ∧ y = 2 ^ t * b ∧ (a % 2 = 1 ∨ b % 2 = 1) := by
  obtain ⟨o, e, ho⟩ := h
  have h1 : (x ||| y) % 2 ^ t = 0 := by rw [e]; exact Nat.mul_mod_right _ _
  rw [Nat.or_mod_two_pow] at h1
  obtain ⟨hx, hy⟩ : x % 2 ^ t = 0 ∧ y % 2 ^ t = 0 := Nat.or_eq_zero_iff.1 h1
  obtain ⟨a, rfl⟩ := Nat.dvd_of_mod_eq_zero hx
  obtain ⟨b, rfl⟩ := Nat.dvd_of_mod_eq_zero hy
  refine ⟨a, b, rfl, rfl, ?_⟩
  apply Classical.byContradiction
  intro hn
  have ha : a % 2 = 0 := by omega
  have hb : b % 2 = 0 := by omega
  have h2 : (2 ^ t * a ||| 2 ^ t * b) % 2 ^ (t + 1) = 0 := by
    rw [Nat.or_mod_two_pow, Nat.pow_succ, Nat.mul_mod_mul_left, Nat.mul_mod_mul_left, ha, hb, Nat.mul_zero]
    rfl
  rw [e, Nat.pow_succ, Nat.mul_mod_mul_left, ho] at h2
  have : 0 < 2 ^ t := Nat.pow_pos (by omega)
  omega
theorem gcd_shift {x y s t o : Nat} (hs : Tz (x ||| y) s) (hx : x = 2 ^ t * o) (ho : o % 2 = 1) : 2 ^ s * Nat.gcd o y = Nat.gcd x y := by
  obtain ⟨a, b, ea, eb, hab⟩ := hs.or
  have hst : s ≤ t := by
    apply Classical.byContradiction
    intro hn
    have : 2 ^ s = 2 ^ t * (2 * 2 ^ (s - t - 1)) := by
      rw [← Nat.mul_assoc, ← Nat.pow_succ, ← Nat.pow_add]
      congr 1; omega
    rw [hx, this, Nat.mul_assoc] at ea
    have := Nat.eq_of_mul_eq_mul_left (Nat.pow_pos (by omega)) ea
    rw [this, Nat.mul_assoc, Nat.mul_mod_right] at ho
    omega
  have ea' : a = 2 ^ (t - s) * o := by
    have : 2 ^ t = 2 ^ s * 2 ^ (t - s) := by rw [← Nat.pow_add]; congr 1; omega
    rw [hx, this, Nat.mul_assoc] at ea
    exact (Nat.eq_of_mul_eq_mul_left (Nat.pow_pos (by omega)) ea).symm
  rw [ea, eb, Nat.gcd_mul_left, gcd_odd_pow ho, ea']
  congr 1
  rcases hab with ha | hb
  · have : t - s = 0 := by
      apply Classical.byContradiction
      intro hn
      obtain ⟨m, hm⟩ : ∃ m, t - s = m + 1 := ⟨t - s - 1, by omega⟩
      rw [ea', hm, Nat.pow_succ, Nat.mul_assoc, Nat.mul_left_comm, Nat.mul_mod_right] at ha
      omega
    rw [this, Nat.pow_zero, Nat.one_mul]
  · rw [Nat.gcd_comm, ← gcd_odd_pow hb (t - s) o, Nat.gcd_comm]
theorem gcd_round {x y t z : Nat} (hx : x % 2 = 1) (hz : y = 2 ^ t * z) (ho : z % 2 = 1) : min x z % 2 = 1 ∧ Nat.gcd (min x z) (max x z - min x z) = Nat.gcd x y ∧ min x z + (max x z - min x z) < x + y := by
  refine ⟨?_, ?_, ?_⟩
  · rcases Nat.le_total x z with h | h
    · rw [Nat.min_eq_left h]; exact hx
    · rw [Nat.min_eq_right h]; exact ho
  · rw [gcd_min_sub, hz, gcd_odd_pow hx]
  · have h1 : z ≤ y := by rw [hz]; exact Nat.le_mul_of_pos_left _ (Nat.pow_pos (by omega))
    have : min x z + (max x z - min x z) = max x z := by omega
    rw [this]
    omega
end Go.Proofs.YtokfihhdllmbmaaGreatDoor
namespace Go.Proofs.YtokfihhdllmbmaaGreatDoor
open Go Go.GL
section
variable {X : CtxF} {ops r : List Oper} {t : TF} {h : HF} {n : Nat} {w : List Nat} {Q : SV → Prop} {o : Oper} {d : Tmp}
theorem st_mask32 {ty ty' : TypeId} {x y : Operand} {a : Nat} (hw : wantsF ops t o = true) (hd : o.dst = some d) (hn : dstOk X.nt (some d) = true) (ho : o.op = .binOp .and ty x y ty') (hx : evF t x = .int .u64 (a : Int)) (hy : evF t y = .int .u64 4294967295) (hr : a < 18446744073709551616)
    (k : EO X ops r ⟨upd t d (.int .u64 ((a % 4294967296 : Nat) : Int)), h, n, w⟩ Q) : EO X ops (o :: r) ⟨t, h, n, w⟩ Q := by
  refine st_and_u64 (b := 4294967295) hw hd hn ho hx hy ⟨hr, by decide⟩ ?_
  rw [show a &&& 4294967295 = a % 4294967296 from Nat.and_two_pow_sub_one_eq_mod a 32]
  exact k
theorem st_hi32 {ty ty' : TypeId} {x y : Operand} {a : Nat} {ik : IntKind} (hw : wantsF ops t o = true) (hd : o.dst = some d) (hn : dstOk X.nt (some d) = true) (ho : o.op = .binOp .shr ty x y ty') (hx : evF t x = .int .u64 (a : Int)) (hy : evF t y = .int ik 32)
    (k : EO X ops r ⟨upd t d (.int .u64 ((a / 4294967296 : Nat) : Int)), h, n, w⟩ Q) : EO X ops (o :: r) ⟨t, h, n, w⟩ Q :=
  st_shr_u64 (s := 32) hw hd hn ho hx hy (by decide) k
theorem zW {d : Tmp} {v : Value} (k : EO X ops r ⟨upd t d v, h, n, w⟩ Q) (f : EO X ops r ⟨upd t d v, h, n, w⟩ Q → EO X ops (o :: r) ⟨t, h, n, w⟩ Q := by first | exact st_ltT rfl rfl rfl rfl rfl rfl (by omega) | exact st_ltF rfl rfl rfl rfl rfl rfl (by omega) | exact st_leT rfl rfl rfl rfl rfl rfl (by omega) | exact st_leF rfl rfl rfl rfl rfl rfl (by omega) | exact st_gtT rfl rfl rfl rfl rfl rfl (by omega) | exact st_gtF rfl rfl rfl rfl rfl rfl (by omega) | exact st_geT rfl rfl rfl rfl rfl rfl (by omega) | exact st_geF rfl rfl rfl rfl rfl rfl (by omega) | exact st_eqT rfl rfl rfl rfl rfl rfl (by omega) | exact st_eqF rfl rfl rfl rfl rfl rfl (by omega) | exact st_neqT rfl rfl rfl rfl rfl rfl (by omega) | exact st_neqF rfl rfl rfl rfl rfl rfl (by omega) | exact st_lt rfl rfl rfl rfl rfl rfl | exact st_le rfl rfl rfl rfl rfl rfl | exact st_gt rfl rfl rfl rfl rfl rfl | exact st_ge rfl rfl rfl rfl rfl rfl | exact st_eq rfl rfl rfl rfl rfl rfl | exact st_neq rfl rfl rfl rfl rfl rfl | exact st_add rfl rfl rfl rfl rfl rfl (by omega) | exact st_sub rfl rfl rfl rfl rfl rfl (by omega) | exact st_mul_u64 (a := 4294967296) rfl rfl rfl rfl rfl rfl (by omega) | exact st_mask32 rfl rfl rfl rfl rfl rfl (by omega) | exact st_hi32 rfl rfl rfl rfl rfl rfl | exact st_cv64 rfl rfl rfl rfl rfl rfl rfl (by omega) | exact st_cv32 rfl rfl rfl rfl rfl rfl rfl (by omega) | exact st_add_u64 rfl rfl rfl rfl rfl rfl (by omega) | exact st_add_u32 rfl rfl rfl rfl rfl rfl (by omega) | exact st_sub_u64 rfl rfl rfl rfl rfl rfl (by omega) | exact st_sub_u64 (b := 1) rfl rfl rfl rfl rfl rfl (by omega) | exact st_sub_u32 rfl rfl rfl rfl rfl rfl (by omega) | exact st_mul_u64 rfl rfl rfl rfl rfl rfl (by omega) | exact st_mul_u32 rfl rfl rfl rfl rfl rfl (by omega) | exact st_shr_u64 (s := 32) rfl rfl rfl rfl rfl rfl (by omega) | exact st_I rfl rfl rfl rfl rfl | exact st_B rfl rfl rfl rfl rfl | exact st_S rfl rfl rfl rfl rfl | exact st_P rfl rfl rfl rfl rfl | exact st_T rfl rfl rfl rfl rfl | exact st_A rfl rfl rfl rfl rfl | exact st_U rfl rfl rfl rfl rfl | exact st_val (v := .pointer none) rfl rfl rfl rfl rfl | exact st_off rfl rfl rfl) : EO X ops (o :: r) ⟨t, h, n, w⟩ Q := f k
theorem st_add64 {x y c : Nat} (hw : wantsF ops t o = true) (hd : o.dst = some d) (hn : dstOk X.nt (some d) = true) (hc : cls o.op = 3) (he : effF X.E o.op (evF t) h n = (match GE.ext 261 [.int .u64 (x : Int), .int .u64 (y : Int), .int .u64 (c : Int)] with | some v => some (.val v h n []) | none => some (.enter 261 [.int .u64 (x : Int), .int .u64 (y : Int), .int .u64 (c : Int)]))) (hb : c ≤ 1)
    (k : EO X ops r ⟨upd t d (.tuple #[.int .u64 (((x + y + c) % 18446744073709551616 : Nat) : Int), .int .u64 (((x + y + c) / 18446744073709551616 : Nat) : Int)]), h, n, w⟩ Q) : EO X ops (o :: r) ⟨t, h, n, w⟩ Q := by
  refine st_ext hw hd hn hc (he.trans ?_) k
  have e : GE.ext 261 [.int .u64 (x : Int), .int .u64 (y : Int), .int .u64 (c : Int)] = some (.tuple #[.int .u64 (((x + y + c) % 18446744073709551616 : Nat) : Int), .int .u64 (((x + y + c) / 18446744073709551616 : Nat) : Int)]) := by
    show (match Nat.ble c 1 with | true => some (Value.tuple ⟨[.int .u64 (.ofNat ((x + y + c) % 18446744073709551616)), .int .u64 (.ofNat ((x + y + c) / 18446744073709551616))]⟩) | false => none) = _
    rw [Nat.ble_eq_true_of_le hb]
    rfl
  rw [e]
theorem st_idxA {ty e : TypeId} {x i : Operand} {b off len sz bt : Nat} {z : Value} {ik : IntKind} {j : Int} (hw : wantsF ops t o = true) (hd : o.dst = some d) (hn : dstOk X.nt (some d) = true) (ho : o.op = .indexAddr ty x i) (hu : X.E.und ty = some (.array len e)) (hi : X.E.inf e = some (sz, bt, z))
    (hx : evF t x = .pointer (some ⟨b, off, none⟩)) (hj : evF t i = .int ik j) (hr : 0 ≤ j ∧ j < len) (k : EO X ops r ⟨upd t d (.pointer (some ⟨b, off + j.toNat * sz, none⟩)), h, n, w⟩ Q) : EO X ops (o :: r) ⟨t, h, n, w⟩ Q := by
  refine st_val hw hd hn (by rw [ho]; rfl) ?_ k
  rw [ho]
  show indexAddrE X.E ty (evF t x) (evF t i) = _
  rw [hx, hj]
  simp only [indexAddrE, hu, hi, if_pos hr, addr_at]
end
theorem d64_eq : GK.d64 = Lib.deBruijn64tab.map fun d : Nat => Value.int .u8 (d : Int) := rfl
set_option maxHeartbeats 1000000
theorem mul64_ok (k : Nat) (h : HF) (n : Nat) {x y : Nat} (hx : x < 18446744073709551616) (hy : y < 18446744073709551616) : VF (cal (k + 1)) 173 [.int .u64 (x : Int), .int .u64 (y : Int)] h n fun v => v = .tuple #[.int .u64 ((x * y / 18446744073709551616 : Nat) : Int), .int .u64 ((x * y % 18446744073709551616 : Nat) : Int)] := by
  refine CF_flat (fn := Tryz.f173) rfl rfl rfl rfl ?_
  obtain ⟨b0, b1, b2, b3⟩ := Lib.mul64_hi x y hx hy
  have c1 := Lib.half_mul_le (a := x / 4294967296) (b := y / 4294967296) (by omega) (by omega)
  have c2 := Lib.half_mul_le (a := x / 4294967296) (b := y % 4294967296) (by omega) (by omega)
  have c3 := Lib.half_mul_le (a := x % 4294967296) (b := y / 4294967296) (by omega) (by omega)
  simp only [NV, Nat.reduceEqDiff, reduceCtorEq]
  repeat refine zR ?_
  simp only [NV, Nat.reduceEqDiff, reduceCtorEq]
  repeat refine zW ?_
  simp only [NV, Nat.reduceEqDiff, reduceCtorEq]
  repeat refine zW ?_
  simp only [NV, Nat.reduceEqDiff, reduceCtorEq]
  repeat refine zW ?_
  simp only [NV, Nat.reduceEqDiff, reduceCtorEq]
  repeat refine zW ?_
  simp only [NV, Nat.reduceEqDiff, reduceCtorEq]
  repeat refine zW ?_
  simp only [NV, Nat.reduceEqDiff, reduceCtorEq]
  repeat refine zW ?_
  simp only [NV, Nat.reduceEqDiff, reduceCtorEq]
  repeat refine zW ?_
  simp only [NV, Nat.reduceEqDiff, reduceCtorEq]
  repeat refine zW ?_
  simp only [NV, Nat.reduceEqDiff, reduceCtorEq]
  repeat refine zW ?_
  simp only [NV, Nat.reduceEqDiff, reduceCtorEq]
  repeat refine zW ?_
  simp only [NV, Nat.reduceEqDiff, reduceCtorEq]
  refine zM ?_
  refine zM ?_
  refine st_mulw_u64 (a := x) (b := y) rfl rfl rfl rfl rfl rfl ?_
  repeat refine zR ?_
  simp only [NV, Nat.reduceEqDiff, reduceCtorEq]
  refine retF [.int .u64 _, .int .u64 _] rfl rfl rfl rfl ?_
  rw [← b3]
  rfl
theorem mulAdd_ok (k : Nat) (h : HF) (n : Nat) {x y c : Nat} (hx : x < 18446744073709551616) (hy : y < 18446744073709551616) (hc : c < 18446744073709551616) : VF (cal (k + 2)) 241 [.int .u64 (x : Int), .int .u64 (y : Int), .int .u64 (c : Int)] h n fun v => v = .tuple #[.int .u64 (((x * y + c) % 18446744073709551616 : Nat) : Int), .int .u64 (((x * y + c) / 18446744073709551616 : Nat) : Int)] := by
  refine CF_flat (fn := Tryz.f241) rfl rfl rfl rfl ?_
  have hp : x * y ≤ 18446744073709551615 * 18446744073709551615 := Nat.mul_le_mul (by omega) (by omega)
  simp only [NV, Nat.reduceEqDiff, reduceCtorEq]
  repeat refine zR ?_
  simp only [NV, Nat.reduceEqDiff, reduceCtorEq]
  repeat refine zR ?_
  refine st_vf _ rfl rfl rfl rfl rfl (mul64_ok k h n hx hy) ?_
  rintro _ rfl
  repeat refine zR ?_
  simp only [NV, Nat.reduceEqDiff, reduceCtorEq]
  refine zM ?_
  refine zM ?_
  refine st_add64 (x := x * y % 18446744073709551616) (y := c) (c := 0) rfl rfl rfl rfl rfl (by decide) ?_
  repeat refine zR ?_
  simp only [NV, Nat.reduceEqDiff, reduceCtorEq]
  refine zM ?_
  refine zM ?_
  refine zM ?_
  refine st_add_u64 (a := x * y / 18446744073709551616) (b := (x * y % 18446744073709551616 + c + 0) / 18446744073709551616) rfl rfl rfl rfl rfl rfl (by omega) ?_
  repeat refine zR ?_
  simp only [NV, Nat.reduceEqDiff, reduceCtorEq]
  refine retF [.int .u64 _, .int .u64 _] rfl rfl rfl rfl ?_
  have e1 : (x * y % 18446744073709551616 + c + 0) % 18446744073709551616 = (x * y + c) % 18446744073709551616 := by omega
  have e2 : x * y / 18446744073709551616 + (x * y % 18446744073709551616 + c + 0) / 18446744073709551616 = (x * y + c) / 18446744073709551616 := by omega
  rw [← e1, ← e2]
  rfl
end Go.Proofs.YtokfihhdllmbmaaGreatDoor
namespace Go.Proofs.YtokfihhdllmbmaaGreatDoor
open Go Go.GL
set_option maxHeartbeats 1000000
theorem neg_u64 {x : Nat} (hx : x < 18446744073709551616) (h0 : x ≠ 0) : some (Value.int .u64 (IntKind.wrap .u64 (0 - (x : Int)))) = some (Value.int .u64 ((18446744073709551616 - x : Nat) : Int)) := by
  have e : IntKind.wrap .u64 (0 - (x : Int)) = ((18446744073709551616 - x : Nat) : Int) := by
    simp only [IntKind.wrap, IntKind.signed, IntKind.bits]
    simp
    omega
  rw [e]
theorem d64_at {i s : Nat} (hl : i < 64) (g2 : Lib.deBruijn64tab.getD i 0 = s) : GK.d64[0 + (i : Int).toNat * 1]? = some (.int .u8 (s : Int)) := by
  have hl : i < Lib.deBruijn64tab.length := hl
  rw [d64_eq, show 0 + (i : Int).toNat * 1 = i from by omega, List.getElem?_map, List.getElem?_eq_getElem hl]
  rw [List.getD_eq_getElem?_getD, List.getElem?_eq_getElem hl] at g2
  simp only [Option.getD_some] at g2
  rw [g2]
  rfl
theorem tz64_ok (k : Nat) {h : HF} (hG : GK.G h) (n : Nat) {x : Nat} (hx : x < 18446744073709551616) (h0 : x ≠ 0) : VF (cal (k + 1)) 243 [.int .u64 (x : Int)] h n fun v => ∃ s : Nat, v = .int .i64 (s : Int) ∧ s < 64 ∧ ∃ o, x = 2 ^ s * o ∧ o % 2 = 1 := by
  refine CF_flat (fn := Tryz.f243) rfl rfl rfl rfl ?_
  obtain ⟨e1, e2⟩ : x &&& (18446744073709551616 - x) = 2 ^ Lib.ctz 64 x ∧ Lib.ctz 64 x < 64 := Lib.lowest_bit 64 x h0 hx
  have hc : Lib.ctz 64 x = Lib.ctzFrom 64 x := by unfold Lib.ctz; rw [if_neg h0]
  obtain ⟨m, hm, _⟩ := Lib.ctzFrom_spec 64 x (by omega) hx
  rw [← hc] at hm
  obtain ⟨g1, g2⟩ := Lib.deBruijn64_at (Lib.ctz 64 x) e2
  generalize Lib.ctz 64 x = s at e1 e2 hm g1 g2
  have hfin : ∃ o, x = 2 ^ s * o ∧ o % 2 = 1 := ⟨2 * m + 1, hm, by clear hm e1; omega⟩
  clear hm hc
  simp only [NV, Nat.reduceEqDiff, reduceCtorEq]
  repeat refine zR ?_
  simp only [NV, Nat.reduceEqDiff, reduceCtorEq]
  repeat refine zR ?_
  simp only [NV, Nat.reduceEqDiff, reduceCtorEq]
  rw [EC_cond_false rfl]
  simp only [NV, Nat.reduceEqDiff, reduceCtorEq]
  refine zM ?_
  refine zM ?_
  refine st_val (v := .int .u64 ((18446744073709551616 - x : Nat) : Int)) rfl rfl rfl rfl (neg_u64 hx h0) ?_
  refine st_and_u64 (a := x) (b := 18446744073709551616 - x) rfl rfl rfl rfl rfl rfl (by omega) ?_
  rw [e1]
  clear e1
  refine st_mulw_u64 (a := 2 ^ s) (b := 285870213051353865) rfl rfl rfl rfl rfl rfl ?_
  refine st_shr_u64 (a := 2 ^ s * 285870213051353865 % 18446744073709551616) (s := 58) rfl rfl rfl rfl rfl rfl (by decide) ?_
  rw [show (2 : Nat) ^ 58 = 288230376151711744 from rfl]
  generalize 2 ^ s * 285870213051353865 % 18446744073709551616 / 288230376151711744 = i at g1 g2 ⊢
  refine st_idxA rfl rfl rfl rfl rfl rfl rfl rfl ⟨Int.natCast_nonneg _, Int.ofNat_lt.2 g1⟩ ?_
  have hg := d64_at g1 g2
  refine st_load1 rfl rfl rfl rfl rfl rfl hG.1 rfl (v := .int .u8 (s : Int)) hg ?_
  refine st_conv_i64 (a := (s : Int)) rfl rfl rfl rfl rfl rfl rfl (by omega) ?_
  repeat refine zR ?_
  simp only [NV, Nat.reduceEqDiff, reduceCtorEq]
  exact retF _ rfl (resF_tmp rfl) rfl rfl ⟨s, rfl, e2, hfin⟩
theorem gcdWord_ok (k : Nat) {h : HF} (hG : GK.G h) (n : Nat) {x y : Nat} (hx : x < 18446744073709551616) (hy : y < 18446744073709551616) : VF (cal (k + 2)) 210 [.int .u64 (x : Int), .int .u64 (y : Int)] h n fun v => v = .int .u64 ((Nat.gcd x y : Nat) : Int) := by
  refine CF_flat (fn := Tryz.f210) rfl rfl rfl rfl ?_
  have hor : x ||| y < 18446744073709551616 := Nat.or_lt_two_pow (n := 64) hx hy
  simp only [NV, Nat.reduceEqDiff, reduceCtorEq]
  repeat refine zR ?_
  simp only [NV, Nat.reduceEqDiff, reduceCtorEq]
  by_cases hx0 : x = 0
  · subst hx0
    repeat refine zR ?_
    simp only [NV, Nat.reduceEqDiff, reduceCtorEq]
    rw [EC_cond_true rfl]
    simp only [NV, Nat.reduceEqDiff, reduceCtorEq]
    refine zM ?_
    refine zM ?_
    refine st_or_u64 (a := 0) (b := y) rfl rfl rfl rfl rfl rfl (by omega) ?_
    repeat refine zR ?_
    simp only [NV, Nat.reduceEqDiff, reduceCtorEq]
    exact retF _ rfl (resF_tmp rfl) rfl rfl (by rw [Nat.gcd_zero_left, Nat.zero_or]; rfl)
  by_cases hy0 : y = 0
  · subst hy0
    repeat refine zR ?_
    simp only [NV, Nat.reduceEqDiff, reduceCtorEq]
    rw [EC_cond_true rfl]
    simp only [NV, Nat.reduceEqDiff, reduceCtorEq]
    refine zM ?_
    refine zM ?_
    refine st_or_u64 (a := x) (b := 0) rfl rfl rfl rfl rfl rfl (by omega) ?_
    repeat refine zR ?_
    simp only [NV, Nat.reduceEqDiff, reduceCtorEq]
    exact retF _ rfl (resF_tmp rfl) rfl rfl (by rw [Nat.gcd_zero_right, Nat.or_zero]; rfl)
  have hor0 : x ||| y ≠ 0 := fun e => hx0 (Nat.or_eq_zero_iff.1 e).1
  repeat refine zR ?_
  simp only [NV, Nat.reduceEqDiff, reduceCtorEq]
  rw [EC_cond_false rfl]
  simp only [NV, Nat.reduceEqDiff, reduceCtorEq]
  refine zM ?_
  refine zM ?_
  refine st_or_u64 (a := x) (b := y) rfl rfl rfl rfl rfl rfl (by omega) ?_
  refine st_vf _ rfl rfl rfl rfl rfl (tz64_ok k hG n hor hor0) ?_
  rintro _ ⟨s, rfl, hs, hTz⟩
  repeat refine zR ?_
  simp only [NV, Nat.reduceEqDiff, reduceCtorEq]
  refine zM ?_
  refine zM ?_
  refine st_vf _ rfl rfl rfl rfl rfl (tz64_ok k hG n hx hx0) ?_
  rintro _ ⟨s1, rfl, hs1, o1, hxo, ho1⟩
  refine st_shr_u64 (a := x) (s := s1) rfl rfl rfl rfl rfl rfl (by omega) ?_
  have hdiv : x / 2 ^ s1 = o1 := by rw [hxo]; exact Nat.mul_div_cancel_left _ (Nat.pow_pos (by omega))
  have ho1x : o1 ≤ x := by rw [← hdiv]; exact Nat.div_le_self _ _
  rw [hdiv]
  repeat refine zR ?_
  simp only [NV, Nat.reduceEqDiff, reduceCtorEq]
  have hfin := gcd_shift (s := s) hTz hxo ho1
  refine EC_for (α := Nat × Nat) (fun z => [(0, .int .u64 (z.1 : Int)), (1, .int .u64 (z.2 : Int)), (5, .int .i64 (s : Int))]) (fun z h' n' w => h = h' ∧ n = n' ∧ w = [] ∧ z.1 % 2 = 1 ∧ z.1 < 18446744073709551616 ∧ z.2 < 18446744073709551616 ∧ Nat.gcd z.1 z.2 = Nat.gcd o1 y) (fun z => z.1 + z.2) (o1, y) ⟨rfl, rfl, rfl, trivial⟩ ⟨rfl, rfl, rfl, ho1, by show o1 < _; omega, hy, rfl⟩ (by show o1 + y < LL; unfold LL; omega) ?_
  rintro ⟨a, b⟩ t _ _ _ ⟨rfl, rfl, rfl, ha, ha2, hb2, hg⟩
  simp only at ha ha2 hb2 hg
  simp only [NV, Nat.reduceEqDiff, reduceCtorEq]
  by_cases hb0 : b = 0
  · subst hb0
    repeat refine zR ?_
    simp only [NV, Nat.reduceEqDiff, reduceCtorEq]
    rw [EC_cond_false rfl]
    simp only [NV, Nat.reduceEqDiff, reduceCtorEq]
    rw [Nat.gcd_zero_right] at hg
    refine zM ?_
    refine zM ?_
    refine st_shl_u64 (a := a) (s := s) rfl rfl rfl rfl rfl rfl (by omega) ?_
    repeat refine zR ?_
    simp only [NV, Nat.reduceEqDiff, reduceCtorEq]
    refine retF _ rfl (resF_tmp rfl) rfl rfl ?_
    show Value.int .u64 _ = Value.int .u64 _
    have hgx : Nat.gcd x y ≤ x := Nat.gcd_le_left _ (by omega)
    rw [hg, Nat.mul_comm, hfin, Nat.mod_eq_of_lt (by omega)]
  · repeat refine zR ?_
    simp only [NV, Nat.reduceEqDiff, reduceCtorEq]
    rw [EC_cond_true rfl]
    simp only [NV, Nat.reduceEqDiff, reduceCtorEq]
    refine zM ?_
    refine zM ?_
    refine st_vf _ rfl rfl rfl rfl rfl (tz64_ok k hG n hb2 hb0) ?_
    rintro _ ⟨s2, rfl, hs2, z, hbz, hz⟩
    refine st_shr_u64 (a := b) (s := s2) rfl rfl rfl rfl rfl rfl (by omega) ?_
    have hdiv2 : b / 2 ^ s2 = z := by rw [hbz]; exact Nat.mul_div_cancel_left _ (Nat.pow_pos (by omega))
    have hzb : z ≤ b := by rw [← hdiv2]; exact Nat.div_le_self _ _
    rw [hdiv2]
    obtain ⟨r1, r2, r3⟩ := gcd_round ha hbz hz
    repeat refine zR ?_
    simp only [NV, Nat.reduceEqDiff, reduceCtorEq]
    by_cases hgt : z < a
    · rw [Nat.min_eq_right (by omega)] at r1 r2 r3
      rw [Nat.max_eq_left (by omega)] at r2 r3
      repeat refine zR ?_
      simp only [NV, Nat.reduceEqDiff, reduceCtorEq]
      rw [EC_cond_true rfl]
      simp only [NV, Nat.reduceEqDiff, reduceCtorEq]
      repeat refine zR ?_
      simp only [NV, Nat.reduceEqDiff, reduceCtorEq]
      refine zM ?_
      refine zM ?_
      refine st_sub_u64 (a := a) (b := z) rfl rfl rfl rfl rfl rfl (by omega) ?_
      repeat refine zR ?_
      simp only [NV, Nat.reduceEqDiff, reduceCtorEq]
      exact goOn (z, a - z) r3 ⟨rfl, rfl, rfl, trivial⟩ ⟨rfl, rfl, rfl, r1, by show z < _; omega, by show a - z < _; omega, r2.trans hg⟩
    · rw [Nat.min_eq_left (by omega)] at r1 r2 r3
      rw [Nat.max_eq_right (by omega)] at r2 r3
      repeat refine zR ?_
      simp only [NV, Nat.reduceEqDiff, reduceCtorEq]
      rw [EC_cond_false rfl]
      simp only [NV, Nat.reduceEqDiff, reduceCtorEq]
      refine zM ?_
      refine zM ?_
      refine st_sub_u64 (a := z) (b := a) rfl rfl rfl rfl rfl rfl (by omega) ?_
      repeat refine zR ?_
      simp only [NV, Nat.reduceEqDiff, reduceCtorEq]
      exact goOn (a, z - a) r3 ⟨rfl, rfl, rfl, trivial⟩ ⟨rfl, rfl, rfl, r1, ha2, by show z - a < _; omega, r2.trans hg⟩
end Go.Proofs.YtokfihhdllmbmaaGreatDoor
namespace Go.Proofs.YtokfihhdllmbmaaGreatDoor
open Go Go.GL
theorem half_q {top v1 v2 w q r : Nat} (hsum : q * v1 + r = top) (hv : 0 < v1 * 4294967296 + v2) (hg : (top * 4294967296 + w) / (v1 * 4294967296 + v2) ≤ q) (hc : q * v2 ≤ r * 4294967296 + w) : q = (top * 4294967296 + w) / (v1 * 4294967296 + v2) := by
  apply Nat.le_antisymm _ hg
  rw [Nat.le_div_iff_mul_le hv, ← hsum]
  have e : q * (v1 * 4294967296 + v2) = q * v1 * 4294967296 + q * v2 := by rw [Nat.mul_add, Nat.mul_assoc]
  rw [e, Nat.add_mul]
  omega
section
variable {K n n1 : Nat} {h : HF} {t : TF} {w : List Nat} {va vb vc vd ve : Value}
set_option maxHeartbeats 1000000
set_option maxRecDepth 100000
theorem div64_est1 {top v1 v2 w2 : Nat} (b1 : 2147483648 ≤ v1 ∧ v1 < 4294967296) (b2 : v2 < 4294967296) (b3 : w2 < 4294967296) (htop : top < v1 * 4294967296 + v2)
    {c : Code} (hc : bodyB Tryz.f244 [1, 1, 1, 1, 1, 1, 1, 1, 1, 1, 1, 1, 1, 1, 0] = some c) {Q : Ex → SV → Prop}
    (hL : AllEq t [(2, va), (8, vb), (11, vc), (14, vd), (9, .int .u64 (v1 : Int)), (10, .int .u64 (v2 : Int)), (13, .int .u64 (w2 : Int)), (15, .int .u64 ((top / v1 : Nat) : Int)), (16, .int .u64 ((top % v1 : Nat) : Int))])
    (hQ : ∀ (t' : TF) (g : Nat), g = (top * 4294967296 + w2) / (v1 * 4294967296 + v2) → AllEq t' [(2, va), (8, vb), (11, vc), (14, vd), (9, .int .u64 (v1 : Int)), (10, .int .u64 (v2 : Int)), (13, .int .u64 (w2 : Int)), (15, .int .u64 (g : Int))] → Q .normal ⟨t', h, n1, w⟩) : EC (ctx K n (Tryz.f244).ntmps) c ⟨t, h, n1, w⟩ Q := by
  obtain rfl := Option.some.inj (hc.symm.trans (rfl : bodyB Tryz.f244 [1, 1, 1, 1, 1, 1, 1, 1, 1, 1, 1, 1, 1, 1, 0] = some _))
  clear hc
  have hlt : top % v1 < v1 := Nat.mod_lt _ (by omega)
  have hg1 := kn_start (B := 4294967296) (P := 1) (v1 := v1) (v2 := v2) (vr := 0) (w2 := w2) (wr := 0) (top := top) (by omega) b3 (by omega)
  have hg3 : ∀ hh rr : Nat, hh * v1 + rr = top → rr * 4294967296 + w2 < hh * v2 → (top * 4294967296 + w2) / (v1 * 4294967296 + v2) < hh := fun hh rr e1 e2 => by
    have := kn_test (B := 4294967296) (P := 1) (v1 := v1) (v2 := v2) (vr := 0) (w2 := w2) (wr := 0) (top := top) b3 (by omega) e1 e2
    simpa using this
  simp only [Nat.mul_one, Nat.add_zero] at hg1
  have hg2 : (top * 4294967296 + w2) / (v1 * 4294967296 + v2) < 4294967296 := by
    rw [Nat.div_lt_iff_lt_mul (by omega)]
    have : (top + 1) * 4294967296 ≤ (v1 * 4294967296 + v2) * 4294967296 := Nat.mul_le_mul_right _ htop
    rw [Nat.mul_comm 4294967296]
    omega
  generalize hgg : (top * 4294967296 + w2) / (v1 * 4294967296 + v2) = g at hg1 hg2 hg3
  have hend : ∀ q r : Nat, q * v1 + r = top → g ≤ q → q * v2 ≤ r * 4294967296 + w2 → q = g := fun q r e1 e2 e3 => by
    rw [← hgg] at e2 ⊢
    exact half_q e1 (by omega) e2 e3
  simp only [NV, Nat.reduceEqDiff, reduceCtorEq]
  refine EC_for (α := Nat × Nat) (fun z => [(2, va), (8, vb), (11, vc), (14, vd), (9, .int .u64 (v1 : Int)), (10, .int .u64 (v2 : Int)), (13, .int .u64 (w2 : Int)), (15, .int .u64 (z.1 : Int)), (16, .int .u64 (z.2 : Int))])
    (fun z h' n' w' => h = h' ∧ n1 = n' ∧ w = w' ∧ z.1 * v1 + z.2 = top ∧ g ≤ z.1 ∧ z.2 < 4294967296) (fun z => z.1) (top / v1, top % v1) hL ⟨rfl, rfl, rfl, by rw [Nat.mul_comm]; exact Nat.div_add_mod _ _, hg1, by show _ % _ < _; omega⟩ (by show top / v1 < LL; have : top / v1 ≤ top := Nat.div_le_self _ _; unfold LL; omega) ?_
  rintro ⟨hh, rr⟩ t2 _ _ _ ⟨rfl, rfl, rfl, hsum, hgh, hrr⟩
  simp only at hsum hgh hrr
  have hhb : hh < 18446744073709551616 := by
    have h1 : hh * 2147483648 ≤ hh * v1 := Nat.mul_le_mul_left _ b1.1
    omega
  have hstep : g < hh → (hh - 1) * v1 + (rr + v1) = top := fun hlt => by
    obtain ⟨x, rfl⟩ : ∃ x, hh = x + 1 := ⟨hh - 1, by omega⟩
    rw [Nat.add_mul, Nat.one_mul] at hsum
    simp only [Nat.add_sub_cancel]
    omega
  have hbrk : g < hh → 4294967296 ≤ rr + v1 → hh - 1 = g := fun hlt hge => by
    have h1 := hstep hlt
    have h2 : hh - 1 < 4294967296 := by
      apply Classical.byContradiction
      intro hn
      have : 4294967296 * v1 ≤ (hh - 1) * v1 := Nat.mul_le_mul_right _ (by omega)
      omega
    refine hend _ _ h1 (by omega) ?_
    have h3 : (hh - 1) * v2 ≤ 4294967296 * 4294967296 := Nat.mul_le_mul (by omega) (by omega)
    have h4 : 4294967296 * 4294967296 ≤ (rr + v1) * 4294967296 := Nat.mul_le_mul_right _ hge
    omega
  simp only [NV, Nat.reduceEqDiff, reduceCtorEq]
  by_cases hB : 4294967296 ≤ hh
  · repeat refine zW ?_
    simp only [NV, Nat.reduceEqDiff, reduceCtorEq]
    rw [EC_cond_true rfl]
    simp only [NV, Nat.reduceEqDiff, reduceCtorEq]
    repeat refine zW ?_
    simp only [NV, Nat.reduceEqDiff, reduceCtorEq]
    repeat refine zW ?_
    simp only [NV, Nat.reduceEqDiff, reduceCtorEq]
    by_cases hge : 4294967296 ≤ rr + v1
    · repeat refine zW ?_
      simp only [NV, Nat.reduceEqDiff, reduceCtorEq]
      rw [EC_cond_true rfl]
      simp only [NV, Nat.reduceEqDiff, reduceCtorEq]
      have hb := hbrk (by omega) hge
      exact hQ _ g hgg.symm ⟨rfl, rfl, rfl, rfl, rfl, rfl, rfl, by show Value.int .u64 _ = Value.int .u64 _; rw [hb], trivial⟩
    · repeat refine zW ?_
      simp only [NV, Nat.reduceEqDiff, reduceCtorEq]
      rw [EC_cond_false rfl]
      simp only [NV, Nat.reduceEqDiff, reduceCtorEq]
      exact goOn (hh - 1, rr + v1) (by show hh - 1 < hh; omega) ⟨rfl, rfl, rfl, rfl, rfl, rfl, rfl, rfl, rfl, trivial⟩ ⟨rfl, rfl, rfl, hstep (by omega), by show g ≤ hh - 1; omega, by show rr + v1 < _; omega⟩
  · have hpr : hh * v2 ≤ 4294967295 * 4294967295 := Nat.mul_le_mul (by omega) (by omega)
    by_cases htest : 4294967296 * rr + w2 < hh * v2
    · have hlt := hg3 hh rr hsum (by omega)
      repeat refine zW ?_
      simp only [NV, Nat.reduceEqDiff, reduceCtorEq]
      first
        | rw [EC_cond_true rfl]
        | rw [EC_cond_true (by show Value.bool (decide _) = _; rw [decide_eq_true (Int.ofNat_lt.2 htest)])]
      simp only [NV, Nat.reduceEqDiff, reduceCtorEq]
      repeat refine zW ?_
      simp only [NV, Nat.reduceEqDiff, reduceCtorEq]
      repeat refine zW ?_
      simp only [NV, Nat.reduceEqDiff, reduceCtorEq]
      by_cases hge : 4294967296 ≤ rr + v1
      · repeat refine zW ?_
        simp only [NV, Nat.reduceEqDiff, reduceCtorEq]
        rw [EC_cond_true rfl]
        simp only [NV, Nat.reduceEqDiff, reduceCtorEq]
        have hb := hbrk hlt hge
        exact hQ _ g hgg.symm ⟨rfl, rfl, rfl, rfl, rfl, rfl, rfl, by show Value.int .u64 _ = Value.int .u64 _; rw [hb], trivial⟩
      · repeat refine zW ?_
        simp only [NV, Nat.reduceEqDiff, reduceCtorEq]
        rw [EC_cond_false rfl]
        simp only [NV, Nat.reduceEqDiff, reduceCtorEq]
        exact goOn (hh - 1, rr + v1) (by show hh - 1 < hh; omega) ⟨rfl, rfl, rfl, rfl, rfl, rfl, rfl, rfl, rfl, trivial⟩ ⟨rfl, rfl, rfl, hstep hlt, by show g ≤ hh - 1; omega, by show rr + v1 < _; omega⟩
    · repeat refine zW ?_
      simp only [NV, Nat.reduceEqDiff, reduceCtorEq]
      first
        | rw [EC_cond_false rfl]
        | rw [EC_cond_false (by show Value.bool (decide _) = _; rw [decide_eq_false (fun h => htest (Int.ofNat_lt.1 h))])]
      simp only [NV, Nat.reduceEqDiff, reduceCtorEq]
      have hb := hend hh rr hsum hgh (by omega)
      exact hQ _ g hgg.symm ⟨rfl, rfl, rfl, rfl, rfl, rfl, rfl, by show Value.int .u64 _ = Value.int .u64 _; rw [hb], trivial⟩
theorem div64_est2 {top v1 v2 w2 : Nat} (b1 : 2147483648 ≤ v1 ∧ v1 < 4294967296) (b2 : v2 < 4294967296) (b3 : w2 < 4294967296) (htop : top < v1 * 4294967296 + v2)
    {c : Code} (hc : bodyB Tryz.f244 [1, 1, 1, 1, 1, 1, 1, 1, 1, 1, 1, 1, 1, 1, 1, 1, 1, 1, 0] = some c) {Q : Ex → SV → Prop}
    (hL : AllEq t [(2, va), (8, vb), (15, vc), (17, vd), (9, .int .u64 (v1 : Int)), (10, .int .u64 (v2 : Int)), (14, .int .u64 (w2 : Int)), (18, .int .u64 ((top / v1 : Nat) : Int)), (16, .int .u64 ((top % v1 : Nat) : Int))])
    (hQ : ∀ (t' : TF) (g : Nat), g = (top * 4294967296 + w2) / (v1 * 4294967296 + v2) → AllEq t' [(2, va), (8, vb), (15, vc), (17, vd), (9, .int .u64 (v1 : Int)), (10, .int .u64 (v2 : Int)), (14, .int .u64 (w2 : Int)), (18, .int .u64 (g : Int))] → Q .normal ⟨t', h, n1, w⟩) : EC (ctx K n (Tryz.f244).ntmps) c ⟨t, h, n1, w⟩ Q := by
  obtain rfl := Option.some.inj (hc.symm.trans (rfl : bodyB Tryz.f244 [1, 1, 1, 1, 1, 1, 1, 1, 1, 1, 1, 1, 1, 1, 1, 1, 1, 1, 0] = some _))
  clear hc
  have hlt : top % v1 < v1 := Nat.mod_lt _ (by omega)
  have hg1 := kn_start (B := 4294967296) (P := 1) (v1 := v1) (v2 := v2) (vr := 0) (w2 := w2) (wr := 0) (top := top) (by omega) b3 (by omega)
  have hg3 : ∀ hh rr : Nat, hh * v1 + rr = top → rr * 4294967296 + w2 < hh * v2 → (top * 4294967296 + w2) / (v1 * 4294967296 + v2) < hh := fun hh rr e1 e2 => by
    have := kn_test (B := 4294967296) (P := 1) (v1 := v1) (v2 := v2) (vr := 0) (w2 := w2) (wr := 0) (top := top) b3 (by omega) e1 e2
    simpa using this
  simp only [Nat.mul_one, Nat.add_zero] at hg1
  have hg2 : (top * 4294967296 + w2) / (v1 * 4294967296 + v2) < 4294967296 := by
    rw [Nat.div_lt_iff_lt_mul (by omega)]
    have : (top + 1) * 4294967296 ≤ (v1 * 4294967296 + v2) * 4294967296 := Nat.mul_le_mul_right _ htop
    rw [Nat.mul_comm 4294967296]
    omega
  generalize hgg : (top * 4294967296 + w2) / (v1 * 4294967296 + v2) = g at hg1 hg2 hg3
  have hend : ∀ q r : Nat, q * v1 + r = top → g ≤ q → q * v2 ≤ r * 4294967296 + w2 → q = g := fun q r e1 e2 e3 => by
    rw [← hgg] at e2 ⊢
    exact half_q e1 (by omega) e2 e3
  simp only [NV, Nat.reduceEqDiff, reduceCtorEq]
  refine EC_for (α := Nat × Nat) (fun z => [(2, va), (8, vb), (15, vc), (17, vd), (9, .int .u64 (v1 : Int)), (10, .int .u64 (v2 : Int)), (14, .int .u64 (w2 : Int)), (18, .int .u64 (z.1 : Int)), (16, .int .u64 (z.2 : Int))])
    (fun z h' n' w' => h = h' ∧ n1 = n' ∧ w = w' ∧ z.1 * v1 + z.2 = top ∧ g ≤ z.1 ∧ z.2 < 4294967296) (fun z => z.1) (top / v1, top % v1) hL ⟨rfl, rfl, rfl, by rw [Nat.mul_comm]; exact Nat.div_add_mod _ _, hg1, by show _ % _ < _; omega⟩ (by show top / v1 < LL; have : top / v1 ≤ top := Nat.div_le_self _ _; unfold LL; omega) ?_
  rintro ⟨hh, rr⟩ t2 _ _ _ ⟨rfl, rfl, rfl, hsum, hgh, hrr⟩
  simp only at hsum hgh hrr
  have hhb : hh < 18446744073709551616 := by
    have h1 : hh * 2147483648 ≤ hh * v1 := Nat.mul_le_mul_left _ b1.1
    omega
  have hstep : g < hh → (hh - 1) * v1 + (rr + v1) = top := fun hlt => by
    obtain ⟨x, rfl⟩ : ∃ x, hh = x + 1 := ⟨hh - 1, by omega⟩
    rw [Nat.add_mul, Nat.one_mul] at hsum
    simp only [Nat.add_sub_cancel]
    omega
  have hbrk : g < hh → 4294967296 ≤ rr + v1 → hh - 1 = g := fun hlt hge => by
    have h1 := hstep hlt
    have h2 : hh - 1 < 4294967296 := by
      apply Classical.byContradiction
      intro hn
      have : 4294967296 * v1 ≤ (hh - 1) * v1 := Nat.mul_le_mul_right _ (by omega)
      omega
    refine hend _ _ h1 (by omega) ?_
    have h3 : (hh - 1) * v2 ≤ 4294967296 * 4294967296 := Nat.mul_le_mul (by omega) (by omega)
    have h4 : 4294967296 * 4294967296 ≤ (rr + v1) * 4294967296 := Nat.mul_le_mul_right _ hge
    omega
  simp only [NV, Nat.reduceEqDiff, reduceCtorEq]
  by_cases hB : 4294967296 ≤ hh
  · repeat refine zW ?_
    simp only [NV, Nat.reduceEqDiff, reduceCtorEq]
    rw [EC_cond_true rfl]
    simp only [NV, Nat.reduceEqDiff, reduceCtorEq]
    repeat refine zW ?_
    simp only [NV, Nat.reduceEqDiff, reduceCtorEq]
    repeat refine zW ?_
    simp only [NV, Nat.reduceEqDiff, reduceCtorEq]
    by_cases hge : 4294967296 ≤ rr + v1
    · repeat refine zW ?_
      simp only [NV, Nat.reduceEqDiff, reduceCtorEq]
      rw [EC_cond_true rfl]
      simp only [NV, Nat.reduceEqDiff, reduceCtorEq]
      have hb := hbrk (by omega) hge
      exact hQ _ g hgg.symm ⟨rfl, rfl, rfl, rfl, rfl, rfl, rfl, by show Value.int .u64 _ = Value.int .u64 _; rw [hb], trivial⟩
    · repeat refine zW ?_
      simp only [NV, Nat.reduceEqDiff, reduceCtorEq]
      rw [EC_cond_false rfl]
      simp only [NV, Nat.reduceEqDiff, reduceCtorEq]
      exact goOn (hh - 1, rr + v1) (by show hh - 1 < hh; omega) ⟨rfl, rfl, rfl, rfl, rfl, rfl, rfl, rfl, rfl, trivial⟩ ⟨rfl, rfl, rfl, hstep (by omega), by show g ≤ hh - 1; omega, by show rr + v1 < _; omega⟩
  · have hpr : hh * v2 ≤ 4294967295 * 4294967295 := Nat.mul_le_mul (by omega) (by omega)
    by_cases htest : 4294967296 * rr + w2 < hh * v2
    · have hlt := hg3 hh rr hsum (by omega)
      repeat refine zW ?_
      simp only [NV, Nat.reduceEqDiff, reduceCtorEq]
      first
        | rw [EC_cond_true rfl]
        | rw [EC_cond_true (by show Value.bool (decide _) = _; rw [decide_eq_true (Int.ofNat_lt.2 htest)])]
      simp only [NV, Nat.reduceEqDiff, reduceCtorEq]
      repeat refine zW ?_
      simp only [NV, Nat.reduceEqDiff, reduceCtorEq]
      repeat refine zW ?_
      simp only [NV, Nat.reduceEqDiff, reduceCtorEq]
      by_cases hge : 4294967296 ≤ rr + v1
      · repeat refine zW ?_
        simp only [NV, Nat.reduceEqDiff, reduceCtorEq]
        rw [EC_cond_true rfl]
        simp only [NV, Nat.reduceEqDiff, reduceCtorEq]
        have hb := hbrk hlt hge
        exact hQ _ g hgg.symm ⟨rfl, rfl, rfl, rfl, rfl, rfl, rfl, by show Value.int .u64 _ = Value.int .u64 _; rw [hb], trivial⟩
      · repeat refine zW ?_
        simp only [NV, Nat.reduceEqDiff, reduceCtorEq]
        rw [EC_cond_false rfl]
        simp only [NV, Nat.reduceEqDiff, reduceCtorEq]
        exact goOn (hh - 1, rr + v1) (by show hh - 1 < hh; omega) ⟨rfl, rfl, rfl, rfl, rfl, rfl, rfl, rfl, rfl, trivial⟩ ⟨rfl, rfl, rfl, hstep hlt, by show g ≤ hh - 1; omega, by show rr + v1 < _; omega⟩
    · repeat refine zW ?_
      simp only [NV, Nat.reduceEqDiff, reduceCtorEq]
      first
        | rw [EC_cond_false rfl]
        | rw [EC_cond_false (by show Value.bool (decide _) = _; rw [decide_eq_false (fun h => htest (Int.ofNat_lt.1 h))])]
      simp only [NV, Nat.reduceEqDiff, reduceCtorEq]
      have hb := hend hh rr hsum hgh (by omega)
      exact hQ _ g hgg.symm ⟨rfl, rfl, rfl, rfl, rfl, rfl, rfl, by show Value.int .u64 _ = Value.int .u64 _; rw [hb], trivial⟩
end
end Go.Proofs.YtokfihhdllmbmaaGreatDoor
namespace Go.Proofs.YtokfihhdllmbmaaGreatDoor
open Go Go.GL
def len8 : List UInt8 := [0, 1, 2, 2, 3, 3, 3, 3, 4, 4, 4, 4, 4, 4, 4, 4, 5, 5, 5, 5, 5, 5, 5, 5, 5, 5, 5, 5, 5, 5, 5, 5, 6, 6, 6, 6, 6, 6, 6, 6, 6, 6, 6, 6, 6, 6, 6, 6, 6, 6, 6, 6, 6, 6, 6, 6, 6, 6, 6, 6, 6, 6, 6, 6, 7, 7, 7, 7, 7, 7, 7, 7, 7, 7, 7, 7, 7, 7, 7, 7, 7, 7, 7, 7, 7, 7, 7, 7, 7, 7, 7, 7, 7, 7, 7, 7, 7, 7, 7, 7, 7, 7, 7, 7, 7, 7, 7, 7, 7, 7, 7, 7, 7, 7, 7, 7, 7, 7, 7, 7, 7, 7, 7, 7, 7, 7, 7, 7, 8, 8, 8, 8, 8, 8, 8, 8, 8, 8, 8, 8, 8, 8, 8, 8, 8, 8, 8, 8, 8, 8, 8, 8, 8, 8, 8, 8, 8, 8, 8, 8, 8, 8, 8, 8, 8, 8, 8, 8, 8, 8, 8, 8, 8, 8, 8, 8, 8, 8, 8, 8, 8, 8, 8, 8, 8, 8, 8, 8, 8, 8, 8, 8, 8, 8, 8, 8, 8, 8, 8, 8, 8, 8, 8, 8, 8, 8, 8, 8, 8, 8, 8, 8, 8, 8, 8, 8, 8, 8, 8, 8, 8, 8, 8, 8, 8, 8, 8, 8, 8, 8, 8, 8, 8, 8, 8, 8, 8, 8, 8, 8, 8, 8, 8, 8, 8, 8, 8, 8, 8, 8, 8, 8, 8, 8, 8, 8]
theorem len8_at : ∀ i, i < 256 → ∃ b, len8[i]? = some b ∧ b.toNat ≤ 8 ∧ i < 2 ^ b.toNat ∧ (i ≠ 0 → 2 ^ b.toNat ≤ 2 * i) := by
  intro i hi
  have h : ∀ i : Fin 256, (len8[i.val]?).any (fun b => decide (b.toNat ≤ 8 ∧ i.val < 2 ^ b.toNat ∧ (i.val ≠ 0 → 2 ^ b.toNat ≤ 2 * i.val))) = true := by decide +kernel
  have := h ⟨i, hi⟩
  rw [Option.any_eq_true] at this
  obtain ⟨b, h1, h2⟩ := this
  exact ⟨b, h1, of_decide_eq_true h2⟩
theorem len_glue {x m i L : Nat} (hi : x / 2 ^ m = i) (h1 : i < 2 ^ L) (h2 : i ≠ 0 → 2 ^ L ≤ 2 * i) (h3 : m = 0 ∨ i ≠ 0) : x < 2 ^ (m + L) ∧ (x ≠ 0 → 2 ^ (m + L) ≤ 2 * x) := by
  have hp : 0 < 2 ^ m := Nat.pow_pos (by decide)
  have hm := Nat.div_add_mod x (2 ^ m)
  have hr := Nat.mod_lt x hp
  rw [hi] at hm
  rw [Nat.pow_add]
  constructor
  · have : 2 ^ m * (i + 1) ≤ 2 ^ m * 2 ^ L := Nat.mul_le_mul_left _ h1
    rw [Nat.mul_add, Nat.mul_one] at this
    omega
  · intro hx
    have hi0 : i ≠ 0 := by
      rcases h3 with rfl | h3
      · rw [Nat.pow_zero, Nat.div_one] at hi; omega
      · exact h3
    have := Nat.mul_le_mul_left (2 ^ m) (h2 hi0)
    rw [Nat.mul_left_comm] at this
    omega
set_option maxHeartbeats 1000000
theorem len64_ok (k : Nat) (h : HF) (n : Nat) {x : Nat} (hx : x < 18446744073709551616) : VF (cal (k + 1)) 264 [.int .u64 (x : Int)] h n fun v => ∃ m : Nat, v = .int .i64 (m : Int) ∧ m ≤ 64 ∧ x < 2 ^ m ∧ (x ≠ 0 → 2 ^ m ≤ 2 * x) := by
  refine CF_flat (fn := Tryz.f264) rfl rfl rfl rfl ?_
  have dd : ∀ m s, x / 2 ^ m / 2 ^ s = x / 2 ^ (m + s) := fun m s => by rw [Nat.div_div_eq_div_mul, ← Nat.pow_add]
  simp only [NV, Nat.reduceEqDiff, reduceCtorEq]
  repeat refine zR ?_
  simp only [NV, Nat.reduceEqDiff, reduceCtorEq]
  repeat refine zR ?_
  simp only [NV, Nat.reduceEqDiff, reduceCtorEq]
  refine EC_cutx (α := Nat × Nat) (fun z => [(0, .int .u64 (z.2 : Int)), (2, .int .i64 (z.1 : Int))]) (fun z h' n' w => h = h' ∧ n = n' ∧ w = [] ∧ x / 2 ^ z.1 = z.2 ∧ z.2 < 4294967296 ∧ z.1 ≤ 32 ∧ (z.1 = 0 ∨ z.2 ≠ 0)) ?_ ?_
  · by_cases hge : 4294967296 ≤ x
    · rw [EC_cond_true (by show Value.bool (decide _) = _; rw [decide_eq_true (by omega)])]
      simp only [NV, Nat.reduceEqDiff, reduceCtorEq]
      refine zM ?_
      refine st_shr_u64 (a := x) (s := 32) rfl rfl rfl rfl rfl rfl (by decide) ?_
      repeat refine zR ?_
      simp only [NV, Nat.reduceEqDiff, reduceCtorEq]
      repeat refine zR ?_
      simp only [NV, Nat.reduceEqDiff, reduceCtorEq]
      exact cutx_mk (32, x / 2 ^ 32) ⟨rfl, rfl, trivial⟩ ⟨rfl, rfl, rfl, rfl, by show x / 2 ^ 32 < _; omega, Nat.le_refl 32, .inr (by show x / 2 ^ 32 ≠ 0; omega)⟩
    · rw [EC_cond_false (by show Value.bool (decide _) = _; rw [decide_eq_false (by omega)])]
      simp only [NV, Nat.reduceEqDiff, reduceCtorEq]
      exact cutx_mk (0, x) ⟨rfl, rfl, trivial⟩ ⟨rfl, rfl, rfl, by show x / 2 ^ 0 = x; rw [Nat.pow_zero, Nat.div_one], by show x < _; omega, Nat.zero_le 32, .inl rfl⟩
  rintro ⟨m, i⟩ t _ _ _ ⟨rfl, rfl, rfl, h1, h2, h3, h4⟩
  simp only at h1 h2 h3 h4
  simp only [NV, Nat.reduceEqDiff, reduceCtorEq]
  repeat refine zR ?_
  simp only [NV, Nat.reduceEqDiff, reduceCtorEq]
  refine EC_cutx (α := Nat × Nat) (fun z => [(0, .int .u64 (z.2 : Int)), (2, .int .i64 (z.1 : Int))]) (fun z h' n' w => h = h' ∧ n = n' ∧ w = [] ∧ x / 2 ^ z.1 = z.2 ∧ z.2 < 65536 ∧ z.1 ≤ 48 ∧ (z.1 = 0 ∨ z.2 ≠ 0)) ?_ ?_
  · by_cases hge : 65536 ≤ i
    · rw [EC_cond_true (by show Value.bool (decide _) = _; rw [decide_eq_true (by omega)])]
      simp only [NV, Nat.reduceEqDiff, reduceCtorEq]
      refine zM ?_
      refine st_shr_u64 (a := i) (s := 16) rfl rfl rfl rfl rfl rfl (by decide) ?_
      repeat refine zR ?_
      simp only [NV, Nat.reduceEqDiff, reduceCtorEq]
      repeat refine zR ?_
      simp only [NV, Nat.reduceEqDiff, reduceCtorEq]
      exact cutx_mk (m + 16, i / 2 ^ 16) ⟨rfl, rfl, trivial⟩ ⟨rfl, rfl, rfl, by show x / 2 ^ (m + 16) = i / 2 ^ 16; rw [← h1, dd], by show i / 2 ^ 16 < _; omega, by show m + 16 ≤ 48; omega, .inr (by show i / 2 ^ 16 ≠ 0; omega)⟩
    · rw [EC_cond_false (by show Value.bool (decide _) = _; rw [decide_eq_false (by omega)])]
      simp only [NV, Nat.reduceEqDiff, reduceCtorEq]
      exact cutx_mk (m, i) ⟨rfl, rfl, trivial⟩ ⟨rfl, rfl, rfl, h1, by show i < _; omega, by show m ≤ 48; omega, h4⟩
  clear h1 h2 h3 h4
  rintro ⟨m, i⟩ t _ _ _ ⟨rfl, rfl, rfl, h1, h2, h3, h4⟩
  simp only at h1 h2 h3 h4
  simp only [NV, Nat.reduceEqDiff, reduceCtorEq]
  repeat refine zR ?_
  simp only [NV, Nat.reduceEqDiff, reduceCtorEq]
  refine EC_cutx (α := Nat × Nat) (fun z => [(0, .int .u64 (z.2 : Int)), (2, .int .i64 (z.1 : Int))]) (fun z h' n' w => h = h' ∧ n = n' ∧ w = [] ∧ x / 2 ^ z.1 = z.2 ∧ z.2 < 256 ∧ z.1 ≤ 56 ∧ (z.1 = 0 ∨ z.2 ≠ 0)) ?_ ?_
  · by_cases hge : 256 ≤ i
    · rw [EC_cond_true (by show Value.bool (decide _) = _; rw [decide_eq_true (by omega)])]
      simp only [NV, Nat.reduceEqDiff, reduceCtorEq]
      refine zM ?_
      refine st_shr_u64 (a := i) (s := 8) rfl rfl rfl rfl rfl rfl (by decide) ?_
      repeat refine zR ?_
      simp only [NV, Nat.reduceEqDiff, reduceCtorEq]
      repeat refine zR ?_
      simp only [NV, Nat.reduceEqDiff, reduceCtorEq]
      exact cutx_mk (m + 8, i / 2 ^ 8) ⟨rfl, rfl, trivial⟩ ⟨rfl, rfl, rfl, by show x / 2 ^ (m + 8) = i / 2 ^ 8; rw [← h1, dd], by show i / 2 ^ 8 < _; omega, by show m + 8 ≤ 56; omega, .inr (by show i / 2 ^ 8 ≠ 0; omega)⟩
    · rw [EC_cond_false (by show Value.bool (decide _) = _; rw [decide_eq_false (by omega)])]
      simp only [NV, Nat.reduceEqDiff, reduceCtorEq]
      exact cutx_mk (m, i) ⟨rfl, rfl, trivial⟩ ⟨rfl, rfl, rfl, h1, by show i < _; omega, by show m ≤ 56; omega, h4⟩
  clear h1 h2 h3 h4
  rintro ⟨m, i⟩ t _ _ _ ⟨rfl, rfl, rfl, h1, h2, h3, h4⟩
  simp only at h1 h2 h3 h4
  obtain ⟨b, hb, hb8, hb1, hb2⟩ := len8_at i h2
  simp only [NV, Nat.reduceEqDiff, reduceCtorEq]
  refine zM ?_
  refine zM ?_
  refine st_conv_u8 (a := i) rfl rfl rfl rfl rfl rfl rfl ?_
  rw [Nat.mod_eq_of_lt h2]
  refine st_byte (s := len8) (j := i) (b := b) rfl rfl rfl rfl rfl rfl rfl rfl hb ?_
  refine st_conv_i64 (a := (b.toNat : Int)) rfl rfl rfl rfl rfl rfl rfl (by omega) ?_
  repeat refine zR ?_
  simp only [NV, Nat.reduceEqDiff, reduceCtorEq]
  obtain ⟨g1, g2⟩ := len_glue h1 hb1 hb2 h4
  exact retF _ rfl (resF_tmp rfl) rfl rfl ⟨m + b.toNat, rfl, by omega, g1, g2⟩
theorem lz64_ok (k : Nat) (h : HF) (n : Nat) {x : Nat} (hx : x < 18446744073709551616) (h0 : x ≠ 0) : VF (cal (k + 2)) 238 [.int .u64 (x : Int)] h n fun v => ∃ s : Nat, v = .int .i64 (s : Int) ∧ s < 64 ∧ 9223372036854775808 ≤ x * 2 ^ s ∧ x * 2 ^ s < 18446744073709551616 := by
  refine CF_flat (fn := Tryz.f238) rfl rfl rfl rfl ?_
  simp only [NV, Nat.reduceEqDiff, reduceCtorEq]
  repeat refine zR ?_
  simp only [NV, Nat.reduceEqDiff, reduceCtorEq]
  repeat refine zR ?_
  refine st_vf _ rfl rfl rfl rfl rfl (len64_ok k h n hx) ?_
  rintro _ ⟨m, rfl, hm, h1, h2⟩
  repeat refine zR ?_
  simp only [NV, Nat.reduceEqDiff, reduceCtorEq]
  have hm1 : m ≠ 0 := fun e => by subst e; simp at h1; omega
  refine retF _ rfl (resF_tmp rfl) rfl rfl ⟨64 - m, by show Value.int .i64 _ = Value.int .i64 _; congr 1; omega, by omega, ?_, ?_⟩
  · have h3 := Nat.mul_le_mul_right (2 ^ (64 - m)) (h2 h0)
    rw [← Nat.pow_add, show m + (64 - m) = 64 from by omega, Nat.mul_assoc] at h3
    have e64 : (2 : Nat) ^ 64 = 18446744073709551616 := rfl
    omega
  · have h3 := Nat.mul_lt_mul_of_pos_right h1 (Nat.pow_pos (n := 64 - m) (show 0 < 2 by decide))
    rw [← Nat.pow_add, show m + (64 - m) = 64 from by omega] at h3
    exact h3
end Go.Proofs.YtokfihhdllmbmaaGreatDoor
namespace Go.Proofs.YtokfihhdllmbmaaGreatDoor
open Go Go.GL
theorem div64_law {U y s Q r : Nat} (h : U * 2 ^ s = Q * (y * 2 ^ s) + r) (hr : r < y * 2 ^ s) : U / y = Q ∧ U % y = r / 2 ^ s := by
  have hp : 0 < 2 ^ s := Nat.pow_pos (by decide)
  have hy : 0 < y := Nat.pos_of_ne_zero fun e => by rw [e, Nat.zero_mul] at hr; omega
  have h1 : U * 2 ^ s / (y * 2 ^ s) = Q := by
    rw [h, Nat.add_comm, Nat.add_mul_div_right _ _ (by omega), Nat.div_eq_of_lt hr, Nat.zero_add]
  have h2 : U * 2 ^ s % (y * 2 ^ s) = r := by
    rw [h, Nat.add_comm, Nat.add_mul_mod_self_right, Nat.mod_eq_of_lt hr]
  rw [Nat.mul_div_mul_right _ _ hp] at h1
  rw [Nat.mul_mod_mul_right] at h2
  exact ⟨h1, by rw [← h2, Nat.mul_div_cancel _ hp]⟩
theorem shl_split {lo s : Nat} (hs : s ≤ 64) : lo * 2 ^ s = lo / 2 ^ (64 - s) * 18446744073709551616 + lo * 2 ^ s % 18446744073709551616 := by
  have e : lo * 2 ^ s / 18446744073709551616 = lo / 2 ^ (64 - s) := by
    rw [show (18446744073709551616 : Nat) = 2 ^ (64 - s) * 2 ^ s from by rw [← Nat.pow_add, show 64 - s + s = 64 from by omega], Nat.mul_div_mul_right _ _ (Nat.pow_pos (by decide))]
  have := Nat.div_add_mod (lo * 2 ^ s) 18446744073709551616
  rw [e, Nat.mul_comm] at this
  exact this.symm
theorem or_add {a b s : Nat} (hb : b < 2 ^ s) : a * 2 ^ s ||| b = a * 2 ^ s + b := by
  have := Nat.shiftLeft_add_eq_or_of_lt hb a
  rw [Nat.shiftLeft_eq] at this
  exact this.symm
theorem div64_glue {top N q1 q0 r1 r0 Y Z : Nat} (h1 : q1 * Y + r1 = top * 4294967296 + N / 4294967296) (h2 : q0 * Y + r0 = r1 * 4294967296 + N % 4294967296) (hZ : Z = Y) : top * 18446744073709551616 + N = (q1 * 4294967296 + q0) * Z + r0 := by
  subst hZ
  have e : (q1 * 4294967296 + q0) * Z = q1 * Z * 4294967296 + q0 * Z := by rw [Nat.add_mul, Nat.mul_right_comm]
  rw [e]
  omega
set_option maxHeartbeats 2000000
set_option maxRecDepth 100000
theorem div64_ok (k : Nat) (h : HF) (n : Nat) {hi lo y : Nat} (hhi : hi < y) (hlo : lo < 18446744073709551616) (hy : y < 18446744073709551616) : VF (cal (k + 3)) 244 [.int .u64 (hi : Int), .int .u64 (lo : Int), .int .u64 (y : Int)] h n fun v => v = .tuple #[.int .u64 (((hi * 18446744073709551616 + lo) / y : Nat) : Int), .int .u64 (((hi * 18446744073709551616 + lo) % y : Nat) : Int)] := by
  refine CF_flat (fn := Tryz.f244) rfl rfl rfl rfl ?_
  simp only [NV, Nat.reduceEqDiff, reduceCtorEq]
  repeat refine zR ?_
  simp only [NV, Nat.reduceEqDiff, reduceCtorEq]
  repeat refine zR ?_
  simp only [NV, Nat.reduceEqDiff, reduceCtorEq]
  rw [EC_cond_false rfl]
  simp only [NV, Nat.reduceEqDiff, reduceCtorEq]
  repeat refine zR ?_
  simp only [NV, Nat.reduceEqDiff, reduceCtorEq]
  rw [EC_cond_false rfl]
  simp only [NV, Nat.reduceEqDiff, reduceCtorEq]
  by_cases h0 : hi = 0
  · subst h0
    repeat refine zR ?_
    simp only [NV, Nat.reduceEqDiff, reduceCtorEq]
    rw [EC_cond_true rfl]
    simp only [NV, Nat.reduceEqDiff, reduceCtorEq]
    rw [EC_quiet rfl]
    refine zM ?_
    refine zM ?_
    refine st_div_u64 (a := lo) (b := y) rfl rfl rfl rfl rfl rfl (by omega) ?_
    refine zM ?_
    refine zM ?_
    refine st_rem_u64 (a := lo) (b := y) rfl rfl rfl rfl rfl rfl (by omega) ?_
    repeat refine zR ?_
    simp only [NV, Nat.reduceEqDiff, reduceCtorEq]
    exact retF [.int .u64 _, .int .u64 _] rfl rfl rfl rfl (by rw [Nat.zero_mul, Nat.zero_add]; rfl)
  repeat refine zR ?_
  simp only [NV, Nat.reduceEqDiff, reduceCtorEq]
  rw [EC_cond_false rfl]
  simp only [NV, Nat.reduceEqDiff, reduceCtorEq]
  refine zM ?_
  refine st_vf _ rfl rfl rfl rfl rfl (lz64_ok k h n hy (by omega)) ?_
  rintro _ ⟨s, rfl, hs, hY1, hY2⟩
  refine st_cv64 (c := s) rfl rfl rfl rfl rfl rfl rfl (by omega) ?_
  repeat refine zR ?_
  simp only [NV, Nat.reduceEqDiff, reduceCtorEq]
  refine zM ?_
  refine zM ?_
  refine st_shl_u64 (a := y) (s := s) rfl rfl rfl rfl rfl rfl (by omega) ?_
  rw [Nat.mod_eq_of_lt hY2]
  have hp : 0 < 2 ^ s := Nat.pow_pos (by decide)
  have hhs : hi * 2 ^ s + 2 ^ s ≤ y * 2 ^ s := by
    have := Nat.mul_le_mul_right (2 ^ s) (show hi + 1 ≤ y from hhi)
    rw [Nat.add_mul, Nat.one_mul] at this
    exact this
  have hlow : lo / 2 ^ (64 - s) < 2 ^ s := by
    rw [Nat.div_lt_iff_lt_mul (Nat.pow_pos (by decide)), ← Nat.pow_add, show s + (64 - s) = 64 from by omega]
    exact hlo
  have hsp := shl_split (lo := lo) (s := s) (by omega)
  have hmod : lo * 2 ^ s % 18446744073709551616 < 18446744073709551616 := Nat.mod_lt _ (by decide)
  have hU : (hi * 18446744073709551616 + lo) * 2 ^ s = (hi * 2 ^ s + lo / 2 ^ (64 - s)) * 18446744073709551616 + lo * 2 ^ s % 18446744073709551616 := by
    rw [Nat.add_mul, Nat.add_mul, Nat.mul_right_comm]
    omega
  clear hsp
  repeat refine zR ?_
  simp only [NV, Nat.reduceEqDiff, reduceCtorEq]
  generalize hYe : y * 2 ^ s = Y at hY1 hY2 hhs ⊢
  repeat refine zW ?_
  simp only [NV, Nat.reduceEqDiff, reduceCtorEq]
  repeat refine zW ?_
  simp only [NV, Nat.reduceEqDiff, reduceCtorEq]
  refine zM ?_
  refine zM ?_
  refine st_shl_u64 (a := hi) (s := s) rfl rfl rfl rfl rfl rfl (by omega) ?_
  rw [Nat.mod_eq_of_lt (show hi * 2 ^ s < 18446744073709551616 by omega)]
  refine zM ?_
  refine zM ?_
  refine st_sub_u64 (a := 64) (b := s) rfl rfl rfl rfl rfl rfl (by omega) ?_
  refine st_shr_u64 (a := lo) (s := 64 - s) rfl rfl rfl rfl rfl rfl (by omega) ?_
  refine st_or_u64 (a := hi * 2 ^ s) (b := lo / 2 ^ (64 - s)) rfl rfl rfl rfl rfl rfl (by omega) ?_
  rw [or_add hlow]
  have htop : hi * 2 ^ s + lo / 2 ^ (64 - s) < Y := by omega
  generalize hi * 2 ^ s + lo / 2 ^ (64 - s) = top at hU htop ⊢
  repeat refine zR ?_
  simp only [NV, Nat.reduceEqDiff, reduceCtorEq]
  refine zM ?_
  refine zM ?_
  refine st_shl_u64 (a := lo) (s := s) rfl rfl rfl rfl rfl rfl (by omega) ?_
  generalize lo * 2 ^ s % 18446744073709551616 = N at hU hmod ⊢
  repeat refine zR ?_
  simp only [NV, Nat.reduceEqDiff, reduceCtorEq]
  repeat refine zW ?_
  simp only [NV, Nat.reduceEqDiff, reduceCtorEq]
  repeat refine zW ?_
  simp only [NV, Nat.reduceEqDiff, reduceCtorEq]
  obtain ⟨v1, hv1⟩ : ∃ v1, v1 = Y / 4294967296 := ⟨_, rfl⟩
  obtain ⟨v2, hv2⟩ : ∃ v2, v2 = Y % 4294967296 := ⟨_, rfl⟩
  have hYv : v1 * 4294967296 + v2 = Y := by omega
  rw [← hv1, ← hv2]
  refine zM ?_
  refine zM ?_
  refine st_div_u64 (a := top) (b := v1) rfl rfl rfl rfl rfl rfl (by omega) ?_
  repeat refine zR ?_
  simp only [NV, Nat.reduceEqDiff, reduceCtorEq]
  have hdm : top / v1 * v1 + top % v1 = top := by rw [Nat.mul_comm]; exact Nat.div_add_mod _ _
  refine zM ?_
  refine zM ?_
  refine zM ?_
  refine st_mul_u64 (a := top / v1) (b := v1) rfl rfl rfl rfl rfl rfl (by omega) ?_
  refine st_sub_u64 (a := top) (b := top / v1 * v1) rfl rfl rfl rfl rfl rfl (by omega) ?_
  rw [show top - top / v1 * v1 = top % v1 from by omega]
  repeat refine zR ?_
  simp only [EC_seq, EC_region, EC_skip, EO_nil, after_normal]
  refine div64_est1 (va := .int .u64 (Y : Int)) (vb := .int .u64 (s : Int)) (vc := .int .u64 (top : Int)) (vd := .int .u64 ((N % 4294967296 : Nat) : Int)) (v1 := v1) (v2 := v2) (w2 := N / 4294967296) (top := top) (by omega) (by omega) (by omega) (by omega) rfl ⟨rfl, rfl, rfl, rfl, rfl, rfl, rfl, rfl, rfl, trivial⟩ ?_
  intro t2 q1 hq1e hA
  rw [← chain_self hA]
  clear hA
  rw [hYv] at hq1e
  obtain ⟨r1, hr1e⟩ : ∃ r1, r1 = (top * 4294967296 + N / 4294967296) % Y := ⟨_, rfl⟩
  have hT1 := Nat.div_add_mod (top * 4294967296 + N / 4294967296) Y
  have hr1 := Nat.mod_lt (top * 4294967296 + N / 4294967296) (show 0 < Y by omega)
  rw [← hr1e] at hr1
  rw [← hq1e, ← hr1e] at hT1
  clear hq1e hr1e
  rw [Nat.mul_comm] at hT1
  simp only [EC_seq, EC_region, EC_skip, EO_nil, after_normal]
  refine zM ?_
  refine st_mulw_u64 (a := top) (b := 4294967296) rfl rfl rfl rfl rfl rfl ?_
  refine zM ?_
  refine st_addw_u64 (a := top * 4294967296 % 18446744073709551616) (b := N / 4294967296) rfl rfl rfl rfl rfl rfl ?_
  refine zM ?_
  refine zM ?_
  refine st_mulw_u64 (a := q1) (b := Y) rfl rfl rfl rfl rfl rfl ?_
  refine st_subw_u64 (a := (top * 4294967296 % 18446744073709551616 + N / 4294967296) % 18446744073709551616) (b := q1 * Y % 18446744073709551616) rfl rfl rfl rfl rfl rfl (by omega) ?_
  rw [show ((top * 4294967296 % 18446744073709551616 + N / 4294967296) % 18446744073709551616 + 18446744073709551616 - q1 * Y % 18446744073709551616) % 18446744073709551616 = r1 from by omega]
  repeat refine zR ?_
  simp only [EC_seq, EC_region, EC_skip, EO_nil, after_normal]
  refine zM ?_
  refine zM ?_
  refine st_div_u64 (a := r1) (b := v1) rfl rfl rfl rfl rfl rfl (by omega) ?_
  repeat refine zR ?_
  simp only [EC_seq, EC_region, EC_skip, EO_nil, after_normal]
  have hdm : r1 / v1 * v1 + r1 % v1 = r1 := by rw [Nat.mul_comm]; exact Nat.div_add_mod _ _
  refine zM ?_
  refine zM ?_
  refine zM ?_
  refine st_mul_u64 (a := r1 / v1) (b := v1) rfl rfl rfl rfl rfl rfl (by omega) ?_
  refine st_sub_u64 (a := r1) (b := r1 / v1 * v1) rfl rfl rfl rfl rfl rfl (by omega) ?_
  rw [show r1 - r1 / v1 * v1 = r1 % v1 from by omega]
  repeat refine zR ?_
  simp only [EC_seq, EC_region, EC_skip, EO_nil, after_normal]
  refine div64_est2 (va := .int .u64 (Y : Int)) (vb := .int .u64 (s : Int)) (vc := .int .u64 (q1 : Int)) (vd := .int .u64 (r1 : Int)) (v1 := v1) (v2 := v2) (w2 := N % 4294967296) (top := r1) (by omega) (by omega) (by omega) (by omega) rfl ⟨rfl, rfl, rfl, rfl, rfl, rfl, rfl, rfl, rfl, trivial⟩ ?_
  intro t3 q0 hq0e hA
  rw [← chain_self hA]
  clear hA
  rw [hYv] at hq0e
  obtain ⟨r0, hr0e⟩ : ∃ r0, r0 = (r1 * 4294967296 + N % 4294967296) % Y := ⟨_, rfl⟩
  have hT2 := Nat.div_add_mod (r1 * 4294967296 + N % 4294967296) Y
  have hr2 := Nat.mod_lt (r1 * 4294967296 + N % 4294967296) (show 0 < Y by omega)
  have hq0 : (r1 * 4294967296 + N % 4294967296) / Y < 4294967296 := by
    rw [Nat.div_lt_iff_lt_mul (by omega)]
    have : (r1 + 1) * 4294967296 ≤ Y * 4294967296 := Nat.mul_le_mul_right _ hr1
    rw [Nat.mul_comm 4294967296]
    omega
  rw [← hq0e] at hq0
  rw [← hr0e] at hr2
  rw [← hq0e, ← hr0e] at hT2
  clear hq0e hr0e
  have hq1 : q1 < 4294967296 := by
    apply Classical.byContradiction
    intro hn
    have h1 : 4294967296 * Y ≤ q1 * Y := Nat.mul_le_mul_right _ (by omega)
    have h2 : (top + 1) * 4294967296 ≤ Y * 4294967296 := Nat.mul_le_mul_right _ htop
    omega
  rw [Nat.mul_comm] at hT2
  simp only [NV, Nat.reduceEqDiff, reduceCtorEq]
  refine zM ?_
  refine st_mul_u64 (a := q1) (b := 4294967296) rfl rfl rfl rfl rfl rfl (by omega) ?_
  refine zM ?_
  refine st_add_u64 (a := q1 * 4294967296) (b := q0) rfl rfl rfl rfl rfl rfl (by omega) ?_
  refine zM ?_
  refine st_mulw_u64 (a := r1) (b := 4294967296) rfl rfl rfl rfl rfl rfl ?_
  refine zM ?_
  refine st_addw_u64 (a := r1 * 4294967296 % 18446744073709551616) (b := N % 4294967296) rfl rfl rfl rfl rfl rfl ?_
  refine zM ?_
  refine zM ?_
  refine st_mulw_u64 (a := q0) (b := Y) rfl rfl rfl rfl rfl rfl ?_
  refine st_subw_u64 (a := (r1 * 4294967296 % 18446744073709551616 + N % 4294967296) % 18446744073709551616) (b := q0 * Y % 18446744073709551616) rfl rfl rfl rfl rfl rfl (by omega) ?_
  rw [show ((r1 * 4294967296 % 18446744073709551616 + N % 4294967296) % 18446744073709551616 + 18446744073709551616 - q0 * Y % 18446744073709551616) % 18446744073709551616 = r0 from by omega]
  refine zM ?_
  refine st_shr_u64 (a := r0) (s := s) rfl rfl rfl rfl rfl rfl (by omega) ?_
  repeat refine zR ?_
  simp only [NV, Nat.reduceEqDiff, reduceCtorEq]
  have hfin := div64_law (U := hi * 18446744073709551616 + lo) (y := y) (s := s) (Q := q1 * 4294967296 + q0) (r := r0) (hU.trans (div64_glue hT1 hT2 hYe)) (by rw [hYe]; exact hr2)
  refine retF [.int .u64 _, .int .u64 _] rfl rfl rfl rfl ?_
  rw [hfin.1, hfin.2]
  rfl
end Go.Proofs.YtokfihhdllmbmaaGreatDoor
namespace Go.Proofs.YtokfihhdllmbmaaGreatDoor
open Go Go.GL
theorem wdiv_step {d r V Vq a : Nat} (hd : 0 < d) (hV : V = d * Vq + r) : (a + 18446744073709551616 * V) / d = (r * 18446744073709551616 + a) / d + 18446744073709551616 * Vq ∧ (a + 18446744073709551616 * V) % d = (r * 18446744073709551616 + a) % d := by
  have e : a + 18446744073709551616 * V = (r * 18446744073709551616 + a) + d * (18446744073709551616 * Vq) := by
    rw [hV, Nat.mul_add, Nat.mul_left_comm]
    omega
  rw [e]
  exact ⟨Nat.add_mul_div_left _ _ hd, Nat.add_mul_mod_self_left _ _ _⟩
theorem wv_drop {l : List Nat} {j a : Nat} (h : l[j]? = some a) : wv (l.drop j) = a + 18446744073709551616 * wv (l.drop (j + 1)) := by
  rw [drop_cons h]; rfl
set_option maxHeartbeats 1000000
theorem remWord_ok (k : Nat) {h : HF} {n : Nat} {a : Option Addr} {len cap : Nat} {l : List Nat} {d : Nat} (hb : l.length < 1099511627) (hl : WdD l) (hd : 0 < d ∧ d < 18446744073709551616) (hv : Sl h n 1 (.slice a len cap) (u64s l)) :
    VF (cal (k + 4)) 211 [.slice a len cap, .int .u64 (d : Int)] h n fun v => v = .int .u64 ((wv l % d : Nat) : Int) := by
  refine CF_flat (fn := Tryz.f211) rfl rfl rfl rfl ?_
  have hlen0 := hv.lenW
  subst hlen0
  simp only [NV, Nat.reduceEqDiff, reduceCtorEq]
  repeat refine zR ?_
  simp only [NV, Nat.reduceEqDiff, reduceCtorEq]
  repeat refine zR ?_
  simp only [NV, Nat.reduceEqDiff, reduceCtorEq]
  repeat refine zR ?_
  simp only [NV, Nat.reduceEqDiff, reduceCtorEq]
  refine EC_for (α := Nat × Nat) (fun x => [(0, .slice a l.length cap), (1, .int .u64 (d : Int)), (5, .int .u64 (x.2 : Int)), (6, .int .i64 ((x.1 : Int) - 1))])
    (fun x h' n' w => h = h' ∧ n = n' ∧ w = [] ∧ x.1 ≤ l.length ∧ x.2 = wv (l.drop x.1) % d) (fun x => x.1)
    (l.length, 0) ⟨rfl, rfl, rfl, rfl, trivial⟩ ⟨rfl, rfl, rfl, Nat.le_refl _, by rw [List.drop_length]; exact (Nat.zero_mod _).symm⟩ (by show l.length < LL; unfold LL; omega) ?_
  rintro ⟨j, r⟩ t _ _ _ ⟨rfl, rfl, rfl, hj, hr⟩
  simp only at hj hr
  have hrd : r < d := by rw [hr]; exact Nat.mod_lt _ hd.1
  simp only [NV, Nat.reduceEqDiff, reduceCtorEq]
  cases j with
  | zero =>
    repeat refine zR ?_
    simp only [NV, Nat.reduceEqDiff, reduceCtorEq]
    rw [EC_cond_false rfl]
    simp only [NV, Nat.reduceEqDiff, reduceCtorEq]
    repeat refine zR ?_
    simp only [NV, Nat.reduceEqDiff, reduceCtorEq]
    exact retF _ rfl (resF_tmp rfl) rfl rfl (by rw [hr, List.drop_zero]; rfl)
  | succ j =>
    obtain ⟨x, hx⟩ : ∃ x, l[j]? = some x := ⟨l[j]'(by omega), List.getElem?_eq_getElem (by omega)⟩
    have hx' := hl.get hx
    repeat refine zR ?_
    simp only [NV, Nat.reduceEqDiff, reduceCtorEq]
    rw [EC_cond_true rfl]
    simp only [NV, Nat.reduceEqDiff, reduceCtorEq]
    repeat refine zR ?_
    refine st_at (f := fun d : Nat => Value.int .u64 (d : Int)) (j := j) rfl rfl rfl rfl rfl rfl rfl hv rfl (by omega) hx (fun _ => rfl) rfl rfl rfl rfl fun _ => ?_
    repeat refine zR ?_
    refine st_vf _ rfl rfl rfl rfl rfl (div64_ok k h n hrd hx' hd.2) ?_
    rintro _ rfl
    repeat refine zR ?_
    simp only [NV, Nat.reduceEqDiff, reduceCtorEq]
    repeat refine zR ?_
    simp only [NV, Nat.reduceEqDiff, reduceCtorEq]
    refine goOn (j, (r * 18446744073709551616 + x) % d) (by show j < j + 1; omega) ⟨rfl, rfl, rfl, by show Value.int .i64 _ = Value.int .i64 _; congr 1; omega, trivial⟩ ⟨rfl, rfl, rfl, by show j ≤ _; omega, ?_⟩
    show _ % d = wv (l.drop j) % d
    rw [wv_drop hx, (wdiv_step (V := wv (l.drop (j + 1))) (Vq := wv (l.drop (j + 1)) / d) (r := r) (a := x) hd.1 (by rw [hr]; exact (Nat.div_add_mod _ _).symm)).2]
end Go.Proofs.YtokfihhdllmbmaaGreatDoor
namespace Go.Proofs.YtokfihhdllmbmaaGreatDoor
open Go Go.GL
section
variable {X : CtxF} {ops r : List Oper} {t : TF} {h : HF} {n : Nat} {w : List Nat} {Q : SV → Prop} {o : Oper} {d : Tmp}
theorem st_bytes {ty e el : TypeId} {x : Operand} {s : List UInt8} (hw : wantsF ops t o = true) (hd : o.dst = some d) (hn : dstOk X.nt (some d) = true) (ho : o.op = .convert ty e x) (hx : evF t x = .string ⟨⟨s⟩⟩) (hm : bytesMk X.E ty e (.string ⟨⟨s⟩⟩) = some ⟨s.map fun b => Value.int .u8 b.toNat, el, true, some (s.length, s.length)⟩)
    (k : EO X ops r ⟨upd t d (.slice (some ⟨3 * n + 1, 0, none⟩) s.length s.length), upd h (3 * n + 1) (some (.row (s.map fun b => Value.int .u8 b.toNat) el)), n + 1, w⟩ Q) : EO X ops (o :: r) ⟨t, h, n, w⟩ Q := by
  obtain ⟨s', h1, h2⟩ := k
  refine ⟨s', ?_, h2⟩
  rw [seqF, hw]
  have hc : cls o.op = 4 := by rw [ho]; rfl
  have h3 : mkE X.E o.op (evF t) = some ⟨s.map fun b => Value.int .u8 b.toNat, el, true, some (s.length, s.length)⟩ := by rw [ho]; show bytesMk X.E ty e (evF t x) = _; rw [hx]; exact hm
  simp only [opF, hc, h3, mkF, doneF, hd, hn, addW]
  exact h1
end
theorem Gro.inv2 {h : HF} {lo n : Nat} {e : TypeId} {sz len : Nat} {v : Value} {c : List Value} (g : Gro h lo n e sz v len c) (h0 : len ≠ 0) : ∃ b, v = .slice (some ⟨b, 0, none⟩) len len ∧ gro b = true ∧ 3 * lo ≤ b ∧ b < 3 * n ∧ h b = some (.row c e) ∧ c.length = len * sz := by
  cases g with
  | nil => exact absurd rfl h0
  | at_ hg hlo hb hr hl ho => exact ⟨_, rfl, hg, hlo, hb, hr, hl⟩
theorem set_midW {E D : List Nat} {x : Nat} (d : Nat) (h : D[E.length]? = some x) : (E ++ D.drop E.length).set E.length d = (E ++ [d]) ++ D.drop (E ++ [d]).length := by
  rw [drop_cons h, List.set_append_right _ _ (Nat.le_refl _), Nat.sub_self]
  simp
theorem pow10_le {i : Nat} (h : i ≤ 19) : 10 ^ i ≤ 10000000000000000000 := Nat.pow_le_pow_right (by decide) h
theorem NW.len_pow {L : List Nat} {i : Nat} (h : NW L) (hv : wv L < 10 ^ i) : L.length ≤ i :=
  h.len_le (Nat.lt_of_lt_of_le hv (Nat.pow_le_pow_left (by decide) i))
theorem NW.of_low {L : List Nat} {i : Nat} (h : WdD L) (hl : L.length = i + 1) (hv : 18446744073709551616 ^ i ≤ wv L) : NW L := by
  obtain ⟨l, d, rfl⟩ := Go.Proofs.YtokfihhdllmbmaaGreatDoor.snoc (l := L) (by intro e; rw [e] at hl; simp at hl)
  refine ⟨h, trimL_pos l fun e => ?_⟩
  subst e
  rw [wv, dv_snoc, Nat.mul_zero, Nat.add_zero] at hv
  have h1 := dv_lt (B := 18446744073709551616) (l := l) fun x hx => h x (by simp [hx])
  simp at hl
  rw [hl] at h1
  omega
theorem mulc_lt {w b c : Nat} (hw : w < 18446744073709551616) (hb : b < 18446744073709551616) (hc : c < 18446744073709551616) : (w * b + c) / 18446744073709551616 < 18446744073709551616 := by
  rw [Nat.div_lt_iff_lt_mul (by decide)]
  have : w * b ≤ 18446744073709551615 * 18446744073709551615 := Nat.mul_le_mul (by omega) (by omega)
  omega
set_option maxHeartbeats 2000000
theorem parseSimple_ok (k : Nat) (h : HF) (n : Nat) {s : List UInt8} (hs : AllD s) (hl : s.length < 1000000) : CF (cal (k + 3)) 235 [.string ⟨⟨s⟩⟩] h n fun v h' n' w => ∃ L, ResW n h v h' n' w L ∧ wv L = dval s ∧ Fresh n v := by
  refine CF_heap (fn := Tryz.f235) rfl rfl rfl rfl ?_
  simp only [NV, Nat.reduceEqDiff, reduceCtorEq]
  repeat refine zR ?_
  simp only [NV, Nat.reduceEqDiff, reduceCtorEq]
  repeat refine zR ?_
  simp only [NV, Nat.reduceEqDiff, reduceCtorEq]
  refine EC_for (α := List UInt8 × List UInt8 × Value × List Nat) (fun z => [(0, .string ⟨⟨z.2.1⟩⟩), (3, z.2.2.1)])
    (fun z h' n' w => w = [] ∧ n ≤ n' ∧ Ext n h h' ∧ s = z.1 ++ z.2.1 ∧ Gro h' n n' 222 1 z.2.2.1 z.2.2.2.length (u64s z.2.2.2) ∧ NW z.2.2.2 ∧ wv z.2.2.2 = dval z.1) (fun z => z.2.1.length)
    ([], s, .slice none 0 0, []) ⟨rfl, rfl, trivial⟩ ⟨rfl, Nat.le_refl _, Ext.refl _ _, rfl, .nil, NW.nil, rfl⟩ (by show s.length < LL; unfold LL; omega) ?_
  rintro ⟨done, rest, v3, D⟩ t h1 n1 _ ⟨rfl, hn1, hx1, hsr, hgD, hND, hDv⟩
  simp only at hsr hgD hND hDv
  have hsl : done.length + rest.length < 1000000 := by rw [hsr, List.length_append] at hl; exact hl
  have hda : AllD done := fun b hb => hs b (by rw [hsr]; simp [hb])
  have hra : AllD rest := fun b hb => hs b (by rw [hsr]; simp [hb])
  have hDl : D.length ≤ done.length := hND.len_pow (by rw [hDv]; exact dval_lt hda)
  obtain ⟨a3, rfl, _⟩ := hgD.shape
  simp only [NV, Nat.reduceEqDiff, reduceCtorEq]
  by_cases hr0 : rest = []
  · subst hr0
    repeat refine zR ?_
    simp only [NV, Nat.reduceEqDiff, reduceCtorEq]
    rw [EC_cond_false rfl]
    simp only [NV, Nat.reduceEqDiff, reduceCtorEq]
    repeat refine zR ?_
    simp only [NV, Nat.reduceEqDiff, reduceCtorEq]
    rw [List.append_nil] at hsr
    exact retH _ rfl (resF_tmp rfl) rfl ⟨D, ⟨rfl, hn1, hx1, hgD.sl, hND⟩, by rw [hDv, hsr], hgD.fresh⟩
  have hrl : 0 < rest.length := List.length_pos_iff.2 hr0
  obtain ⟨sz, hsz⟩ : ∃ sz, sz = (rest.length - 1) % 19 + 1 := ⟨_, rfl⟩
  have hsz1 : 1 ≤ sz ∧ sz ≤ 19 ∧ sz ≤ rest.length := by omega
  have hCl : (rest.take sz).length = sz := by rw [List.length_take]; omega
  have hCa : AllD (rest.take sz) := fun b hb => hra b (List.mem_of_mem_take hb)
  refine zM ?_
  refine st_I (ik := .i64) (a := (rest.length : Int)) rfl rfl rfl rfl rfl ?_
  repeat refine zR ?_
  simp only [NV, Nat.reduceEqDiff, reduceCtorEq]
  rw [EC_cond_true rfl]
  simp only [NV, Nat.reduceEqDiff, reduceCtorEq]
  refine zM ?_
  refine st_I (ik := .i64) (a := (rest.length : Int)) rfl rfl rfl rfl rfl ?_
  refine st_sub (a := (rest.length : Int)) (b := 1) rfl rfl rfl rfl rfl rfl (by omega) ?_
  refine st_rem (a := (rest.length : Int) - 1) (b := 19) rfl rfl rfl rfl rfl rfl (by decide) ?_
  rw [show ((rest.length : Int) - 1).tmod 19 = (((rest.length - 1) % 19 : Nat) : Int) from by rw [show (rest.length : Int) - 1 = ((rest.length - 1 : Nat) : Int) from by omega]; rfl]
  refine st_add (a := (((rest.length - 1) % 19 : Nat) : Int)) (b := 1) rfl rfl rfl rfl rfl rfl (by omega) ?_
  rw [show (((rest.length - 1) % 19 : Nat) : Int) + 1 = (sz : Int) from by omega]
  repeat refine zR ?_
  simp only [NV, Nat.reduceEqDiff, reduceCtorEq]
  repeat refine zR ?_
  simp only [NV, Nat.reduceEqDiff, reduceCtorEq]
  refine zM ?_
  refine zM ?_
  refine st_strHi (s := rest) (j := sz) rfl rfl rfl rfl rfl rfl rfl rfl (by omega) ?_
  refine st_bytes (s := rest.take sz) rfl rfl rfl rfl rfl rfl ?_
  generalize hC : rest.take sz = C at hCl hCa ⊢
  generalize hh2 : upd h1 (3 * n1 + 1) _ = h2
  have hrow2 : ∃ el, h2 (3 * n1 + 1) = some (.row (C.map fun b => Value.int .u8 b.toNat) el) := ⟨_, by rw [← hh2, upd_same]⟩
  obtain ⟨el, hrow2⟩ := hrow2
  have hx2 : Ext n1 h1 h2 := by rw [← hh2]; exact Ext.upd (by omega)
  clear hh2
  have hgD2 := hgD.ext hx2 (Nat.le_succ n1)
  have hSC : Sl h2 (n1 + 1) 1 (.slice (some ⟨3 * n1 + 1, 0, none⟩) C.length C.length) (C.map fun b => Value.int .u8 (b.toNat : Int)) := .at_ (by omega) hrow2 rfl (Nat.le_refl _) (by simp) (by rw [List.drop_zero, List.take_of_length_le (by simp)])
  refine st_I (ik := .i64) (a := (C.length : Int)) rfl rfl rfl rfl rfl ?_
  repeat refine zR ?_
  simp only [NV, Nat.reduceEqDiff, reduceCtorEq]
  refine EC_for (α := Nat) (fun i => [(0, .string ⟨⟨rest⟩⟩), (3, .slice a3 D.length D.length), (4, .int .i64 (sz : Int)), (5, .int .u64 ((dval (C.take i) : Nat) : Int)), (6, .int .u64 ((10 ^ i : Nat) : Int)), (23, .slice (some ⟨3 * n1 + 1, 0, none⟩) C.length C.length), (24, .int .i64 (C.length : Int)), (25, .int .i64 (i : Int))]) (fun i h' n' w => h2 = h' ∧ n' = n1 + 1 ∧ w = [] ∧ i ≤ C.length) (fun i => C.length - i) 0 ⟨rfl, rfl, rfl, rfl, rfl, rfl, rfl, rfl, trivial⟩ ⟨rfl, rfl, rfl, Nat.zero_le _⟩ (by show C.length - 0 < LL; unfold LL; omega) ?_
  rintro i t _ _ _ ⟨rfl, rfl, rfl, hi⟩
  simp only [NV, Nat.reduceEqDiff, reduceCtorEq]
  by_cases hiC : i = C.length
  case neg =>
    obtain ⟨b, hb⟩ : ∃ b, C[i]? = some b := ⟨C[i]'(by omega), List.getElem?_eq_getElem (by omega)⟩
    have hbd := hCa b (List.mem_of_getElem? hb)
    have hlt : dval (C.take i) < 10 ^ i := by
      have := dval_lt (s := C.take i) fun b hb => hCa b (List.mem_of_mem_take hb)
      rw [List.length_take, Nat.min_eq_left (by omega)] at this
      exact this
    have hp := pow10_le (i := i + 1) (by omega)
    rw [Nat.pow_succ] at hp
    repeat refine zR ?_
    simp only [NV, Nat.reduceEqDiff, reduceCtorEq]
    rw [EC_cond_true rfl]
    simp only [NV, Nat.reduceEqDiff, reduceCtorEq]
    refine st_at (f := fun b : UInt8 => Value.int .u8 (b.toNat : Int)) (j := i) rfl rfl rfl rfl rfl rfl rfl hSC rfl rfl hb (fun _ => rfl) rfl rfl rfl rfl fun _ => ?_
    repeat refine zR ?_
    simp only [NV, Nat.reduceEqDiff, reduceCtorEq]
    refine zM ?_
    refine st_mul_u64 (a := 10) (b := dval (C.take i)) rfl rfl rfl rfl rfl rfl (by omega) ?_
    refine zM ?_
    refine st_sub_u8 (a := b.toNat) (b := 48) rfl rfl rfl rfl rfl rfl (by omega) ?_
    refine st_cv64 (c := b.toNat - 48) rfl rfl rfl rfl rfl rfl rfl (by omega) ?_
    refine st_add_u64 (a := 10 * dval (C.take i)) (b := b.toNat - 48) rfl rfl rfl rfl rfl rfl (by omega) ?_
    repeat refine zR ?_
    simp only [NV, Nat.reduceEqDiff, reduceCtorEq]
    refine zM ?_
    refine st_mul_u64 (a := 10 ^ i) (b := 10) rfl rfl rfl rfl rfl rfl (by omega) ?_
    repeat refine zR ?_
    simp only [NV, Nat.reduceEqDiff, reduceCtorEq]
    repeat refine zR ?_
    simp only [NV, Nat.reduceEqDiff, reduceCtorEq]
    refine goOn (i + 1) (by show C.length - (i + 1) < C.length - i; omega) ⟨rfl, rfl, rfl, ?_, ?_, rfl, rfl, rfl, trivial⟩ ⟨rfl, rfl, rfl, by show i + 1 ≤ _; omega⟩
    · show Value.int .u64 _ = Value.int .u64 _
      rw [take_snoc8 hb, dval_snoc]
    · show Value.int .u64 _ = Value.int .u64 _
      rw [Nat.pow_succ]
  subst hiC
  repeat refine zR ?_
  simp only [NV, Nat.reduceEqDiff, reduceCtorEq]
  rw [EC_cond_false rfl]
  simp only [NV, Nat.reduceEqDiff, reduceCtorEq]
  rw [List.take_length]
  refine zM ?_
  refine zM ?_
  refine st_strLo (s := rest) (j := sz) rfl rfl rfl rfl rfl rfl rfl rfl (by omega) ?_
  repeat refine zR ?_
  simp only [NV, Nat.reduceEqDiff, reduceCtorEq]
  repeat refine zR ?_
  simp only [NV, Nat.reduceEqDiff, reduceCtorEq]
  repeat refine zR ?_
  simp only [NV, Nat.reduceEqDiff, reduceCtorEq]
  have hCv : dval C < 10 ^ C.length := dval_lt hCa
  have hp := pow10_le (i := C.length) (by omega)
  refine EC_for (α := List Nat × Nat) (fun z => [(0, .string ⟨⟨rest.drop sz⟩⟩), (3, .slice a3 D.length D.length), (6, .int .u64 ((10 ^ C.length : Nat) : Int)), (9, .int .u64 (z.2 : Int)), (42, .slice a3 D.length D.length), (43, .int .i64 (D.length : Int)), (44, .int .i64 (z.1.length : Int))])
    (fun z h' n' w => n' = n1 + 1 ∧ w = [] ∧ Ext n h h' ∧ Gro h' n (n1 + 1) 222 1 (.slice a3 D.length D.length) D.length (u64s (z.1 ++ D.drop z.1.length)) ∧ z.1.length ≤ D.length ∧ WdD z.1 ∧ z.2 < 18446744073709551616 ∧ wv z.1 + z.2 * 18446744073709551616 ^ z.1.length = wv (D.take z.1.length) * 10 ^ C.length + dval C) (fun z => D.length - z.1.length)
    ([], dval C) ⟨rfl, rfl, rfl, rfl, rfl, rfl, rfl, trivial⟩ ⟨rfl, rfl, hx1.trans hx2 hn1, hgD2, Nat.zero_le _, WdD.nil, by show dval C < _; omega, by simp [wv, dv]⟩ (by show D.length - 0 < LL; unfold LL; omega) ?_
  rintro ⟨E, c⟩ t h3 _ _ ⟨rfl, rfl, hx3, hg3, hEl, hEd, hc, hV⟩
  simp only at hg3 hEl hEd hc hV
  simp only [NV, Nat.reduceEqDiff, reduceCtorEq]
  by_cases hED : E.length = D.length
  case neg =>
    obtain ⟨x, hx⟩ : ∃ x, D[E.length]? = some x := ⟨D[E.length]'(by omega), List.getElem?_eq_getElem (by omega)⟩
    have hxl := hND.1.get hx
    obtain ⟨b, hab, hgb, hb1, hb2, hrow, hlen⟩ := hg3.inv2 (by omega)
    injection hab with hab _ _
    subst hab
    have hD3 : Sl h3 (n1 + 1) 1 (.slice (some ⟨b, 0, none⟩) D.length D.length) (u64s (E ++ D.drop E.length)) := hg3.sl
    have hxe : (E ++ D.drop E.length)[E.length]? = some x := by rw [List.getElem?_append_right (Nat.le_refl _), Nat.sub_self, List.getElem?_drop, Nat.add_zero, hx]
    repeat refine zR ?_
    simp only [NV, Nat.reduceEqDiff, reduceCtorEq]
    rw [EC_cond_true rfl]
    simp only [NV, Nat.reduceEqDiff, reduceCtorEq]
    repeat refine zR ?_
    refine st_at (f := fun d : Nat => Value.int .u64 (d : Int)) (j := E.length) rfl rfl rfl rfl rfl rfl rfl hD3 rfl rfl hxe (fun _ => rfl) rfl rfl rfl rfl fun _ => ?_
    repeat refine zR ?_
    simp only [NV, Nat.reduceEqDiff, reduceCtorEq]
    repeat refine zR ?_
    refine st_vf _ rfl rfl rfl rfl rfl (mulAdd_ok k h3 (n1 + 1) hxl (show 10 ^ C.length < 18446744073709551616 by omega) hc) ?_
    rintro _ rfl
    repeat refine zR ?_
    refine st_put (j := E.length) (v := .int .u64 (((x * 10 ^ C.length + c) % 18446744073709551616 : Nat) : Int)) rfl rfl rfl rfl rfl rfl rfl rfl rfl (by rw [hlen]; omega) hrow (by show 3 * n ≤ b; omega) (fun _ => rfl) rfl rfl rfl (fun _ => rfl) rfl fun _ => ?_
    rw [u64s_set, set_midW _ hx]
    repeat refine zR ?_
    simp only [NV, Nat.reduceEqDiff, reduceCtorEq]
    repeat refine zR ?_
    simp only [NV, Nat.reduceEqDiff, reduceCtorEq]
    have hmod : (x * 10 ^ C.length + c) % 18446744073709551616 < 18446744073709551616 := Nat.mod_lt _ (by decide)
    refine goOn (E ++ [(x * 10 ^ C.length + c) % 18446744073709551616], (x * 10 ^ C.length + c) / 18446744073709551616) (by show D.length - (E ++ [_]).length < D.length - E.length; simp; omega) ⟨rfl, rfl, rfl, rfl, rfl, rfl, by show Value.int .i64 _ = Value.int .i64 _; simp, trivial⟩ ⟨rfl, rfl, fun b' hb' => (upd_ne (by omega)).trans (hx3 b' hb'), .at_ hgb hb1 hb2 (upd_same _ _ _) ?_ (ones_u64s _), by show (E ++ [_]).length ≤ _; simp; omega, WdD.snoc hEd hmod, mulc_lt hxl (by omega) hc, ?_⟩
    · rw [u64s_len, List.length_append, List.length_drop]; simp; omega
    · show wv (E ++ [_]) + _ * 18446744073709551616 ^ (E ++ [_]).length = wv (D.take (E ++ [_]).length) * _ + _
      simp only [List.length_append, List.length_singleton]
      have hts : wv (D.take (E.length + 1)) = wv (D.take E.length) + 18446744073709551616 ^ E.length * x := dv_take_succ hx
      rw [hts, Nat.pow_succ]
      have := carry_step (B := 18446744073709551616) (P := 18446744073709551616 ^ E.length) (V := wv E) (V' := wv (E ++ [(x * 10 ^ C.length + c) % 18446744073709551616])) (c := c) (p := x * 10 ^ C.length) (d := (x * 10 ^ C.length + c) % 18446744073709551616) (c' := (x * 10 ^ C.length + c) / 18446744073709551616) (by rw [wv, dv_snoc, Nat.mul_comm]; rfl) (by rw [Nat.add_comm c]; exact Nat.div_add_mod _ _)
      rw [this, hV]
      generalize 18446744073709551616 ^ E.length = P
      generalize 10 ^ C.length = T
      generalize wv (D.take E.length) = W
      rw [Nat.add_mul, Nat.mul_comm P x, Nat.mul_right_comm]
      omega
  rw [hED, List.drop_length, List.append_nil] at hg3
  rw [hED, List.take_length] at hV
  repeat refine zR ?_
  simp only [NV, Nat.reduceEqDiff, reduceCtorEq]
  rw [EC_cond_false rfl]
  simp only [NV, Nat.reduceEqDiff, reduceCtorEq]
  have hnew : s = (done ++ C) ++ rest.drop sz := by rw [hsr, ← hC, List.append_assoc, List.take_append_drop]
  have hdv : dval (done ++ C) = wv D * 10 ^ C.length + dval C := by rw [dval_append, hDv]
  have hmeas : (rest.drop sz).length < rest.length := by rw [List.length_drop]; omega
  by_cases hc0 : c = 0
  · subst hc0
    repeat refine zR ?_
    simp only [NV, Nat.reduceEqDiff, reduceCtorEq]
    rw [EC_cond_false rfl]
    simp only [NV, Nat.reduceEqDiff, reduceCtorEq]
    rw [Nat.zero_mul, Nat.add_zero] at hV
    refine goOn (done ++ C, rest.drop sz, .slice a3 D.length D.length, E) hmeas ⟨rfl, rfl, trivial⟩ ⟨rfl, by show n ≤ n1 + 1; omega, hx3, hnew, by show Gro _ _ _ _ _ _ E.length _; rw [hED]; exact hg3, ?_, by show wv E = dval (done ++ C); rw [hV, hdv]⟩
    show NW E
    cases hDn : D with
    | nil =>
      rw [hDn] at hED
      rw [List.length_eq_zero_iff.1 hED]
      exact NW.nil
    | cons y D' =>
      obtain ⟨l, d, hld⟩ := Go.Proofs.YtokfihhdllmbmaaGreatDoor.snoc (l := D) (by rw [hDn]; simp)
      have hlow := (show NW (l ++ [d]) by rw [← hld]; exact hND).low
      rw [← hld] at hlow
      refine NW.of_low (i := l.length) hEd (by rw [hED, hld]; simp) ?_
      rw [hV]
      have : wv D * 1 ≤ wv D * 10 ^ C.length := Nat.mul_le_mul_left _ (Nat.pow_pos (by decide))
      omega
  · repeat refine zR ?_
    simp only [NV, Nat.reduceEqDiff, reduceCtorEq]
    rw [EC_cond_true rfl]
    simp only [NV, Nat.reduceEqDiff, reduceCtorEq]
    repeat refine zR ?_
    refine st_mks (cs := [.int .u64 (c : Int)]) rfl rfl rfl rfl rfl ?_
    refine st_app (m := 1) rfl rfl rfl rfl rfl rfl rfl rfl (by decide) (hg3.ext (Ext.upd (by omega)) (Nat.le_succ _)) (argS_of (upd_same _ _ _) rfl rfl) (Nat.le_refl _) (by omega) rfl rfl (by show n ≤ n ∧ _; omega) ?_
    intro v' h5 hg5 hx5 _
    obtain ⟨a', rfl, _⟩ := hg5.shape
    repeat refine zR ?_
    simp only [NV, Nat.reduceEqDiff, reduceCtorEq]
    refine goOn (done ++ C, rest.drop sz, .slice a' (D.length + 1) (D.length + 1), E ++ [c]) hmeas ⟨rfl, rfl, trivial⟩ ⟨rfl, by show n ≤ n1 + 1 + 1 + 1; omega, fun b hb => (hx5 b hb).trans ((upd_ne (by omega)).trans (hx3 b hb)), hnew, ?_, ⟨WdD.snoc hEd hc, trimL_pos E hc0⟩, ?_⟩
    · show Gro _ _ _ _ _ _ (E ++ [c]).length (u64s (E ++ [c]))
      rw [u64s_append, List.length_append, hED]
      exact hg5
    · show wv (E ++ [c]) = dval (done ++ C)
      rw [wv, dv_snoc, hdv, ← hV, hED, Nat.mul_comm]
      rfl
end Go.Proofs.YtokfihhdllmbmaaGreatDoor
namespace Go.Proofs.YtokfihhdllmbmaaGreatDoor
open Go Go.GL
theorem Sl.zero {h : HF} {n : Nat} {a : Option Addr} {l c : Nat} {A : List Nat} (s : Sl h n 1 (.slice a l c) (u64s A)) (ha : a = none) : A = [] := by
  have h1 := s.lenW
  by_cases h0 : l = 0
  · exact List.length_eq_zero_iff.1 (by omega)
  · obtain ⟨b, off, x, cs, e, _⟩ := s.inv h0
    rw [ha] at e
    cases e
set_option maxHeartbeats 1000000
theorem clone64_ok (k : Nat) {h : HF} {n : Nat} {a : Option Addr} {len cap : Nat} {L : List Nat} (hs : Sl h n 1 (.slice a len cap) (u64s L)) (hl : L.length < 1000000000) : CF (cal (k + 1)) 204 [.slice a len cap] h n fun v h' n' w => w = [] ∧ n ≤ n' ∧ Ext n h h' ∧ Sl h' n' 1 v (u64s L) ∧ (L ≠ [] → Gro h' n n' 222 1 v L.length (u64s L)) := by
  refine CF_heap (fn := Tryz.f204) rfl rfl rfl rfl ?_
  have hlen := hs.lenW
  subst hlen
  simp only [NV, Nat.reduceEqDiff, reduceCtorEq]
  repeat refine zR ?_
  simp only [NV, Nat.reduceEqDiff, reduceCtorEq]
  repeat refine zR ?_
  cases a with
  | none =>
    have hL := hs.zero rfl
    subst hL
    simp only [NV, Nat.reduceEqDiff, reduceCtorEq]
    rw [EC_cond_true rfl]
    simp only [NV, Nat.reduceEqDiff, reduceCtorEq]
    repeat refine zR ?_
    simp only [NV, Nat.reduceEqDiff, reduceCtorEq]
    exact retH _ rfl (resF_tmp rfl) rfl ⟨rfl, Nat.le_refl _, Ext.refl _ _, .nil (.inl rfl), fun h => absurd rfl h⟩
  | some ad =>
    simp only [NV, Nat.reduceEqDiff, reduceCtorEq]
    rw [EC_cond_false rfl]
    simp only [NV, Nat.reduceEqDiff, reduceCtorEq]
    refine st_mks (cs := []) rfl rfl rfl rfl rfl ?_
    repeat refine zR ?_
    have hs2 := hs.ext (Ext.upd (h := h) (b := 3 * n + 2) (x := some (.row [] 222)) (show 3 * n ≤ 3 * n + 2 by omega)) (Nat.le_succ n)
    by_cases hL : L = []
    · subst hL
      refine st_append rfl rfl rfl rfl rfl (append_same (L := 0) rfl rfl rfl (by decide) (argS_sl hs2) (by decide)) ?_
      repeat refine zR ?_
      simp only [NV, Nat.reduceEqDiff, reduceCtorEq]
      exact retH _ rfl (resF_tmp rfl) rfl ⟨rfl, Nat.le_succ n, Ext.upd (by omega), .nil (.inr ⟨_, _, _, rfl, by show 3 * n + 2 < 3 * (n + 1); omega⟩), fun h => absurd rfl h⟩
    · have hL0 : L.length ≠ 0 := fun e => hL (List.length_eq_zero_iff.1 e)
      refine st_append rfl rfl rfl rfl rfl (append_made rfl rfl rfl (by decide) (argS_sl hs2) (by omega) (gro_two2 n) hL0) ?_
      repeat refine zR ?_
      simp only [NV, Nat.reduceEqDiff, reduceCtorEq]
      have hg : Gro (upd (upd h (3 * n + 2) (some (.row [] 222))) (3 * (n + 1) + 1) (some (.row (u64s L) 222))) n (n + 1 + 1) 222 1 (.slice (some ⟨3 * (n + 1) + 1, 0, none⟩) L.length L.length) L.length (u64s L) := .at_ (gro_new (n + 1)) (by omega) (by omega) (upd_same _ _ _) (by rw [u64s_len, Nat.mul_one]) (ones_u64s L)
      exact retH _ rfl (resF_tmp rfl) rfl ⟨rfl, by show n ≤ n + 1 + 1; omega, (Ext.upd (by omega)).trans (Ext.upd (by omega)) (Nat.le_succ n), hg.sl, fun _ => hg⟩
theorem parseSplit0_ok (k : Nat) (h : HF) (n : Nat) {s : List UInt8} (hs : AllD s) (hl : s.length ≤ 570) : CF (cal (k + 4)) 202 [.string ⟨⟨s⟩⟩, .slice none 0 0] h n fun v h' n' w => ∃ L, ResW n h v h' n' w L ∧ wv L = dval s ∧ Fresh n v := by
  refine CF_heap (fn := Tryz.f202) rfl rfl rfl rfl ?_
  simp only [NV, Nat.reduceEqDiff, reduceCtorEq]
  repeat refine zR ?_
  simp only [NV, Nat.reduceEqDiff, reduceCtorEq]
  repeat refine zR ?_
  simp only [NV, Nat.reduceEqDiff, reduceCtorEq]
  refine EC_for (α := Unit) (fun _ => [(0, .string ⟨⟨s⟩⟩), (5, .int .i64 (-1))]) (fun _ h' n' w => h = h' ∧ n = n' ∧ w = []) (fun _ => 0) () ⟨rfl, rfl, trivial⟩ ⟨rfl, rfl, rfl⟩ (by show 0 < LL; decide) ?_
  rintro _ t _ _ _ ⟨rfl, rfl, rfl⟩
  simp only [NV, Nat.reduceEqDiff, reduceCtorEq]
  repeat refine zR ?_
  simp only [NV, Nat.reduceEqDiff, reduceCtorEq]
  rw [EC_cond_false rfl]
  simp only [NV, Nat.reduceEqDiff, reduceCtorEq]
  repeat refine zR ?_
  simp only [NV, Nat.reduceEqDiff, reduceCtorEq]
  rw [EC_cond_true rfl]
  simp only [NV, Nat.reduceEqDiff, reduceCtorEq]
  refine zM ?_
  refine st_call _ rfl rfl rfl rfl rfl (parseSimple_ok k h n hs (by omega)) ?_
  rintro v h1 n1 _ ⟨L, ⟨rfl, hn1, hx1, hs1, hN⟩, hv, hf⟩
  obtain ⟨a, l, c, rfl, _⟩ := hs1.len
  repeat refine zR ?_
  simp only [NV, Nat.reduceEqDiff, reduceCtorEq]
  exact retH _ rfl (resF_tmp rfl) rfl ⟨L, ⟨rfl, hn1, hx1, hs1, hN⟩, hv, hf⟩
theorem parseWords0_ok (k : Nat) (h : HF) (n : Nat) {s : List UInt8} (hs : AllD s) (hl : s.length ≤ 570) : CF (cal (k + 5)) 170 [.string ⟨⟨s⟩⟩] h n fun v h' n' w => ∃ L, ResW n h v h' n' w L ∧ wv L = dval s ∧ Fresh n v := by
  refine CF_heap (fn := Tryz.f170) rfl rfl rfl rfl ?_
  simp only [NV, Nat.reduceEqDiff, reduceCtorEq]
  repeat refine zR ?_
  simp only [NV, Nat.reduceEqDiff, reduceCtorEq]
  repeat refine zR ?_
  simp only [NV, Nat.reduceEqDiff, reduceCtorEq]
  refine zM ?_
  refine st_I (ik := .i64) (a := (s.length : Int)) rfl rfl rfl rfl rfl ?_
  repeat refine zR ?_
  simp only [NV, Nat.reduceEqDiff, reduceCtorEq]
  rw [EC_cond_false rfl]
  simp only [NV, Nat.reduceEqDiff, reduceCtorEq]
  refine zM ?_
  refine zM ?_
  refine st_call _ rfl rfl rfl rfl rfl (parseSplit0_ok k h n hs hl) ?_
  rintro v h1 n1 _ ⟨L, ⟨rfl, hn1, hx1, hs1, hN⟩, hv, hf⟩
  obtain ⟨a, l, c, rfl, _⟩ := hs1.len
  repeat refine zR ?_
  simp only [NV, Nat.reduceEqDiff, reduceCtorEq]
  exact retH _ rfl (resF_tmp rfl) rfl ⟨L, ⟨rfl, hn1, hx1, hs1, hN⟩, hv, hf⟩
def NatR (n : Nat) (h : HF) (v : Value) (h' : HF) (n' : Nat) (w : List Nat) (x : Nat) : Prop := ∃ a l c L, v = .agg #[.bool false, .slice a l c] ∧ ResW n h (.slice a l c) h' n' w L ∧ wv L = x
theorem parse0_ok (k : Nat) (h : HF) (n : Nat) {s : List UInt8} (hs : AllD s) (hl : s.length ≤ 570) : CF (cal (k + 6)) 130 [.string ⟨⟨s⟩⟩] h n fun v h' n' w => NatR n h v h' n' w (dval s) := by
  refine CF_heap (fn := Tryz.f130) rfl rfl rfl rfl ?_
  simp only [NV, Nat.reduceEqDiff, reduceCtorEq]
  refine st_alloc rfl rfl rfl rfl rfl ?_
  simp only [NV, Nat.reduceEqDiff, reduceCtorEq]
  refine zM ?_
  refine st_call _ rfl rfl rfl rfl rfl (parseWords0_ok k _ _ hs hl) ?_
  rintro v h1 n1 _ ⟨L, ⟨rfl, hn1, hx1, hs1, hN⟩, hv, hf⟩
  obtain ⟨a, l, c, rfl, _⟩ := hs1.len
  have hb := (hx1 (3 * n + 2) (by omega)).trans (upd_same _ _ _)
  refine st_val (v := .agg #[.bool false, .slice a l c]) rfl rfl rfl rfl rfl ?_
  refine st_storeW [.bool false, .slice a l c] rfl rfl rfl rfl rfl rfl rfl rfl hb rfl (by show 3 * n ≤ 3 * n + 2; omega) ?_
  simp only [NV, Nat.reduceEqDiff, reduceCtorEq]
  exact retCell rfl rfl rfl rfl rfl (upd_same _ _ _) rfl ⟨_, _, _, L, rfl, ⟨rfl, by show n ≤ n1; omega, fun b hb => (upd_ne (by omega)).trans ((hx1 b (by omega)).trans (upd_ne (by omega))), hs1.off (hf.off (by omega)), hN⟩, hv⟩
theorem wv_one (c : Nat) : wv [c] = c := by simp [wv, dv]
theorem gcd_word {x c : Nat} : Nat.gcd c (x % c) = Nat.gcd x c := by rw [Nat.gcd_comm, ← Nat.gcd_rec, Nat.gcd_comm]
set_option maxHeartbeats 4000000
theorem gcdW1_ok (k : Nat) {h : HF} (hG : GK.G h) {n : Nat} (hn : 20 ≤ n) {a1 a2 : Option Addr} {l1 c1 l2 c2 : Nat} {A C : List Nat} (hA : Sl h n 1 (.slice a1 l1 c1) (u64s A)) (hC : Sl h n 1 (.slice a2 l2 c2) (u64s C)) (nA : NW A) (nC : NW C) (hb : A.length < 1000000 ∧ C.length < 1000000) (h1 : A.length ≤ 1 ∨ C.length ≤ 1) :
    CF (cal (k + 5)) 171 [.slice a1 l1 c1, .slice a2 l2 c2] h n fun v h' n' w => ∃ L, ResW n h v h' n' w L ∧ wv L = Nat.gcd (wv A) (wv C) ∧ (Fresh n v ∨ v = .slice a1 l1 c1 ∨ v = .slice a2 l2 c2) := by
  refine CF_heap (fn := Tryz.f171) rfl rfl rfl rfl ?_
  simp only [NV, Nat.reduceEqDiff, reduceCtorEq]
  repeat refine zR ?_
  simp only [NV, Nat.reduceEqDiff, reduceCtorEq]
  refine zM ?_
  refine zM ?_
  refine st_vf _ rfl rfl rfl rfl rfl (cmpWords_ok (k + 1) hA hC nA nC (by omega)) ?_
  rintro _ rfl
  refine st_lt rfl rfl rfl rfl rfl rfl ?_
  simp only [EC_skip, EO_nil, after_normal, EC_seq]
  refine EC_cutx (α := (Option Addr × Nat × Nat × List Nat) × (Option Addr × Nat × Nat × List Nat)) (fun z => [(0, .slice z.1.1 z.1.2.1 z.1.2.2.1), (1, .slice z.2.1 z.2.2.1 z.2.2.2.1)]) (fun z h' n' w => h = h' ∧ n = n' ∧ w = [] ∧ Sl h n 1 (.slice z.1.1 z.1.2.1 z.1.2.2.1) (u64s z.1.2.2.2) ∧ Sl h n 1 (.slice z.2.1 z.2.2.1 z.2.2.2.1) (u64s z.2.2.2.2) ∧ NW z.1.2.2.2 ∧ NW z.2.2.2.2 ∧ z.1.2.2.2.length < 1000000 ∧ z.2.2.2.2.length ≤ 1 ∧ Nat.gcd (wv z.1.2.2.2) (wv z.2.2.2.2) = Nat.gcd (wv A) (wv C) ∧ (Value.slice z.1.1 z.1.2.1 z.1.2.2.1 = .slice a1 l1 c1 ∨ Value.slice z.1.1 z.1.2.1 z.1.2.2.1 = .slice a2 l2 c2)) ?_ ?_
  · by_cases hlt : wv A < wv C
    · rw [EC_cond_true (by show Value.bool _ = _; rw [cmpZ_lt hlt]; rfl)]
      simp only [NV, Nat.reduceEqDiff, reduceCtorEq]
      repeat refine zR ?_
      simp only [NV, Nat.reduceEqDiff, reduceCtorEq]
      refine cutx_mk ((a2, l2, c2, C), (a1, l1, c1, A)) ⟨rfl, rfl, trivial⟩ ⟨rfl, rfl, rfl, hC, hA, nC, nA, hb.2, ?_, Nat.gcd_comm _ _, .inr rfl⟩
      show A.length ≤ 1
      rcases h1 with h1 | h1
      · exact h1
      · rcases Nat.lt_or_ge C.length A.length with hl | hl
        · have := nC.len_lt nA hl; omega
        · omega
    · rw [EC_cond_false (by
        show Value.bool _ = _
        rcases Nat.lt_or_ge (wv C) (wv A) with h | h
        · rw [cmpZ_gt h]; rfl
        · rw [show wv A = wv C from by omega, cmpZ_eq]; rfl)]
      simp only [NV, Nat.reduceEqDiff, reduceCtorEq]
      refine cutx_mk ((a1, l1, c1, A), (a2, l2, c2, C)) ⟨rfl, rfl, trivial⟩ ⟨rfl, rfl, rfl, hA, hC, nA, nC, hb.1, ?_, rfl, .inl rfl⟩
      show C.length ≤ 1
      rcases h1 with h1 | h1
      · rcases Nat.lt_or_ge A.length C.length with hl | hl
        · have := nA.len_lt nC hl; omega
        · omega
      · exact h1
  rintro ⟨⟨a, l, c, X⟩, ⟨a', l', c', Y⟩⟩ t _ _ _ ⟨rfl, rfl, rfl, hX, hY, nX, nY, hXl, hY1, hg, hv⟩
  simp only at hX hY nX nY hXl hY1 hg hv
  rw [← hg]
  clear hg h1 hb hA hC nA nC
  have eX := hX.lenW
  have eY := hY.lenW
  subst eX eY
  simp only [NV, Nat.reduceEqDiff, reduceCtorEq]
  cases Y with
  | nil =>
    repeat refine zR ?_
    simp only [NV, Nat.reduceEqDiff, reduceCtorEq]
    rw [EC_cond_true rfl]
    simp only [NV, Nat.reduceEqDiff, reduceCtorEq]
    repeat refine zR ?_
    simp only [NV, Nat.reduceEqDiff, reduceCtorEq]
    exact retH _ rfl (resF_tmp rfl) rfl ⟨X, ⟨rfl, Nat.le_refl _, Ext.refl _ _, hX, nX⟩, by rw [show wv [] = 0 from rfl, Nat.gcd_zero_right], .inr hv⟩
  | cons y Y =>
  have hY0 : Y = [] := by simpa using hY1
  subst hY0
  have hy : y < 18446744073709551616 := nY.1 y (by simp)
  have hy0 : y ≠ 0 := NW.last (l := []) nY
  rw [wv_one]
  rw [show [y].length = 1 from rfl] at hY ⊢
  repeat refine zR ?_
  simp only [NV, Nat.reduceEqDiff, reduceCtorEq]
  rw [EC_cond_false rfl]
  simp only [NV, Nat.reduceEqDiff, reduceCtorEq]
  refine zM ?_
  refine st_call _ rfl rfl rfl rfl rfl (clone64_ok (k + 3) hX (by omega)) ?_
  rintro v5 h2 n2 _ ⟨rfl, hn2, hx2, hs5, _⟩
  obtain ⟨a5, l5, c5, rfl, _⟩ := hs5.len
  refine zM ?_
  refine st_call _ rfl rfl rfl rfl rfl (clone64_ok (k + 3) (L := [y]) (hY.ext hx2 hn2) (by simp)) ?_
  rintro v6 h3 n3 _ ⟨rfl, hn3, hx3, hs6, hg6⟩
  obtain ⟨b6, rfl, _, hb6, hb6', hr6, _⟩ := (hg6 (by simp)).inv2 (by simp)
  rw [show [y].length = 1 from rfl]
  have hx23 : Ext n h h3 := hx2.trans hx3 hn2
  have hG3 : GK.G h3 := G_ext hG hx23 hn
  have hs53 := hs5.ext hx3 hn3
  repeat refine zR ?_
  simp only [NV, Nat.reduceEqDiff, reduceCtorEq]
  refine EC_for (α := Unit) (fun _ => [(5, .slice a5 l5 c5), (6, .slice (some ⟨b6, 0, none⟩) 1 1)]) (fun _ h' n' w => h3 = h' ∧ n3 = n' ∧ w = []) (fun _ => 0) () ⟨rfl, rfl, trivial⟩ ⟨rfl, rfl, rfl⟩ (by show 0 < LL; decide) ?_
  rintro _ t _ _ _ ⟨rfl, rfl, rfl⟩
  simp only [NV, Nat.reduceEqDiff, reduceCtorEq]
  repeat refine zR ?_
  simp only [NV, Nat.reduceEqDiff, reduceCtorEq]
  rw [EC_cond_false rfl]
  simp only [NV, Nat.reduceEqDiff, reduceCtorEq]
  repeat refine zR ?_
  simp only [NV, Nat.reduceEqDiff, reduceCtorEq]
  rw [EC_cond_false rfl]
  simp only [NV, Nat.reduceEqDiff, reduceCtorEq]
  refine EC_draw [0, 1, 3, 0, 0, 16, 48, 120, 255, 511, 1023] rfl ?_
  repeat refine zD ?_
  refine dr_load rfl rfl rfl rfl rfl rfl (load1_eq rfl hr6 rfl (v := .int .u64 (y : Int)) rfl) rfl rfl ?_
  repeat refine zD ?_
  refine dr_load rfl rfl rfl rfl rfl rfl (load1_eq rfl hr6 rfl (v := .int .u64 (y : Int)) rfl) rfl rfl ?_
  refine dr_vf _ rfl rfl rfl rfl rfl rfl rfl (remWord_ok k (l := X) (d := y) (by omega) nX.1 ⟨by omega, hy⟩ hs53) ?_
  rintro _ rfl
  refine dr_vf _ rfl rfl rfl rfl rfl rfl rfl (gcdWord_ok (k + 2) hG3 n3 hy (Nat.lt_trans (Nat.mod_lt _ (by omega)) hy)) ?_
  rintro _ rfl
  refine dr_call _ rfl rfl rfl rfl rfl rfl rfl (fromWord_ok (k + 3) h3 n3 (Nat.lt_of_le_of_lt (Nat.gcd_le_left _ (by omega)) hy)) ?_
  rintro v9 h9 n9 _ ⟨L9, ⟨rfl, hn9, hx9, hs9, hN9⟩, hv9, hl9, hf9⟩
  obtain ⟨a9, l9, c9, rfl, _⟩ := hs9.len
  refine ⟨okLoads_nil, hn9, ?_⟩
  repeat refine zD ?_
  simp only [NV, Nat.reduceEqDiff, reduceCtorEq]
  exact retH _ rfl (resF_tmp rfl) rfl ⟨L9, ⟨rfl, by show n ≤ n9; omega, hx23.trans hx9 (by omega), hs9, hN9⟩, by rw [hv9, gcd_word], .inl (hf9.mono (by omega))⟩
theorem gcdN1_ok (k : Nat) {h : HF} (hG : GK.G h) {n : Nat} (hn : 20 ≤ n) {b1 b2 : Bool} {a1 a2 : Option Addr} {l1 c1 l2 c2 : Nat} {A C : List Nat} (hA : Sl h n 1 (.slice a1 l1 c1) (u64s A)) (hC : Sl h n 1 (.slice a2 l2 c2) (u64s C)) (nA : NW A) (nC : NW C) (hb : A.length < 1000000 ∧ C.length < 1000000) (h1 : A.length ≤ 1 ∨ C.length ≤ 1) :
    CF (cal (k + 6)) 131 [.agg #[.bool b1, .slice a1 l1 c1], .agg #[.bool b2, .slice a2 l2 c2]] h n fun v h' n' w => NatR n h v h' n' w (Nat.gcd (wv A) (wv C)) := by
  refine CF_heap (fn := Tryz.f131) rfl rfl rfl rfl ?_
  simp only [NV, Nat.reduceEqDiff, reduceCtorEq]
  refine st_mkp (cs := [.bool b1, .slice a1 l1 c1]) rfl rfl rfl rfl rfl ?_
  refine st_mkp (cs := [.bool b2, .slice a2 l2 c2]) rfl rfl rfl rfl rfl ?_
  refine st_alloc rfl rfl rfl rfl rfl ?_
  generalize hh : upd (upd (upd h (3 * n + 2) _) (3 * (n + 1) + 2) _) (3 * (n + 1 + 1) + 2) _ = h2
  have hx2 : Ext n h h2 := fun b hb => by rw [← hh, upd_ne (by omega), upd_ne (by omega), upd_ne (by omega)]
  have r2 : ∃ e, h2 (3 * n + 2) = some (.row [.bool b1, .slice a1 l1 c1] e) := ⟨_, by rw [← hh, upd_ne (by omega), upd_ne (by omega), upd_same]⟩
  have r3 : ∃ e, h2 (3 * (n + 1) + 2) = some (.row [.bool b2, .slice a2 l2 c2] e) := ⟨_, by rw [← hh, upd_ne (by omega), upd_same]⟩
  have r4 : ∃ e, h2 (3 * (n + 1 + 1) + 2) = some (.row [.bool false, .slice none 0 0] e) := ⟨_, by rw [← hh, upd_same]; rfl⟩
  obtain ⟨e2, r2⟩ := r2
  obtain ⟨e3, r3⟩ := r3
  obtain ⟨e4, r4⟩ := r4
  clear hh
  simp only [NV, Nat.reduceEqDiff, reduceCtorEq]
  repeat refine zR ?_
  refine st_load1 rfl rfl rfl rfl rfl rfl r2 rfl (v := .slice a1 l1 c1) rfl ?_
  repeat refine zR ?_
  refine st_load1 rfl rfl rfl rfl rfl rfl r3 rfl (v := .slice a2 l2 c2) rfl ?_
  have hn3 : n ≤ n + 1 + 1 + 1 := by omega
  refine st_call _ rfl rfl rfl rfl rfl (gcdW1_ok k (G_ext hG hx2 hn) (show 20 ≤ n + 1 + 1 + 1 by omega) (hA.ext hx2 hn3) (hC.ext hx2 hn3) nA nC hb h1) ?_
  rintro v h5 n5 _ ⟨L, ⟨rfl, hn5, hx5, hs5, hN⟩, hv, hf⟩
  have ho : Off (3 * (n + 1 + 1) + 2) v := by
    rcases hf with hf | rfl | rfl
    · exact hf.off (by omega)
    · exact hA.below.off (by omega)
    · exact hC.below.off (by omega)
  obtain ⟨a, l, c, rfl, _⟩ := hs5.len
  have hb5 : h5 (3 * (n + 1 + 1) + 2) = _ := (hx5 _ (by omega)).trans r4
  refine st_val (v := .agg #[.bool false, .slice a l c]) rfl rfl rfl rfl rfl ?_
  refine st_storeW [.bool false, .slice a l c] rfl rfl rfl rfl rfl rfl rfl rfl hb5 rfl (by show 3 * n ≤ 3 * (n + 1 + 1) + 2; omega) ?_
  simp only [NV, Nat.reduceEqDiff, reduceCtorEq]
  exact retCell rfl rfl rfl rfl rfl (upd_same _ _ _) rfl ⟨_, _, _, L, rfl, ⟨rfl, by show n ≤ n5; omega, fun b hb => (upd_ne (by omega)).trans ((hx5 b (by omega)).trans (hx2 b hb)), hs5.off ho, hN⟩, hv⟩
theorem isOne_ok (k : Nat) {h : HF} {n : Nat} {neg : Bool} {a : Option Addr} {l c : Nat} {L : List Nat} (hs : Sl h n 1 (.slice a l c) (u64s L)) (hN : NW L) : VF (cal (k + 1)) 132 [.agg #[.bool neg, .slice a l c]] h n fun v => v = .bool (!neg && decide (wv L = 1)) := by
  refine CF_flat (fn := Tryz.f132) rfl rfl rfl rfl ?_
  have hlen := hs.lenW
  subst hlen
  simp only [NV, Nat.reduceEqDiff, reduceCtorEq]
  refine st_mkp (cs := [.bool neg, .slice a L.length c]) rfl rfl rfl rfl rfl ?_
  generalize hh : upd h (3 * n + 2) _ = h1
  have hx1 : Ext n h h1 := by rw [← hh]; exact Ext.upd (by omega)
  have r1 : ∃ e, h1 (3 * n + 2) = some (.row [.bool neg, .slice a L.length c] e) := ⟨_, by rw [← hh, upd_same]⟩
  obtain ⟨e1, r1⟩ := r1
  clear hh
  have hs1 := hs.ext hx1 (Nat.le_succ n)
  repeat refine zR ?_
  simp only [NV, Nat.reduceEqDiff, reduceCtorEq]
  repeat refine zR ?_
  refine st_load1 rfl rfl rfl rfl rfl rfl r1 rfl (v := .bool neg) rfl ?_
  cases neg with
  | true =>
    repeat refine zR ?_
    simp only [NV, Nat.reduceEqDiff, reduceCtorEq]
    exact retF _ rfl (resF_tmp rfl) rfl rfl rfl
  | false =>
  repeat refine zR ?_
  refine st_load1 rfl rfl rfl rfl rfl rfl r1 rfl (v := .slice a L.length c) rfl ?_
  by_cases h1 : L.length = 1
  · obtain ⟨d, rfl⟩ := List.length_eq_one_iff.1 h1
    rw [show [d].length = 1 from rfl] at r1 hs1 ⊢
    repeat refine zR ?_
    refine st_load1 rfl rfl rfl rfl rfl rfl r1 rfl (v := .slice a 1 c) rfl ?_
    refine st_at (f := fun d : Nat => Value.int .u64 (d : Int)) (l := [d]) (j := 0) rfl rfl rfl rfl rfl rfl rfl hs1 rfl (by simp) rfl (fun _ => rfl) rfl rfl rfl rfl fun _ => ?_
    rw [wv_one]
    by_cases hd : d = 1
    · repeat refine zR ?_
      simp only [NV, Nat.reduceEqDiff, reduceCtorEq]
      exact retF _ rfl (resF_tmp rfl) rfl rfl (by rw [decide_eq_true hd]; rfl)
    · repeat refine zR ?_
      simp only [NV, Nat.reduceEqDiff, reduceCtorEq]
      exact retF _ rfl (resF_tmp rfl) rfl rfl (by rw [decide_eq_false hd]; rfl)
  · have hw : wv L ≠ 1 := fun e => h1 (by rw [hN.inj (NW.one (d := 1) (by decide) (by decide)) (by rw [e, wv_one])]; rfl)
    repeat refine zR ?_
    simp only [NV, Nat.reduceEqDiff, reduceCtorEq]
    exact retF _ rfl (resF_tmp rfl) rfl rfl (by rw [decide_eq_false hw]; rfl)
end Go.Proofs.YtokfihhdllmbmaaGreatDoor
