import Derived.Test.YtokfihhdllmbmaaGreatDoorSelB
set_option linter.unusedVariables false
set_option linter.unusedSimpArgs false
namespace Go.Proofs.YtokfihhdllmbmaaGreatDoor
open Go Go.GL
def isEnd : Ex → Bool | .exit _ => false | _ => true
/-- What is fixed in a call. -/
noncomputable def ctx (k n nt : Nat) : CtxF := { E := env, C := cal k, L := LL, round := none, n0 := n, nt := nt }
theorem CF_intro {k : Nat} {f : FuncId} {fn : Func} {body : Code} {args : List Value} {h : HF} {n : Nat} {P : Value → HF → Nat → List Nat → Prop} (hf : GK.orc f args = none) (hfn : env.fn f = some fn) (hb : fn.body = some body) (hle : Nat.ble args.length fn.ntmps = true)
    (hx : EC (ctx k n fn.ntmps) body ⟨argsF args, h, n, []⟩ fun e s => isEnd e = true ∧ ∃ vs, resF env s fn.results.toList = some vs ∧ P (endF env f h n s vs).1 (endF env f h n s vs).2.1 (endF env f h n s vs).2.2.1 (endF env f h n s vs).2.2.2) : CF (cal (k + 1)) f args h n P := by
  obtain ⟨e, s, h1, h2, vs, h3, h4⟩ := hx
  refine ⟨_, _, _, _, ?_, h4⟩
  rw [cal_call k hf h n]
  unfold fnF
  unfold ctx at h1
  simp only [hfn, hb, hle, h1]
  cases e with
  | exit i => cases h2
  | normal => simp only [h3]
  | ret => simp only [h3]
/-- A call that hands back something in memory. -/
def RetH (fn : Func) (P : Value → HF → Nat → List Nat → Prop) : Ex → SV → Prop := fun e s => isEnd e = true ∧ ∃ vs, resF env s fn.results.toList = some vs ∧ flats vs = false ∧ P (packF vs) s.h s.n s.w
theorem retH {fn : Func} {P : Value → HF → Nat → List Nat → Prop} {e : Ex} {s : SV} (vs : List Value) (he : isEnd e = true) (hr : resF env s fn.results.toList = some vs) (hf : flats vs = false) (hp : P (packF vs) s.h s.n s.w) : RetH fn P e s := ⟨he, vs, hr, hf, hp⟩
theorem CF_heap {k : Nat} {f : FuncId} {fn : Func} {body : Code} {args : List Value} {h : HF} {n : Nat} {P : Value → HF → Nat → List Nat → Prop} (hf : GK.orc f args = none) (hfn : env.fn f = some fn) (hb : fn.body = some body) (hle : Nat.ble args.length fn.ntmps = true)
    (hx : EC (ctx k n fn.ntmps) body ⟨argsF args, h, n, []⟩ (RetH fn P)) : CF (cal (k + 1)) f args h n P := by
  refine CF_intro hf hfn hb hle (EC_mono hx fun e s ⟨h1, vs, h2, h3, h4⟩ => ⟨h1, vs, h2, ?_⟩)
  have e : endF env f h n s vs = (packF vs, s.h, s.n, s.w) := by
    unfold endF
    rw [h3, Bool.and_false]
  rw [e]; exact h4
/-- A call that hands back plain values and writes nothing that was there. -/
def RetF (fn : Func) (P : Value → Prop) : Ex → SV → Prop := fun e s => isEnd e = true ∧ ∃ vs, resF env s fn.results.toList = some vs ∧ flats vs = true ∧ s.w = [] ∧ P (packF vs)
theorem retF {fn : Func} {P : Value → Prop} {e : Ex} {s : SV} (vs : List Value) (he : isEnd e = true) (hr : resF env s fn.results.toList = some vs) (hf : flats vs = true) (hw : s.w = []) (hp : P (packF vs)) : RetF fn P e s := ⟨he, vs, hr, hf, hw, hp⟩
/-- The value of a call that leaves memory as it was. -/
def VF (C : CalF) (f : FuncId) (args : List Value) (h : HF) (n : Nat) (P : Value → Prop) : Prop := CF C f args h n fun v h' n' w => h' = h ∧ n' = n ∧ w = [] ∧ P v
theorem CF_flat {k : Nat} {f : FuncId} {fn : Func} {body : Code} {args : List Value} {h : HF} {n : Nat} {P : Value → Prop} (hf : GK.orc f args = none) (hfn : env.fn f = some fn) (hb : fn.body = some body) (hle : Nat.ble args.length fn.ntmps = true)
    (hx : EC (ctx k n fn.ntmps) body ⟨argsF args, h, n, []⟩ (RetF fn P)) : VF (cal (k + 1)) f args h n P := by
  refine CF_intro hf hfn hb hle (EC_mono hx fun e s ⟨h1, vs, h2, h3, h4, h5⟩ => ⟨h1, vs, h2, ?_⟩)
  have e : endF env f h n s vs = (packF vs, h, n, []) := by
    unfold endF
    rw [h3, h4]
    rfl
  rw [e]; exact ⟨rfl, rfl, rfl, h5⟩
section
variable {X : CtxF} {ops r : List Oper} {t : TF} {h : HF} {n : Nat} {w : List Nat} {Q : SV → Prop} {o : Oper} {d : Tmp}
/-- A call by its value alone. -/
theorem st_vf {f : FuncId} {args : List Value} (P : Value → Prop) (hw : wantsF ops t o = true) (hd : o.dst = some d) (hn : dstOk X.nt (some d) = true) (hc : cls o.op = 3) (he : effF X.E o.op (evF t) h n = some (.enter f args)) (hcall : VF X.C f args h n P)
    (k : ∀ v, P v → EO X ops r ⟨upd t d v, h, n, w⟩ Q) : EO X ops (o :: r) ⟨t, h, n, w⟩ Q := by
  refine st_call _ hw hd hn hc he hcall fun v h' n' w' hp => ?_
  obtain ⟨rfl, rfl, rfl, hp⟩ := hp
  exact k v hp
end
theorem CF_mono {C : CalF} {f : FuncId} {args : List Value} {h : HF} {n : Nat} {P P' : Value → HF → Nat → List Nat → Prop} (hc : CF C f args h n P) (hp : ∀ v h' n' w, P v h' n' w → P' v h' n' w) : CF C f args h n P' := by
  obtain ⟨v, h', n', w, h1, h2⟩ := hc
  exact ⟨v, h', n', w, h1, hp _ _ _ _ h2⟩
theorem resF_tmp {s : SV} {a : Tmp} {v : Value} (h : s.t a = v) : resF env s [.tmp a] = some [v] := by
  simp only [resF, h]
theorem resF_cell {s : SV} {a : Tmp} {ty : TypeId} {ad : Addr} {v : Value} (ha : s.t a = .pointer (some ad)) (hl : loadVF env ty s.h ad = some v) : resF env s [.cell a ty] = some [v] := by
  simp only [resF, ha, hl]

/-- The result lies in a cell of its own. -/
theorem retCell {fn : Func} {P : Value → HF → Nat → List Nat → Prop} {e : Ex} {t : TF} {h : HF} {n : Nat} {w : List Nat} {a : Tmp} {ty e' : TypeId} {b sz bt : Nat} {z : Value} {cs : List Value} (he : isEnd e = true) (hr : fn.results.toList = [.cell a ty]) (ha : t a = .pointer (some ⟨b, 0, none⟩)) (hg : GL.isAgg env ty = some true) (hi : env.inf ty = some (sz, bt, z)) (hb : h b = some (.row cs e')) (hl : cs.length = sz) (hp : P (.agg cs.toArray) h n w) : RetH fn P e ⟨t, h, n, w⟩ := by
  refine retH [.agg cs.toArray] he ?_ rfl hp
  rw [hr]
  exact resF_cell ha (loadn_eq hg hi hb rfl (by omega) (by rw [List.drop_zero, List.take_of_length_le (by omega)]))
/-! What lies in memory. -/
/-- Old blocks stay. -/
def Ext (n : Nat) (h h' : HF) : Prop := ∀ b, b < 3 * n → h' b = h b
theorem Ext.refl (n : Nat) (h : HF) : Ext n h h := fun _ _ => rfl
theorem Ext.trans {n n' : Nat} {a b c : HF} (h : Ext n a b) (h' : Ext n' b c) (hn : n ≤ n') : Ext n a c := fun k hk => (h' k (by omega)).trans (h k hk)
theorem Ext.upd {n b : Nat} {h : HF} {x : Option BF} (hb : 3 * n ≤ b) : Ext n h (GL.upd h b x) := fun k hk => upd_ne (by omega)
theorem Ext.mono {n n' : Nat} {h h' : HF} (e : Ext n' h h') (hn : n ≤ n') : Ext n h h' := fun k hk => e k (by omega)
/-- A slice whose elements take sz cells each, and its cells. -/
inductive Sl (h : HF) (n sz : Nat) : Value → List Value → Prop
  | nil {a : Option Addr} {c : Nat} (ha : a = none ∨ ∃ b off, a = some ⟨b, off, none⟩ ∧ b < 3 * n) : Sl h n sz (.slice a 0 c) []
  | at_ {b off len cap : Nat} {x : BF} {cs cells : List Value} (hb : b < 3 * n) (hx : h b = some x) (hc : x.cells = some cs) (hcap : len ≤ cap) (hl : off + len * sz ≤ cs.length) (he : (cs.drop off).take (len * sz) = cells) : Sl h n sz (.slice (some ⟨b, off, none⟩) len cap) cells
/-- A slice in new memory. -/
def Fresh (n : Nat) : Value → Prop
  | .slice (some a) _ _ => 3 * n ≤ a.block
  | _ => True
theorem nil_mono {n n' : Nat} {a : Option Addr} (h : a = none ∨ ∃ b off, a = some ⟨b, off, none⟩ ∧ b < 3 * n) (hn : n ≤ n') : a = none ∨ ∃ b off, a = some ⟨b, off, none⟩ ∧ b < 3 * n' := by
  rcases h with h | ⟨b, off, e, hb⟩
  · exact .inl h
  · exact .inr ⟨b, off, e, by omega⟩
theorem Sl.ext {h h' : HF} {n n' sz : Nat} {v : Value} {c : List Value} (s : Sl h n sz v c) (e : Ext n h h') (hn : n ≤ n') : Sl h' n' sz v c := by
  cases s with
  | nil ha => exact .nil (nil_mono ha hn)
  | at_ hb hx hc hcap hl he => exact .at_ (by omega) (by rw [e _ hb]; exact hx) hc hcap hl he
theorem Sl.keep {h h' : HF} {n n' sz : Nat} {v : Value} {c : List Value} (s : Sl h n sz v c) (hk : ∀ a l cap, v = .slice (some a) l cap → h' a.block = h a.block) (hn : n ≤ n') : Sl h' n' sz v c := by
  cases s with
  | nil ha => exact .nil (nil_mono ha hn)
  | at_ hb hx hc hcap hl he => exact .at_ (by omega) (by rw [hk _ _ _ rfl]; exact hx) hc hcap hl he
/-- A store into older memory. -/
theorem Sl.old {h : HF} {n m b sz : Nat} {v : Value} {c : List Value} {x : Option BF} (s : Sl h n sz v c) (hf : Fresh m v) (hb : b < 3 * m) : Sl (GL.upd h b x) n sz v c :=
  s.keep (fun a l cap e => by subst e; exact upd_ne (by have : 3 * m ≤ a.block := hf; omega)) (Nat.le_refl _)
theorem Fresh.mono {m m' : Nat} {v : Value} (h : Fresh m v) (hm : m' ≤ m) : Fresh m' v := by
  unfold Fresh at *
  split <;> simp_all
  omega
theorem Sl.ones {h : HF} {n sz : Nat} {v : Value} {c : List Value} (s : Sl h n sz v c) (r : List Value) : ones (v :: r) = ones r := by
  cases s <;> rfl
theorem Sl.inv {h : HF} {n sz : Nat} {a : Option Addr} {len cap : Nat} {c : List Value} (s : Sl h n sz (.slice a len cap) c) (hl : len ≠ 0) : ∃ b off x cs, a = some ⟨b, off, none⟩ ∧ b < 3 * n ∧ h b = some x ∧ x.cells = some cs ∧ len ≤ cap ∧ off + len * sz ≤ cs.length ∧ (cs.drop off).take (len * sz) = c := by
  cases s with
  | nil ha => exact absurd rfl hl
  | at_ hb hx hc hcap hl he => exact ⟨_, _, _, _, rfl, hb, hx, hc, hcap, hl, he⟩
theorem Sl.len {h : HF} {n sz : Nat} {v : Value} {c : List Value} (s : Sl h n sz v c) : ∃ a l cap, v = .slice a l cap ∧ c.length = l * sz := by
  cases s with
  | nil ha => exact ⟨_, _, _, rfl, by simp⟩
  | at_ hb hx hc hcap hl he => exact ⟨_, _, _, rfl, by rw [← he]; simp; omega⟩

section
variable {X : CtxF} {ops r : List Oper} {t : TF} {h : HF} {n : Nat} {w : List Nat} {Q : SV → Prop} {o : Oper} {d : Tmp}
/-- Bytes read as a string. -/
theorem st_text {ty e : TypeId} {x : Operand} {v : Value} (hw : wantsF ops t o = true) (hd : o.dst = some d) (hn : dstOk X.nt (some d) = true) (ho : o.op = .convert ty e x) (hb : bytesMk X.E ty e (evF t x) = none) (ht : textF X.E ty e (evF t x) h = some v) (k : EO X ops r ⟨upd t d v, h, n, w⟩ Q) : EO X ops (o :: r) ⟨t, h, n, w⟩ Q := by
  obtain ⟨s', h1, h2⟩ := k
  refine ⟨s', ?_, h2⟩
  rw [seqF, hw]
  have hc : cls o.op = 4 := by rw [ho]; rfl
  have h3 : mkE X.E o.op (evF t) = none := by rw [ho]; exact hb
  simp only [opF, hc, h3]
  rw [ho]
  simp only [ht, doneF, hd, hn, addW]
  exact h1
end
/-! Slices that grow. -/
inductive Gro (h : HF) (lo n : Nat) (e : TypeId) (sz : Nat) : Value → Nat → List Value → Prop
  | nil : Gro h lo n e sz (.slice none 0 0) 0 []
  | at_ {b len : Nat} {c : List Value} (hg : gro b = true) (hlo : 3 * lo ≤ b) (hb : b < 3 * n) (hr : h b = some (.row c e)) (hl : c.length = len * sz) (ho : ones c = true) : Gro h lo n e sz (.slice (some ⟨b, 0, none⟩) len len) len c
theorem Gro.ext {h h' : HF} {lo n n' : Nat} {e : TypeId} {sz len : Nat} {v : Value} {c : List Value} (g : Gro h lo n e sz v len c) (he : Ext n h h') (hn : n ≤ n') : Gro h' lo n' e sz v len c := by
  cases g with
  | nil => exact .nil
  | at_ hg hlo hb hr hl ho => exact .at_ hg hlo (by omega) (by rw [he _ hb]; exact hr) hl ho
theorem Gro.sl {h : HF} {lo n : Nat} {e : TypeId} {sz len : Nat} {v : Value} {c : List Value} (g : Gro h lo n e sz v len c) : Sl h n sz v c := by
  cases g with
  | nil => exact .nil (.inl rfl)
  | at_ hg hlo hb hr hl ho => exact .at_ hb hr rfl (Nat.le_refl _) (by omega) (by rw [List.drop_zero, List.take_of_length_le (by omega)])
theorem Gro.fresh {h : HF} {lo n : Nat} {e : TypeId} {sz len : Nat} {v : Value} {c : List Value} (g : Gro h lo n e sz v len c) : Fresh lo v := by
  cases g with
  | nil => trivial
  | at_ hg hlo hb hr hl ho => exact hlo
theorem Gro.shape {h : HF} {lo n : Nat} {e : TypeId} {sz len : Nat} {v : Value} {c : List Value} (g : Gro h lo n e sz v len c) : ∃ a, v = .slice a len len ∧ c.length = len * sz := by
  cases g with
  | nil => exact ⟨_, rfl, by simp⟩
  | at_ hg hlo hb hr hl ho => exact ⟨_, rfl, hl⟩
/-- All but the block of v stays. -/
def Keep (v : Value) (n : Nat) (h h' : HF) : Prop := ∀ b, b < 3 * n → (∀ o l c, v ≠ .slice (some ⟨b, o, none⟩) l c) → h' b = h b
def Below (m : Nat) : Value → Prop
  | .slice (some a) _ _ => a.block < 3 * m
  | _ => True
theorem Gro.below {h : HF} {lo n : Nat} {e : TypeId} {sz len : Nat} {v : Value} {c : List Value} (g : Gro h lo n e sz v len c) : Below n v := by
  cases g with
  | nil => trivial
  | at_ hg hlo hb hr hl ho => exact hb
theorem Sl.below {h : HF} {n sz : Nat} {v : Value} {c : List Value} (s : Sl h n sz v c) : Below n v := by
  cases s with
  | nil ha =>
    rcases ha with rfl | ⟨b, off, rfl, hb⟩
    · trivial
    · exact hb
  | at_ hb hx hc hcap hl he => exact hb
theorem Sl.app {h h' : HF} {n n' m sz : Nat} {u v : Value} {c : List Value} (s : Sl h n sz u c) (hk : Keep v n h h') (hv : Below m v) (hf : Fresh m u) (hn : n ≤ n') : Sl h' n' sz u c := by
  cases s with
  | nil ha => exact .nil (nil_mono ha hn)
  | at_ hb hx hc hcap hl he =>
    refine .at_ (by omega) ?_ hc hcap hl he
    rw [hk _ hb fun o l c e => by subst e; have h1 : _ < 3 * m := hv; have h2 : 3 * m ≤ _ := hf; simp only at h1 h2; omega]
    exact hx
theorem ones_append {a b : List Value} (ha : ones a = true) (hb : ones b = true) : ones (a ++ b) = true := by
  induction a with
  | nil => exact hb
  | cons v a ih => cases v <;> simp [ones] at ha ⊢ <;> exact ih ha
theorem gro_new (n : Nat) : gro (3 * n + 1) = true := by
  unfold gro
  rw [show (3 * n + 1) % 3 = 1 from by omega]
  rfl
theorem addW_big {n0 : Nat} {W w : List Nat} (h : ∀ b ∈ W, 3 * n0 ≤ b) : addW n0 W w = w := by
  induction W generalizing w with
  | nil => rfl
  | cons b W ih =>
    show (match Nat.ble (3 * n0) b with | true => addW n0 W w | false => addW n0 W (b :: w)) = w
    rw [Nat.ble_eq_true_of_le (h b (by simp))]
    exact ih fun c hc => h c (by simp [hc])
theorem append_Gro {E : Env} {h : HF} {lo n len : Nat} {sT e : TypeId} {size bytes m : Nat} {z x v : Value} {c new : List Value} (hu : E.und sT = some (.slice e)) (hi : E.inf e = some (size, bytes, z)) (hz : (vcells z).length = size) (h1 : 1 ≤ size ∧ 1 ≤ bytes) (hg : Gro h lo n e size v len c) (hx : argS h size x m new) (hm : 1 ≤ m) (hb : (len + m) * bytes ≤ 1099511627776) (hl : new.length = m * size) (ho : ones new = true) (hlo : lo ≤ n) :
    ∃ v' h' W, appendF E h n sT v x = some (.val v' h' (n + 1) W) ∧ Gro h' lo (n + 1) e size v' (len + m) (c ++ new) ∧ Ext lo h h' ∧ Keep v n h h' ∧ (∀ b ∈ W, 3 * lo ≤ b) ∧ Fresh n v' := by
  cases hg with
  | nil =>
    refine ⟨_, _, _, append_nil hu hi hz h1.1 h1.2 hx hm (by rw [Nat.zero_add] at hb; exact hb), ?_, fun b hb => upd_ne (by omega), fun b hb _ => upd_ne (by omega), fun b hb => absurd hb List.not_mem_nil, by show 3 * n ≤ 3 * n + 1; omega⟩
    rw [Nat.zero_add]
    exact .at_ (gro_new n) (by omega) (by omega) (upd_same _ _ _) hl ho
  | at_ hg hlo2 hb2 hr hl2 ho2 =>
    refine ⟨_, _, _, append_gro hu hi hz h1.1 h1.2 hx hm hb hg hr hl2 (ones_append ho2 ho) hl, ?_, fun b hb => ?_, fun b hb hne => ?_, fun b hb => ?_, by show 3 * n ≤ 3 * n + 1; omega⟩
    · exact .at_ (gro_new n) (by omega) (by omega) (upd_same _ _ _) (by rw [List.length_append, hl2, hl, Nat.add_mul]) (ones_append ho2 ho)
    · rw [upd_ne (by omega), upd_ne (by omega)]
    · rw [upd_ne (by omega), upd_ne (fun e => hne 0 len len (by rw [e]))]
    · simp at hb; omega
section
variable {X : CtxF} {ops r : List Oper} {t : TF} {h : HF} {n : Nat} {w : List Nat} {Q : SV → Prop} {o : Oper} {d : Tmp}
theorem st_app {xT sT e : TypeId} {s x : Operand} {lo len size bytes m : Nat} {z : Value} {c new : List Value} (hw : wantsF ops t o = true) (hd : o.dst = some d) (hn : dstOk X.nt (some d) = true) (ho : o.op = .call { callee := .builtin .append, args := #[s, x], argTypes := #[sT, xT] }) (hxT : (match X.E.und xT with | some (.int _) => false | none => false | _ => true) = true)
    (hu : X.E.und sT = some (.slice e)) (hi : X.E.inf e = some (size, bytes, z)) (hz : (vcells z).length = size) (h1 : 1 ≤ size ∧ 1 ≤ bytes) (hg : Gro h lo n e size (evF t s) len c) (hx : argS h size (evF t x) m new) (hm : 1 ≤ m) (hb : (len + m) * bytes ≤ 1099511627776) (hl : new.length = m * size) (hon : ones new = true) (hlo : X.n0 ≤ lo ∧ lo ≤ n)
    (k : ∀ v' h', Gro h' lo (n + 1) e size v' (len + m) (c ++ new) → Ext lo h h' → Keep (evF t s) n h h' → EO X ops r ⟨upd t d v', h', n + 1, w⟩ Q) : EO X ops (o :: r) ⟨t, h, n, w⟩ Q := by
  obtain ⟨v', h', W, h2, h3, h4, h6, h5, _⟩ := append_Gro hu hi hz h1 hg hx hm hb hl hon hlo.2
  refine st_append hw hd hn ho hxT h2 ?_
  rw [addW_big fun b hb => by have := h5 b hb; omega]
  exact k v' h' h3 h4 h6
end
theorem Sl.take {h : HF} {n sz : Nat} {a : Option Addr} {len cap : Nat} {c : List Value} (s : Sl h n sz (.slice a len cap) c) (m : Nat) (hm : m ≤ len) : Sl h n sz (.slice a m cap) (c.take (m * sz)) := by
  have hb := s.below
  by_cases h0 : len = 0
  · have : m = 0 := by omega
    subst this
    rw [Nat.zero_mul, List.take_zero]
    cases a with
    | none => exact .nil (.inl rfl)
    | some a =>
      cases s with
      | nil ha => exact .nil ha
      | at_ hb hx hc hcap hl he => exact .nil (.inr ⟨_, _, rfl, hb⟩)
  · obtain ⟨b, off, x, cs, rfl, hb3, hx, hc, hcap, hle, he⟩ := s.inv h0
    have hms : m * sz ≤ len * sz := Nat.mul_le_mul_right _ hm
    refine .at_ hb3 hx hc (by omega) (by omega) ?_
    rw [← he, List.take_take, Nat.min_eq_left hms]
theorem argS_of {h : HF} {b len cap sz : Nat} {x : BF} {cs : List Value} (hx : h b = some x) (hc : x.cells = some cs) (hl : cs.length = len * sz) : argS h sz (.slice (some ⟨b, 0, none⟩) len cap) len cs := by
  refine ⟨rfl, ?_⟩
  simp only [argCellsF]
  by_cases h0 : len * sz = 0
  · rw [if_pos h0]
    rw [h0] at hl
    rw [List.length_eq_zero_iff.1 hl]
  · rw [if_neg h0]
    have : Nat.ble (0 + len * sz) cs.length = true := Nat.ble_eq_true_of_le (by omega)
    simp only [loadNF, hx, hc, this, Option.isNone_none, Bool.and_self, List.drop_zero]
    rw [List.take_of_length_le (by omega)]
theorem argS_sl {h : HF} {n sz : Nat} {a : Option Addr} {len cap : Nat} {c : List Value} (s : Sl h n sz (.slice a len cap) c) : argS h sz (.slice a len cap) len c := by
  cases s with
  | nil ha =>
    refine ⟨rfl, ?_⟩
    rcases ha with rfl | ⟨b, off, rfl, _⟩ <;> simp [argCellsF]
  | at_ hb hx hc hcap hl he =>
    refine ⟨rfl, ?_⟩
    simp only [argCellsF]
    by_cases h0 : len * sz = 0
    · rw [if_pos h0, ← he, h0]; simp
    · rw [if_neg h0]
      have : Nat.ble (_ + len * sz) _ = true := Nat.ble_eq_true_of_le hl
      simp only [loadNF, hx, hc, this, Option.isNone_none, Bool.and_self, he]
end Go.Proofs.YtokfihhdllmbmaaGreatDoor
namespace Go.Proofs.YtokfihhdllmbmaaGreatDoor
open Go Go.GL
/-! Package sosoptnum, first part. -/
def u32s (l : List Nat) : List Value := l.map fun d : Nat => Value.int .u32 (d : Int)
theorem u32s_len (l : List Nat) : (u32s l).length = l.length := by simp [u32s]
theorem u32s_append (a b : List Nat) : u32s (a ++ b) = u32s a ++ u32s b := by simp [u32s]
def trimL (l : List Nat) : List Nat := (l.reverse.dropWhile (· == 0)).reverse
theorem trimL_zero (l : List Nat) : trimL (l ++ [0]) = trimL l := by simp [trimL]
theorem trimL_pos (l : List Nat) {d : Nat} (h : d ≠ 0) : trimL (l ++ [d]) = l ++ [d] := by simp [trimL, h]
theorem snoc {l : List Nat} (h : l ≠ []) : ∃ i d, l = i ++ [d] := ⟨l.dropLast, l.getLast h, (List.dropLast_concat_getLast h).symm⟩
theorem cell_at {cs cells : List Value} {off m j : Nat} {u : Value} (he : (cs.drop off).take m = cells) (hj : cells[j]? = some u) : cs[off + j]? = some u := by
  have hlt := (List.getElem?_eq_some_iff.1 hj).1
  rw [← he] at hj hlt
  have : j < m := by simp at hlt; omega
  rw [List.getElem?_take_of_lt this, List.getElem?_drop] at hj
  exact hj

set_option maxHeartbeats 1000000
theorem trim_ok (k : Nat) {h : HF} {n : Nat} {a : Option Addr} {len cap : Nat} {l : List Nat} (hb : l.length < 4611686018427387904) (hv : Sl h n 1 (.slice a len cap) (u32s l)) : CF (cal (k + 1)) 157 [.slice a len cap] h n fun v' h' n' w => h' = h ∧ n' = n ∧ w = [] ∧ v' = .slice a (trimL l).length cap ∧ Sl h n 1 v' (u32s (trimL l)) := by
  refine CF_heap (fn := Tryz.f157) rfl rfl rfl rfl ?_
  simp only [EC_seq, EC_region, EC_block, EC_scope, EC_skip, EC_exit, EC_ret, EC_label, EO_nil, ED_nil, after_normal, after_exit, after_ret, leave_normal, leave_exit, leave_ret, goesOn_exit, goesOn_ret, cut_exit, cut_ret, cutx_exit, cutx_ret, reduceIte, Nat.reduceEqDiff, reduceCtorEq, Nat.one_ne_zero, Nat.zero_ne_one]
  repeat (first | refine st_gtT rfl rfl rfl rfl rfl rfl (by omega) ?_ | refine st_eqT rfl rfl rfl rfl rfl rfl (by omega) ?_ | refine st_eqF rfl rfl rfl rfl rfl rfl (by omega) ?_ | refine st_gt rfl rfl rfl rfl rfl rfl ?_ | refine st_sub rfl rfl rfl rfl rfl rfl (by omega) ?_ | refine st_I rfl rfl rfl rfl rfl ?_ | refine st_B rfl rfl rfl rfl rfl ?_ | refine st_S rfl rfl rfl rfl rfl ?_ | refine st_off rfl rfl rfl ?_)
  simp only [EC_seq, EC_region, EC_block, EC_scope, EC_skip, EC_exit, EC_ret, EC_label, EO_nil, ED_nil, after_normal, after_exit, after_ret, leave_normal, leave_exit, leave_ret, goesOn_exit, goesOn_ret, cut_exit, cut_ret, cutx_exit, cutx_ret, reduceIte, Nat.reduceEqDiff, reduceCtorEq, Nat.one_ne_zero, Nat.zero_ne_one]
  have hlen0 : len = l.length := by
    obtain ⟨a', len', cap', e, hl⟩ := hv.len
    rw [u32s_len] at hl
    injection e with e1 e2 e3
    omega
  subst hlen0
  refine EC_for (α := List Nat) (fun l' => [(0, .slice a l'.length cap)]) (fun l' h' n' w => h' = h ∧ n' = n ∧ w = [] ∧ Sl h n 1 (.slice a l'.length cap) (u32s l') ∧ trimL l' = trimL l ∧ l'.length < 4611686018427387904) (fun l' => l'.length) l ⟨rfl, trivial⟩ ⟨rfl, rfl, rfl, hv, rfl, hb⟩ (by show l.length < LL; unfold LL; omega) ?_
  rintro l' t _ _ _ ⟨rfl, rfl, rfl, hs, ht, hm⟩
  simp only [EC_seq, EC_region, EC_block, EC_scope, EC_skip, EC_exit, EC_ret, EC_label, EO_nil, ED_nil, after_normal, after_exit, after_ret, leave_normal, leave_exit, leave_ret, goesOn_exit, goesOn_ret, cut_exit, cut_ret, cutx_exit, cutx_ret, reduceIte, Nat.reduceEqDiff, reduceCtorEq, Nat.one_ne_zero, Nat.zero_ne_one]
  by_cases hl0 : l' = []
  · subst hl0
    repeat (first | refine st_gtT rfl rfl rfl rfl rfl rfl (by omega) ?_ | refine st_eqT rfl rfl rfl rfl rfl rfl (by omega) ?_ | refine st_eqF rfl rfl rfl rfl rfl rfl (by omega) ?_ | refine st_gt rfl rfl rfl rfl rfl rfl ?_ | refine st_sub rfl rfl rfl rfl rfl rfl (by omega) ?_ | refine st_I rfl rfl rfl rfl rfl ?_ | refine st_B rfl rfl rfl rfl rfl ?_ | refine st_S rfl rfl rfl rfl rfl ?_ | refine st_off rfl rfl rfl ?_)
    simp only [EC_seq, EC_region, EC_block, EC_scope, EC_skip, EC_exit, EC_ret, EC_label, EO_nil, ED_nil, after_normal, after_exit, after_ret, leave_normal, leave_exit, leave_ret, goesOn_exit, goesOn_ret, cut_exit, cut_ret, cutx_exit, cutx_ret, reduceIte, Nat.reduceEqDiff, reduceCtorEq, Nat.one_ne_zero, Nat.zero_ne_one]
    rw [EC_cond_false rfl]
    simp only [EC_seq, EC_region, EC_block, EC_scope, EC_skip, EC_exit, EC_ret, EC_label, EO_nil, ED_nil, after_normal, after_exit, after_ret, leave_normal, leave_exit, leave_ret, goesOn_exit, goesOn_ret, cut_exit, cut_ret, cutx_exit, cutx_ret, reduceIte, Nat.reduceEqDiff, reduceCtorEq, Nat.one_ne_zero, Nat.zero_ne_one]
    repeat (first | refine st_gtT rfl rfl rfl rfl rfl rfl (by omega) ?_ | refine st_eqT rfl rfl rfl rfl rfl rfl (by omega) ?_ | refine st_eqF rfl rfl rfl rfl rfl rfl (by omega) ?_ | refine st_gt rfl rfl rfl rfl rfl rfl ?_ | refine st_sub rfl rfl rfl rfl rfl rfl (by omega) ?_ | refine st_I rfl rfl rfl rfl rfl ?_ | refine st_B rfl rfl rfl rfl rfl ?_ | refine st_S rfl rfl rfl rfl rfl ?_ | refine st_off rfl rfl rfl ?_)
    simp only [EC_seq, EC_region, EC_block, EC_scope, EC_skip, EC_exit, EC_ret, EC_label, EO_nil, ED_nil, after_normal, after_exit, after_ret, leave_normal, leave_exit, leave_ret, goesOn_exit, goesOn_ret, cut_exit, cut_ret, cutx_exit, cutx_ret, reduceIte, Nat.reduceEqDiff, reduceCtorEq, Nat.one_ne_zero, Nat.zero_ne_one]
    refine retH _ rfl (resF_tmp rfl) rfl ⟨rfl, rfl, rfl, ?_⟩
    rw [← ht]
    exact ⟨rfl, hs⟩
  · obtain ⟨i, d, rfl⟩ := snoc hl0
    rw [List.length_append, List.length_singleton] at *
    cases hs with
    | at_ hb2 hx hc hcap hle he =>
      rename_i b off x cs
      have hcell : cs[off + i.length]? = some (.int .u32 (d : Int)) := cell_at he (by simp [u32s])
      repeat (first | refine st_gtT rfl rfl rfl rfl rfl rfl (by omega) ?_ | refine st_eqT rfl rfl rfl rfl rfl rfl (by omega) ?_ | refine st_eqF rfl rfl rfl rfl rfl rfl (by omega) ?_ | refine st_gt rfl rfl rfl rfl rfl rfl ?_ | refine st_sub rfl rfl rfl rfl rfl rfl (by omega) ?_ | refine st_I rfl rfl rfl rfl rfl ?_ | refine st_B rfl rfl rfl rfl rfl ?_ | refine st_S rfl rfl rfl rfl rfl ?_ | refine st_off rfl rfl rfl ?_)
      refine st_idx rfl rfl rfl rfl rfl rfl rfl rfl (by omega) ?_
      refine st_load1 rfl rfl rfl rfl rfl rfl hx hc (v := .int .u32 (d : Int)) (by rw [← hcell]; congr 1; omega) ?_
      by_cases hd : d = 0
      · repeat (first | refine st_gtT rfl rfl rfl rfl rfl rfl (by omega) ?_ | refine st_eqT rfl rfl rfl rfl rfl rfl (by omega) ?_ | refine st_eqF rfl rfl rfl rfl rfl rfl (by omega) ?_ | refine st_gt rfl rfl rfl rfl rfl rfl ?_ | refine st_sub rfl rfl rfl rfl rfl rfl (by omega) ?_ | refine st_I rfl rfl rfl rfl rfl ?_ | refine st_B rfl rfl rfl rfl rfl ?_ | refine st_S rfl rfl rfl rfl rfl ?_ | refine st_off rfl rfl rfl ?_)
        simp only [EC_seq, EC_region, EC_block, EC_scope, EC_skip, EC_exit, EC_ret, EC_label, EO_nil, ED_nil, after_normal, after_exit, after_ret, leave_normal, leave_exit, leave_ret, goesOn_exit, goesOn_ret, cut_exit, cut_ret, cutx_exit, cutx_ret, reduceIte, Nat.reduceEqDiff, reduceCtorEq, Nat.one_ne_zero, Nat.zero_ne_one]
        rw [EC_cond_true rfl]
        simp only [EC_seq, EC_region, EC_block, EC_scope, EC_skip, EC_exit, EC_ret, EC_label, EO_nil, ED_nil, after_normal, after_exit, after_ret, leave_normal, leave_exit, leave_ret, goesOn_exit, goesOn_ret, cut_exit, cut_ret, cutx_exit, cutx_ret, reduceIte, Nat.reduceEqDiff, reduceCtorEq, Nat.one_ne_zero, Nat.zero_ne_one]
        repeat (first | refine st_gtT rfl rfl rfl rfl rfl rfl (by omega) ?_ | refine st_eqT rfl rfl rfl rfl rfl rfl (by omega) ?_ | refine st_eqF rfl rfl rfl rfl rfl rfl (by omega) ?_ | refine st_gt rfl rfl rfl rfl rfl rfl ?_ | refine st_sub rfl rfl rfl rfl rfl rfl (by omega) ?_ | refine st_I rfl rfl rfl rfl rfl ?_ | refine st_B rfl rfl rfl rfl rfl ?_ | refine st_S rfl rfl rfl rfl rfl ?_ | refine st_off rfl rfl rfl ?_)
        refine st_sliceHi i.length rfl rfl rfl rfl rfl rfl rfl rfl (by omega) (by omega) ?_
        repeat (first | refine st_gtT rfl rfl rfl rfl rfl rfl (by omega) ?_ | refine st_eqT rfl rfl rfl rfl rfl rfl (by omega) ?_ | refine st_eqF rfl rfl rfl rfl rfl rfl (by omega) ?_ | refine st_gt rfl rfl rfl rfl rfl rfl ?_ | refine st_sub rfl rfl rfl rfl rfl rfl (by omega) ?_ | refine st_I rfl rfl rfl rfl rfl ?_ | refine st_B rfl rfl rfl rfl rfl ?_ | refine st_S rfl rfl rfl rfl rfl ?_ | refine st_off rfl rfl rfl ?_)
        simp only [EC_seq, EC_region, EC_block, EC_scope, EC_skip, EC_exit, EC_ret, EC_label, EO_nil, ED_nil, after_normal, after_exit, after_ret, leave_normal, leave_exit, leave_ret, goesOn_exit, goesOn_ret, cut_exit, cut_ret, cutx_exit, cutx_ret, reduceIte, Nat.reduceEqDiff, reduceCtorEq, Nat.one_ne_zero, Nat.zero_ne_one]
        refine goOn i (by simp) ⟨rfl, trivial⟩ ⟨rfl, rfl, rfl, .at_ hb2 hx hc (by omega) (by omega) ?_, ?_, by omega⟩
        · have := congrArg (List.take i.length) he
          rw [List.take_take] at this
          simpa [u32s, Nat.min_eq_left] using this
        · rw [← ht, hd, trimL_zero]
      · repeat (first | refine st_gtT rfl rfl rfl rfl rfl rfl (by omega) ?_ | refine st_eqT rfl rfl rfl rfl rfl rfl (by omega) ?_ | refine st_eqF rfl rfl rfl rfl rfl rfl (by omega) ?_ | refine st_gt rfl rfl rfl rfl rfl rfl ?_ | refine st_sub rfl rfl rfl rfl rfl rfl (by omega) ?_ | refine st_I rfl rfl rfl rfl rfl ?_ | refine st_B rfl rfl rfl rfl rfl ?_ | refine st_S rfl rfl rfl rfl rfl ?_ | refine st_off rfl rfl rfl ?_)
        simp only [EC_seq, EC_region, EC_block, EC_scope, EC_skip, EC_exit, EC_ret, EC_label, EO_nil, ED_nil, after_normal, after_exit, after_ret, leave_normal, leave_exit, leave_ret, goesOn_exit, goesOn_ret, cut_exit, cut_ret, cutx_exit, cutx_ret, reduceIte, Nat.reduceEqDiff, reduceCtorEq, Nat.one_ne_zero, Nat.zero_ne_one]
        rw [EC_cond_false rfl]
        simp only [EC_seq, EC_region, EC_block, EC_scope, EC_skip, EC_exit, EC_ret, EC_label, EO_nil, ED_nil, after_normal, after_exit, after_ret, leave_normal, leave_exit, leave_ret, goesOn_exit, goesOn_ret, cut_exit, cut_ret, cutx_exit, cutx_ret, reduceIte, Nat.reduceEqDiff, reduceCtorEq, Nat.one_ne_zero, Nat.zero_ne_one]
        repeat (first | refine st_gtT rfl rfl rfl rfl rfl rfl (by omega) ?_ | refine st_eqT rfl rfl rfl rfl rfl rfl (by omega) ?_ | refine st_eqF rfl rfl rfl rfl rfl rfl (by omega) ?_ | refine st_gt rfl rfl rfl rfl rfl rfl ?_ | refine st_sub rfl rfl rfl rfl rfl rfl (by omega) ?_ | refine st_I rfl rfl rfl rfl rfl ?_ | refine st_B rfl rfl rfl rfl rfl ?_ | refine st_S rfl rfl rfl rfl rfl ?_ | refine st_off rfl rfl rfl ?_)
        simp only [EC_seq, EC_region, EC_block, EC_scope, EC_skip, EC_exit, EC_ret, EC_label, EO_nil, ED_nil, after_normal, after_exit, after_ret, leave_normal, leave_exit, leave_ret, goesOn_exit, goesOn_ret, cut_exit, cut_ret, cutx_exit, cutx_ret, reduceIte, Nat.reduceEqDiff, reduceCtorEq, Nat.one_ne_zero, Nat.zero_ne_one]
        refine retH _ rfl (resF_tmp rfl) rfl ⟨rfl, rfl, rfl, ?_⟩
        rw [← ht, trimL_pos _ hd]
        exact ⟨by rw [List.length_append]; rfl, .at_ hb2 hx hc hcap hle he⟩
end Go.Proofs.YtokfihhdllmbmaaGreatDoor
namespace Go.Proofs.YtokfihhdllmbmaaGreatDoor
open Go Go.GL
/-! Package sosoptnum: integers. -/
def val : List Nat → Nat
  | [] => 0
  | d :: r => d + 4294967296 * val r
def Dig (l : List Nat) : Prop := ∀ d ∈ l, d < 4294967296
theorem val_append (a b : List Nat) : val (a ++ b) = val a + 4294967296 ^ a.length * val b := by
  induction a with
  | nil => simp [val]
  | cons d a ih =>
    simp only [List.cons_append, val, ih, List.length_cons, Nat.pow_succ, Nat.mul_add]
    rw [← Nat.mul_assoc, Nat.mul_comm (4294967296 ^ a.length) 4294967296]
    omega
theorem val_lt {l : List Nat} (h : Dig l) : val l < 4294967296 ^ l.length := by
  induction l with
  | nil => simp [val]
  | cons d l ih =>
    have h1 := h d (by simp)
    have h2 := ih fun x hx => h x (by simp [hx])
    simp only [val, List.length_cons, Nat.pow_succ]
    omega
theorem trimL_induct {P : List Nat → Prop} (hz : ∀ l, P l → P (l ++ [0])) (hp : ∀ l d, d ≠ 0 → P (l ++ [d])) (h0 : P []) : ∀ l, P l := by
  intro l
  induction h : l.length generalizing l with
  | zero => rw [List.length_eq_zero_iff.1 h]; exact h0
  | succ m ih =>
    obtain ⟨i, d, rfl⟩ := snoc (l := l) (by intro e; rw [e] at h; simp at h)
    by_cases hd : d = 0
    · subst hd; exact hz i (ih i (by simpa using h))
    · exact hp i d hd
theorem trimL_val : ∀ l, val (trimL l) = val l :=
  trimL_induct (fun l ih => by rw [trimL_zero, ih, val_append]; simp [val]) (fun l d hd => by rw [trimL_pos l hd]) rfl
theorem trimL_idem : ∀ l, trimL (trimL l) = trimL l :=
  trimL_induct (fun l ih => by rw [trimL_zero, ih]) (fun l d hd => by rw [trimL_pos l hd, trimL_pos l hd]) rfl
theorem trimL_dig : ∀ l, Dig l → Dig (trimL l) :=
  trimL_induct (fun l ih h => by rw [trimL_zero]; exact ih fun d hd => h d (by simp [hd])) (fun l d hd h => by rw [trimL_pos l hd]; exact h) (fun h => h)
theorem trimL_len : ∀ l, (trimL l).length ≤ l.length :=
  trimL_induct (fun l ih => by rw [trimL_zero]; simp; omega) (fun l d hd => by rw [trimL_pos l hd]; exact Nat.le_refl _) (by simp [trimL])
/-- Digits without zeros at the end. -/
def Norm (l : List Nat) : Prop := Dig l ∧ trimL l = l
theorem Norm.trim {l : List Nat} (h : Dig l) : Norm (trimL l) := ⟨trimL_dig l h, trimL_idem l⟩
theorem Norm.last {l : List Nat} {d : Nat} (h : Norm (l ++ [d])) : d ≠ 0 := fun e => by
  have h2 := h.2
  subst e
  rw [trimL_zero] at h2
  have := trimL_len l
  rw [h2] at this
  simp at this
  omega
theorem Norm.pos {l : List Nat} (h : Norm l) (hl : l ≠ []) : 0 < val l := by
  obtain ⟨i, d, rfl⟩ := snoc hl
  have hd := h.last
  rw [val_append]
  have : 0 < 4294967296 ^ i.length := Nat.pow_pos (by omega)
  have h3 : 0 < val [d] := by simp [val]; omega
  have := Nat.mul_pos this h3
  omega
theorem Norm.zero {l : List Nat} (h : Norm l) : val l = 0 ↔ l = [] := by
  constructor
  · intro hv
    apply Classical.byContradiction
    intro hl
    have := h.pos hl
    omega
  · rintro rfl; rfl
/-- An integer in memory: its sign and the slice of its digits. -/
structure IntR (h : HF) (n : Nat) (c1 c2 : Value) (x : Int) (l : List Nat) : Prop where
  neg : c1 = .bool (decide (x < 0))
  sl : Sl h n 1 c2 (u32s l)
  norm : Norm l
  val : val l = x.natAbs
theorem IntR.ext {h h' : HF} {n n' : Nat} {c1 c2 : Value} {x : Int} {l : List Nat} (r : IntR h n c1 c2 x l) (e : Ext n h h') (hn : n ≤ n') : IntR h' n' c1 c2 x l := ⟨r.neg, r.sl.ext e hn, r.norm, r.val⟩
theorem IntR.old {h : HF} {n m b : Nat} {c1 c2 : Value} {x : Int} {l : List Nat} {y : Option BF} (r : IntR h n c1 c2 x l) (hf : Fresh m c2) (hb : b < 3 * m) : IntR (upd h b y) n c1 c2 x l := ⟨r.neg, r.sl.old hf hb, r.norm, r.val⟩

set_option maxHeartbeats 1000000
theorem make1_ok (k : Nat) (h : HF) (n : Nat) (neg : Bool) (a : Option Addr) (l c : Nat) : CF (cal (k + 1)) 146 [.bool neg, .slice a l c] h n fun v h' n' w => v = .agg #[.bool (neg && decide (0 < l)), .slice a l c] ∧ n' = n + 1 ∧ w = [] ∧ Ext n h h' := by
  refine CF_heap (fn := Tryz.f146) rfl rfl rfl rfl ?_
  simp only [EC_seq, EC_region, EC_block, EC_scope, EC_skip, EC_exit, EC_ret, EC_label, EO_nil, ED_nil, after_normal, after_exit, after_ret, leave_normal, leave_exit, leave_ret, goesOn_exit, goesOn_ret, cut_exit, cut_ret, cutx_exit, cutx_ret, reduceIte, Nat.reduceEqDiff, reduceCtorEq, Nat.one_ne_zero, Nat.zero_ne_one]
  refine st_alloc rfl rfl rfl rfl rfl ?_
  simp only [EC_seq, EC_region, EC_block, EC_scope, EC_skip, EC_exit, EC_ret, EC_label, EO_nil, ED_nil, after_normal, after_exit, after_ret, leave_normal, leave_exit, leave_ret, goesOn_exit, goesOn_ret, cut_exit, cut_ret, cutx_exit, cutx_ret, reduceIte, Nat.reduceEqDiff, reduceCtorEq, Nat.one_ne_zero, Nat.zero_ne_one]
  cases neg
  · repeat (first | refine st_gtT rfl rfl rfl rfl rfl rfl (by omega) ?_ | refine st_gtF rfl rfl rfl rfl rfl rfl (by omega) ?_ | refine st_I rfl rfl rfl rfl rfl ?_ | refine st_B rfl rfl rfl rfl rfl ?_ | refine st_S rfl rfl rfl rfl rfl ?_ | refine st_A rfl rfl rfl rfl rfl ?_ | refine st_off rfl rfl rfl ?_)
    refine st_storeW [.bool false, .slice a l c] rfl rfl rfl rfl rfl rfl rfl rfl (upd_same _ _ _) rfl (by show 3 * n ≤ _; omega) ?_
    simp only [EC_seq, EC_region, EC_block, EC_scope, EC_skip, EC_exit, EC_ret, EC_label, EO_nil, ED_nil, after_normal, after_exit, after_ret, leave_normal, leave_exit, leave_ret, goesOn_exit, goesOn_ret, cut_exit, cut_ret, cutx_exit, cutx_ret, reduceIte, Nat.reduceEqDiff, reduceCtorEq, Nat.one_ne_zero, Nat.zero_ne_one]
    exact retCell rfl rfl rfl rfl rfl (upd_same _ _ _) rfl ⟨rfl, rfl, rfl, by rw [upd_upd]; exact Ext.upd (by omega)⟩
  · by_cases hl : 0 < l
    · repeat (first | refine st_gtT rfl rfl rfl rfl rfl rfl (by omega) ?_ | refine st_gtF rfl rfl rfl rfl rfl rfl (by omega) ?_ | refine st_I rfl rfl rfl rfl rfl ?_ | refine st_B rfl rfl rfl rfl rfl ?_ | refine st_S rfl rfl rfl rfl rfl ?_ | refine st_A rfl rfl rfl rfl rfl ?_ | refine st_off rfl rfl rfl ?_)
      refine st_storeW [.bool true, .slice a l c] rfl rfl rfl rfl rfl rfl rfl rfl (upd_same _ _ _) rfl (by show 3 * n ≤ _; omega) ?_
      simp only [EC_seq, EC_region, EC_block, EC_scope, EC_skip, EC_exit, EC_ret, EC_label, EO_nil, ED_nil, after_normal, after_exit, after_ret, leave_normal, leave_exit, leave_ret, goesOn_exit, goesOn_ret, cut_exit, cut_ret, cutx_exit, cutx_ret, reduceIte, Nat.reduceEqDiff, reduceCtorEq, Nat.one_ne_zero, Nat.zero_ne_one]
      exact retCell rfl rfl rfl rfl rfl (upd_same _ _ _) rfl ⟨by rw [decide_eq_true hl]; rfl, rfl, rfl, by rw [upd_upd]; exact Ext.upd (by omega)⟩
    · repeat (first | refine st_gtT rfl rfl rfl rfl rfl rfl (by omega) ?_ | refine st_gtF rfl rfl rfl rfl rfl rfl (by omega) ?_ | refine st_I rfl rfl rfl rfl rfl ?_ | refine st_B rfl rfl rfl rfl rfl ?_ | refine st_S rfl rfl rfl rfl rfl ?_ | refine st_A rfl rfl rfl rfl rfl ?_ | refine st_off rfl rfl rfl ?_)
      refine st_storeW [.bool false, .slice a l c] rfl rfl rfl rfl rfl rfl rfl rfl (upd_same _ _ _) rfl (by show 3 * n ≤ _; omega) ?_
      simp only [EC_seq, EC_region, EC_block, EC_scope, EC_skip, EC_exit, EC_ret, EC_label, EO_nil, ED_nil, after_normal, after_exit, after_ret, leave_normal, leave_exit, leave_ret, goesOn_exit, goesOn_ret, cut_exit, cut_ret, cutx_exit, cutx_ret, reduceIte, Nat.reduceEqDiff, reduceCtorEq, Nat.one_ne_zero, Nat.zero_ne_one]
      exact retCell rfl rfl rfl rfl rfl (upd_same _ _ _) rfl ⟨by rw [decide_eq_false hl]; rfl, rfl, rfl, by rw [upd_upd]; exact Ext.upd (by omega)⟩
end Go.Proofs.YtokfihhdllmbmaaGreatDoor
namespace Go.Proofs.YtokfihhdllmbmaaGreatDoor
open Go Go.GL
/-! Package sosoptnum: small integers into numbers; signs. -/
theorem wrap_u64_neg (m : Nat) (h : 0 < m ∧ m ≤ 18446744073709551616) : IntKind.wrap .u64 (-(m : Int)) = ((18446744073709551616 - m : Nat) : Int) := by
  simp only [IntKind.wrap, IntKind.signed, IntKind.bits]
  simp
  omega
theorem wrap_u64_zsub (a : Nat) (h : 0 < a ∧ a < 18446744073709551616) : IntKind.wrap .u64 (0 - (a : Int)) = ((18446744073709551616 - a : Nat) : Int) := by
  simp only [IntKind.wrap, IntKind.signed, IntKind.bits]
  simp
  omega
theorem digits2 (m : Nat) (hm : m < 18446744073709551616) : Dig [m % 4294967296, m / 4294967296] ∧ val [m % 4294967296, m / 4294967296] = m := by
  refine ⟨fun d hd => ?_, ?_⟩
  · simp at hd
    rcases hd with rfl | rfl <;> omega
  · simp only [val]; omega
set_option maxHeartbeats 1000000
theorem fromInt_ok (k : Nat) (h : HF) (n : Nat) (x : Int) (hx : -9223372036854775808 ≤ x ∧ x < 9223372036854775808) : CF (cal (k + 2)) 103 [.int .i64 x] h n fun v h' n' w => w = [] ∧ n ≤ n' ∧ Ext n h h' ∧ ∃ c1 c2 l, v = .agg #[c1, c2] ∧ IntR h' n' c1 c2 x l ∧ Fresh n c2 ∧ l.length ≤ 2 := by
  refine CF_heap (fn := Tryz.f103) rfl rfl rfl rfl ?_
  obtain ⟨m, hm⟩ : ∃ m, m = x.natAbs := ⟨_, rfl⟩
  have hm2 : m < 18446744073709551616 := by omega
  simp only [EC_seq, EC_region, EC_block, EC_scope, EC_skip, EC_exit, EC_ret, EC_label, EO_nil, ED_nil, after_normal, after_exit, after_ret, leave_normal, leave_exit, leave_ret, goesOn_exit, goesOn_ret, cut_exit, cut_ret, cutx_exit, cutx_ret, reduceIte, Nat.reduceEqDiff, reduceCtorEq, Nat.one_ne_zero, Nat.zero_ne_one]
  refine st_alloc rfl rfl rfl rfl rfl ?_
  simp only [EC_seq, EC_region, EC_block, EC_scope, EC_skip, EC_exit, EC_ret, EC_label, EO_nil, ED_nil, after_normal, after_exit, after_ret, leave_normal, leave_exit, leave_ret, goesOn_exit, goesOn_ret, cut_exit, cut_ret, cutx_exit, cutx_ret, reduceIte, Nat.reduceEqDiff, reduceCtorEq, Nat.one_ne_zero, Nat.zero_ne_one]
  generalize hh : upd h (3 * n + 2) _ = h1
  have hh1 : ∃ e, h1 (3 * n + 2) = some (.row [.bool false, .slice none 0 0] e) := ⟨_, by rw [← hh, upd_same]; rfl⟩
  have hext : Ext n h h1 := by rw [← hh]; exact Ext.upd (by omega)
  repeat (first | refine st_lt rfl rfl rfl rfl rfl rfl ?_ | refine st_I rfl rfl rfl rfl rfl ?_ | refine st_val (v := .pointer none) rfl rfl rfl rfl rfl ?_)
  refine st_conv (ik := .u64) (a := ((if x < 0 then 18446744073709551616 - m else m : Nat) : Int)) rfl rfl rfl rfl rfl rfl ?_ ?_
  · show some (Value.int .u64 (IntKind.wrap .u64 x)) = _
    by_cases hn : x < 0
    · rw [if_pos hn, show x = -(m : Int) from by omega, wrap_u64_neg m (by omega)]
    · rw [if_neg hn, show x = (m : Int) from by omega, wrap_u64, Nat.mod_eq_of_lt hm2]
  repeat (first | refine st_lt rfl rfl rfl rfl rfl rfl ?_ | refine st_I rfl rfl rfl rfl rfl ?_ | refine st_val (v := .pointer none) rfl rfl rfl rfl rfl ?_)
  simp only [EC_seq, EC_region, EC_block, EC_scope, EC_skip, EC_exit, EC_ret, EC_label, EO_nil, ED_nil, after_normal, after_exit, after_ret, leave_normal, leave_exit, leave_ret, goesOn_exit, goesOn_ret, cut_exit, cut_ret, cutx_exit, cutx_ret, reduceIte, Nat.reduceEqDiff, reduceCtorEq, Nat.one_ne_zero, Nat.zero_ne_one]
  repeat (first | refine st_lt rfl rfl rfl rfl rfl rfl ?_ | refine st_I rfl rfl rfl rfl rfl ?_ | refine st_val (v := .pointer none) rfl rfl rfl rfl rfl ?_)
  simp only [EC_seq, EC_region, EC_block, EC_scope, EC_skip, EC_exit, EC_ret, EC_label, EO_nil, ED_nil, after_normal, after_exit, after_ret, leave_normal, leave_exit, leave_ret, goesOn_exit, goesOn_ret, cut_exit, cut_ret, cutx_exit, cutx_ret, reduceIte, Nat.reduceEqDiff, reduceCtorEq, Nat.one_ne_zero, Nat.zero_ne_one]
  refine EC_cut [(0, .int .i64 x), (2, .pointer (some ⟨3 * n + 2, 0, none⟩)), (3, .int .u64 (m : Int))] (fun h' n' w => h1 = h' ∧ n' = n + 1 ∧ w = []) ?_ ?_
  · by_cases hn : x < 0
    · rw [EC_cond_true (by show Value.bool (decide (x < 0)) = _; rw [decide_eq_true hn])]
      simp only [EC_seq, EC_region, EC_block, EC_scope, EC_skip, EC_exit, EC_ret, EC_label, EO_nil, ED_nil, after_normal, after_exit, after_ret, leave_normal, leave_exit, leave_ret, goesOn_exit, goesOn_ret, cut_exit, cut_ret, cutx_exit, cutx_ret, reduceIte, Nat.reduceEqDiff, reduceCtorEq, Nat.one_ne_zero, Nat.zero_ne_one]
      refine st_I rfl rfl rfl rfl rfl ?_
      refine st_val (v := .int .u64 (m : Int)) rfl rfl rfl rfl ?_ ?_
      · show some (Value.int .u64 (IntKind.wrap .u64 (0 - ((if x < 0 then 18446744073709551616 - m else m : Nat) : Int)))) = _
        rw [if_pos hn, wrap_u64_zsub _ (by omega)]
        congr 3
        omega
      repeat (first | refine st_lt rfl rfl rfl rfl rfl rfl ?_ | refine st_I rfl rfl rfl rfl rfl ?_ | refine st_val (v := .pointer none) rfl rfl rfl rfl rfl ?_)
      simp only [EC_seq, EC_region, EC_block, EC_scope, EC_skip, EC_exit, EC_ret, EC_label, EO_nil, ED_nil, after_normal, after_exit, after_ret, leave_normal, leave_exit, leave_ret, goesOn_exit, goesOn_ret, cut_exit, cut_ret, cutx_exit, cutx_ret, reduceIte, Nat.reduceEqDiff, reduceCtorEq, Nat.one_ne_zero, Nat.zero_ne_one]
      exact cut_mk ⟨rfl, rfl, rfl, trivial⟩ ⟨rfl, rfl, rfl⟩
    · rw [EC_cond_false (by show Value.bool (decide (x < 0)) = _; rw [decide_eq_false hn])]
      simp only [EC_seq, EC_region, EC_block, EC_scope, EC_skip, EC_exit, EC_ret, EC_label, EO_nil, ED_nil, after_normal, after_exit, after_ret, leave_normal, leave_exit, leave_ret, goesOn_exit, goesOn_ret, cut_exit, cut_ret, cutx_exit, cutx_ret, reduceIte, Nat.reduceEqDiff, reduceCtorEq, Nat.one_ne_zero, Nat.zero_ne_one]
      exact cut_mk ⟨rfl, rfl, by show Value.int .u64 ((if x < 0 then 18446744073709551616 - m else m : Nat) : Int) = _; rw [if_neg hn], trivial⟩ ⟨rfl, rfl, rfl⟩
  · rintro t _ _ _ ⟨rfl, rfl, rfl⟩
    simp only [EC_seq, EC_region, EC_block, EC_scope, EC_skip, EC_exit, EC_ret, EC_label, EO_nil, ED_nil, after_normal, after_exit, after_ret, leave_normal, leave_exit, leave_ret, goesOn_exit, goesOn_ret, cut_exit, cut_ret, cutx_exit, cutx_ret, reduceIte, Nat.reduceEqDiff, reduceCtorEq, Nat.one_ne_zero, Nat.zero_ne_one]
    repeat (first | refine st_lt rfl rfl rfl rfl rfl rfl ?_ | refine st_I rfl rfl rfl rfl rfl ?_ | refine st_val (v := .pointer none) rfl rfl rfl rfl rfl ?_)
    refine st_conv_u32 rfl rfl rfl rfl rfl rfl rfl ?_
    (first | refine st_I rfl rfl rfl rfl rfl ?_ | refine st_val (v := .pointer none) rfl rfl rfl rfl rfl ?_)
    refine st_shr_u64 rfl rfl rfl rfl rfl (s := 32) rfl (by omega) ?_
    refine st_conv_u32 rfl rfl rfl rfl rfl rfl rfl ?_
    have hq : m / 2 ^ 32 % 4294967296 = m / 4294967296 := by omega
    rw [hq]
    refine st_mks (cs := u32s [m % 4294967296, m / 4294967296]) rfl rfl rfl rfl rfl ?_
    refine st_call _ rfl rfl rfl rfl rfl (trim_ok k (l := [m % 4294967296, m / 4294967296]) (by simp) (.at_ (by omega) (upd_same _ _ _) rfl (by omega) (by simp [u32s]) rfl)) ?_
    rintro v' _ _ _ ⟨rfl, rfl, rfl, rfl, hs⟩
    refine st_call _ rfl rfl rfl rfl rfl (make1_ok k _ _ (decide (x < 0)) _ _ _) ?_
    generalize hL : trimL [m % 4294967296, m / 4294967296] = L at *
    have hL0 : L.length ≤ 2 := by rw [← hL]; exact trimL_len _
    have hLv : val L = m := by rw [← hL, trimL_val, (digits2 m hm2).2]
    have hLn : Norm L := by rw [← hL]; exact Norm.trim (digits2 m hm2).1
    have hneg : (decide (x < 0) && decide (0 < L.length)) = decide (x < 0) := by
      by_cases hn : x < 0
      · have : L ≠ [] := fun e => by rw [e] at hLv; simp [val] at hLv; omega
        have : 0 < L.length := List.length_pos_iff.2 this
        simp [this]
      · simp [hn]
    rintro v2 h2 n2 _ ⟨rfl, rfl, rfl, hx2⟩
    obtain ⟨e, he⟩ := hh1
    have hb : h2 (3 * n + 2) = some (.row [.bool false, .slice none 0 0] e) := by
      rw [hx2 _ (by omega), upd_ne (by omega)]; exact he
    refine st_storeW [.bool (decide (x < 0)), .slice (some ⟨3 * (n + 1) + 2, 0, none⟩) L.length 2] rfl rfl rfl rfl rfl (by show [Value.bool (decide (x < 0) && decide (0 < L.length)), _] = _; rw [hneg]) rfl rfl hb rfl (by show 3 * n ≤ _; omega) ?_
    simp only [EC_seq, EC_region, EC_block, EC_scope, EC_skip, EC_exit, EC_ret, EC_label, EO_nil, ED_nil, after_normal, after_exit, after_ret, leave_normal, leave_exit, leave_ret, goesOn_exit, goesOn_ret, cut_exit, cut_ret, cutx_exit, cutx_ret, reduceIte, Nat.reduceEqDiff, reduceCtorEq, Nat.one_ne_zero, Nat.zero_ne_one]
    refine retCell rfl rfl rfl rfl rfl (upd_same _ _ _) rfl ⟨rfl, by omega, fun b hb => ?_, _, _, L, rfl, ⟨rfl, ?_, hLn, by rw [hLv, hm]⟩, ?_, hL0⟩
    · rw [upd_ne (by omega), hx2 b (by omega), upd_ne (by omega)]; exact hext b hb
    · exact (hs.ext hx2 (by omega)).old (m := n + 1) (show 3 * (n + 1) ≤ 3 * (n + 1) + 2 by omega) (by omega)
    · show 3 * n ≤ 3 * (n + 1) + 2
      omega

/-- A rational number in memory: its four cells. -/
structure RatR (h : HF) (n : Nat) (n1 n2 d1 d2 : Value) (q : Rat) (ln ld : List Nat) : Prop where
  num : IntR h n n1 n2 q.num ln
  neg : d1 = .bool false
  sl : Sl h n 1 d2 (u32s ld)
  norm : Norm ld
  val : val ld = if q.den = 1 then 0 else q.den
theorem RatR.ext {h h' : HF} {n n' : Nat} {n1 n2 d1 d2 : Value} {q : Rat} {ln ld : List Nat} (r : RatR h n n1 n2 d1 d2 q ln ld) (e : Ext n h h') (hn : n ≤ n') : RatR h' n' n1 n2 d1 d2 q ln ld := ⟨r.num.ext e hn, r.neg, r.sl.ext e hn, r.norm, r.val⟩
theorem Norm.nil : Norm [] := ⟨fun d hd => absurd hd List.not_mem_nil, rfl⟩
theorem r_ok (k : Nat) (h : HF) (n : Nat) (x : Int) (hx : -9223372036854775808 ≤ x ∧ x < 9223372036854775808) : CF (cal (k + 3)) 43 [.int .i64 x] h n fun v h' n' w => w = [] ∧ n ≤ n' ∧ Ext n h h' ∧ ∃ n1 n2 ln, v = .agg #[n1, n2, .bool false, .slice none 0 0] ∧ RatR h' n' n1 n2 (.bool false) (.slice none 0 0) (x : Rat) ln [] ∧ Fresh n n2 ∧ ln.length ≤ 2 := by
  refine CF_heap (fn := Tryz.f43) rfl rfl rfl rfl ?_
  simp only [EC_seq, EC_region, EC_block, EC_scope, EC_skip, EC_exit, EC_ret, EC_label, EO_nil, ED_nil, after_normal, after_exit, after_ret, leave_normal, leave_exit, leave_ret, goesOn_exit, goesOn_ret, cut_exit, cut_ret, cutx_exit, cutx_ret, reduceIte, Nat.reduceEqDiff, reduceCtorEq, Nat.one_ne_zero, Nat.zero_ne_one]
  refine st_alloc rfl rfl rfl rfl rfl ?_
  simp only [EC_seq, EC_region, EC_block, EC_scope, EC_skip, EC_exit, EC_ret, EC_label, EO_nil, ED_nil, after_normal, after_exit, after_ret, leave_normal, leave_exit, leave_ret, goesOn_exit, goesOn_ret, cut_exit, cut_ret, cutx_exit, cutx_ret, reduceIte, Nat.reduceEqDiff, reduceCtorEq, Nat.one_ne_zero, Nat.zero_ne_one]
  repeat (first | refine st_I rfl rfl rfl rfl rfl ?_ | refine st_val (v := .pointer none) rfl rfl rfl rfl rfl ?_)
  refine st_call _ rfl rfl rfl rfl rfl (fromInt_ok k _ _ x hx) ?_
  rintro _ h2 n2 _ ⟨rfl, hn2, hx2, c1, c2, l, rfl, hi, hf, hl⟩
  refine st_val (v := .agg #[c1, c2, .bool false, .slice none 0 0]) rfl rfl rfl rfl rfl ?_
  have h1 : ones [c1, c2, .bool false, .slice none 0 0] = true := by
    rw [hi.neg]
    show ones (c2 :: _) = true
    rw [hi.sl.ones]; rfl
  refine st_storeW [c1, c2, .bool false, .slice none 0 0] rfl rfl rfl rfl rfl rfl rfl h1 (by rw [hx2 _ (by omega), upd_same]) rfl (by show 3 * n ≤ _; omega) ?_
  simp only [EC_seq, EC_region, EC_block, EC_scope, EC_skip, EC_exit, EC_ret, EC_label, EO_nil, ED_nil, after_normal, after_exit, after_ret, leave_normal, leave_exit, leave_ret, goesOn_exit, goesOn_ret, cut_exit, cut_ret, cutx_exit, cutx_ret, reduceIte, Nat.reduceEqDiff, reduceCtorEq, Nat.one_ne_zero, Nat.zero_ne_one]
  refine retCell rfl rfl rfl rfl rfl (upd_same _ _ _) rfl ⟨rfl, by omega, fun b hb => by rw [upd_ne (by omega), hx2 b (by omega), upd_ne (by omega)], c1, c2, l, rfl, ⟨hi.old hf (by omega), rfl, .nil (.inl rfl), Norm.nil, by simp; rfl⟩, hf.mono (by omega), hl⟩
/-- The sign. -/
theorem sign_ok (k : Nat) {h : HF} {n : Nat} {c1 c2 : Value} {x : Int} {l : List Nat} (hi : IntR h n c1 c2 x l) : VF (cal (k + 1)) 104 [.agg #[c1, c2]] h n fun v => v = .int .i64 x.sign := by
  refine CF_flat (fn := Tryz.f104) rfl rfl rfl rfl ?_
  obtain ⟨a, len, cap, rfl, hlen⟩ := hi.sl.len
  have hneg := hi.neg
  subst hneg
  simp only [EC_seq, EC_region, EC_block, EC_scope, EC_skip, EC_exit, EC_ret, EC_label, EO_nil, ED_nil, after_normal, after_exit, after_ret, leave_normal, leave_exit, leave_ret, goesOn_exit, goesOn_ret, cut_exit, cut_ret, cutx_exit, cutx_ret, reduceIte, Nat.reduceEqDiff, reduceCtorEq, Nat.one_ne_zero, Nat.zero_ne_one]
  refine st_mkp (cs := [.bool (decide (x < 0)), .slice a len cap]) rfl rfl rfl rfl rfl ?_
  repeat (first | refine st_eqT rfl rfl rfl rfl rfl rfl (by omega) ?_ | refine st_eqF rfl rfl rfl rfl rfl rfl (by omega) ?_ | refine st_I rfl rfl rfl rfl rfl ?_ | refine st_B rfl rfl rfl rfl rfl ?_ | refine st_P rfl rfl rfl rfl rfl ?_)
  simp only [EC_seq, EC_region, EC_block, EC_scope, EC_skip, EC_exit, EC_ret, EC_label, EO_nil, ED_nil, after_normal, after_exit, after_ret, leave_normal, leave_exit, leave_ret, goesOn_exit, goesOn_ret, cut_exit, cut_ret, cutx_exit, cutx_ret, reduceIte, Nat.reduceEqDiff, reduceCtorEq, Nat.one_ne_zero, Nat.zero_ne_one]
  repeat (first | refine st_eqT rfl rfl rfl rfl rfl rfl (by omega) ?_ | refine st_eqF rfl rfl rfl rfl rfl rfl (by omega) ?_ | refine st_I rfl rfl rfl rfl rfl ?_ | refine st_B rfl rfl rfl rfl rfl ?_ | refine st_P rfl rfl rfl rfl rfl ?_)
  refine st_load1 rfl rfl rfl rfl rfl rfl (upd_same _ _ _) rfl (v := .bool (decide (x < 0))) rfl ?_
  repeat (first | refine st_eqT rfl rfl rfl rfl rfl rfl (by omega) ?_ | refine st_eqF rfl rfl rfl rfl rfl rfl (by omega) ?_ | refine st_I rfl rfl rfl rfl rfl ?_ | refine st_B rfl rfl rfl rfl rfl ?_ | refine st_P rfl rfl rfl rfl rfl ?_)
  simp only [EC_seq, EC_region, EC_block, EC_scope, EC_skip, EC_exit, EC_ret, EC_label, EO_nil, ED_nil, after_normal, after_exit, after_ret, leave_normal, leave_exit, leave_ret, goesOn_exit, goesOn_ret, cut_exit, cut_ret, cutx_exit, cutx_ret, reduceIte, Nat.reduceEqDiff, reduceCtorEq, Nat.one_ne_zero, Nat.zero_ne_one]
  by_cases hx : x < 0
  · rw [EC_cond_true (by show Value.bool (decide (x < 0)) = _; rw [decide_eq_true hx])]
    simp only [EC_seq, EC_region, EC_block, EC_scope, EC_skip, EC_exit, EC_ret, EC_label, EO_nil, ED_nil, after_normal, after_exit, after_ret, leave_normal, leave_exit, leave_ret, goesOn_exit, goesOn_ret, cut_exit, cut_ret, cutx_exit, cutx_ret, reduceIte, Nat.reduceEqDiff, reduceCtorEq, Nat.one_ne_zero, Nat.zero_ne_one]
    repeat (first | refine st_eqT rfl rfl rfl rfl rfl rfl (by omega) ?_ | refine st_eqF rfl rfl rfl rfl rfl rfl (by omega) ?_ | refine st_I rfl rfl rfl rfl rfl ?_ | refine st_B rfl rfl rfl rfl rfl ?_ | refine st_P rfl rfl rfl rfl rfl ?_)
    simp only [EC_seq, EC_region, EC_block, EC_scope, EC_skip, EC_exit, EC_ret, EC_label, EO_nil, ED_nil, after_normal, after_exit, after_ret, leave_normal, leave_exit, leave_ret, goesOn_exit, goesOn_ret, cut_exit, cut_ret, cutx_exit, cutx_ret, reduceIte, Nat.reduceEqDiff, reduceCtorEq, Nat.one_ne_zero, Nat.zero_ne_one]
    exact retF _ rfl (resF_tmp rfl) rfl rfl (by rw [Int.sign_eq_neg_one_of_neg hx]; rfl)
  · rw [EC_cond_false (by show Value.bool (decide (x < 0)) = _; rw [decide_eq_false hx])]
    simp only [EC_seq, EC_region, EC_block, EC_scope, EC_skip, EC_exit, EC_ret, EC_label, EO_nil, ED_nil, after_normal, after_exit, after_ret, leave_normal, leave_exit, leave_ret, goesOn_exit, goesOn_ret, cut_exit, cut_ret, cutx_exit, cutx_ret, reduceIte, Nat.reduceEqDiff, reduceCtorEq, Nat.one_ne_zero, Nat.zero_ne_one]
    repeat (first | refine st_eqT rfl rfl rfl rfl rfl rfl (by omega) ?_ | refine st_eqF rfl rfl rfl rfl rfl rfl (by omega) ?_ | refine st_I rfl rfl rfl rfl rfl ?_ | refine st_B rfl rfl rfl rfl rfl ?_ | refine st_P rfl rfl rfl rfl rfl ?_)
    refine st_load1 rfl rfl rfl rfl rfl rfl (upd_same _ _ _) rfl (v := .slice a len cap) rfl ?_
    have hl0 : len = 0 ↔ x = 0 := by
      have h1 := hi.norm.zero
      have h2 := hi.val
      rw [u32s_len] at hlen
      rw [← List.length_eq_zero_iff] at h1
      omega
    by_cases h0 : x = 0
    · have := hl0.2 h0
      repeat (first | refine st_eqT rfl rfl rfl rfl rfl rfl (by omega) ?_ | refine st_eqF rfl rfl rfl rfl rfl rfl (by omega) ?_ | refine st_I rfl rfl rfl rfl rfl ?_ | refine st_B rfl rfl rfl rfl rfl ?_ | refine st_P rfl rfl rfl rfl rfl ?_)
      simp only [EC_seq, EC_region, EC_block, EC_scope, EC_skip, EC_exit, EC_ret, EC_label, EO_nil, ED_nil, after_normal, after_exit, after_ret, leave_normal, leave_exit, leave_ret, goesOn_exit, goesOn_ret, cut_exit, cut_ret, cutx_exit, cutx_ret, reduceIte, Nat.reduceEqDiff, reduceCtorEq, Nat.one_ne_zero, Nat.zero_ne_one]
      rw [EC_cond_true rfl]
      simp only [EC_seq, EC_region, EC_block, EC_scope, EC_skip, EC_exit, EC_ret, EC_label, EO_nil, ED_nil, after_normal, after_exit, after_ret, leave_normal, leave_exit, leave_ret, goesOn_exit, goesOn_ret, cut_exit, cut_ret, cutx_exit, cutx_ret, reduceIte, Nat.reduceEqDiff, reduceCtorEq, Nat.one_ne_zero, Nat.zero_ne_one]
      repeat (first | refine st_eqT rfl rfl rfl rfl rfl rfl (by omega) ?_ | refine st_eqF rfl rfl rfl rfl rfl rfl (by omega) ?_ | refine st_I rfl rfl rfl rfl rfl ?_ | refine st_B rfl rfl rfl rfl rfl ?_ | refine st_P rfl rfl rfl rfl rfl ?_)
      simp only [EC_seq, EC_region, EC_block, EC_scope, EC_skip, EC_exit, EC_ret, EC_label, EO_nil, ED_nil, after_normal, after_exit, after_ret, leave_normal, leave_exit, leave_ret, goesOn_exit, goesOn_ret, cut_exit, cut_ret, cutx_exit, cutx_ret, reduceIte, Nat.reduceEqDiff, reduceCtorEq, Nat.one_ne_zero, Nat.zero_ne_one]
      exact retF _ rfl (resF_tmp rfl) rfl rfl (by rw [h0]; rfl)
    · have : ¬ len = 0 := fun e => h0 (hl0.1 e)
      repeat (first | refine st_eqT rfl rfl rfl rfl rfl rfl (by omega) ?_ | refine st_eqF rfl rfl rfl rfl rfl rfl (by omega) ?_ | refine st_I rfl rfl rfl rfl rfl ?_ | refine st_B rfl rfl rfl rfl rfl ?_ | refine st_P rfl rfl rfl rfl rfl ?_)
      simp only [EC_seq, EC_region, EC_block, EC_scope, EC_skip, EC_exit, EC_ret, EC_label, EO_nil, ED_nil, after_normal, after_exit, after_ret, leave_normal, leave_exit, leave_ret, goesOn_exit, goesOn_ret, cut_exit, cut_ret, cutx_exit, cutx_ret, reduceIte, Nat.reduceEqDiff, reduceCtorEq, Nat.one_ne_zero, Nat.zero_ne_one]
      rw [EC_cond_false rfl]
      simp only [EC_seq, EC_region, EC_block, EC_scope, EC_skip, EC_exit, EC_ret, EC_label, EO_nil, ED_nil, after_normal, after_exit, after_ret, leave_normal, leave_exit, leave_ret, goesOn_exit, goesOn_ret, cut_exit, cut_ret, cutx_exit, cutx_ret, reduceIte, Nat.reduceEqDiff, reduceCtorEq, Nat.one_ne_zero, Nat.zero_ne_one]
      repeat (first | refine st_eqT rfl rfl rfl rfl rfl rfl (by omega) ?_ | refine st_eqF rfl rfl rfl rfl rfl rfl (by omega) ?_ | refine st_I rfl rfl rfl rfl rfl ?_ | refine st_B rfl rfl rfl rfl rfl ?_ | refine st_P rfl rfl rfl rfl rfl ?_)
      simp only [EC_seq, EC_region, EC_block, EC_scope, EC_skip, EC_exit, EC_ret, EC_label, EO_nil, ED_nil, after_normal, after_exit, after_ret, leave_normal, leave_exit, leave_ret, goesOn_exit, goesOn_ret, cut_exit, cut_ret, cutx_exit, cutx_ret, reduceIte, Nat.reduceEqDiff, reduceCtorEq, Nat.one_ne_zero, Nat.zero_ne_one]
      exact retF _ rfl (resF_tmp rfl) rfl rfl (by rw [Int.sign_eq_one_of_pos (by omega)]; rfl)
theorem rsign_ok (k : Nat) {h : HF} {n : Nat} {n1 n2 d1 d2 : Value} {q : Rat} {ln ld : List Nat} (hq : RatR h n n1 n2 d1 d2 q ln ld) : VF (cal (k + 2)) 44 [.agg #[n1, n2, d1, d2]] h n fun v => v = .int .i64 q.num.sign := by
  refine CF_flat (fn := Tryz.f44) rfl rfl rfl rfl ?_
  simp only [EC_seq, EC_region, EC_block, EC_scope, EC_skip, EC_exit, EC_ret, EC_label, EO_nil, ED_nil, after_normal, after_exit, after_ret, leave_normal, leave_exit, leave_ret, goesOn_exit, goesOn_ret, cut_exit, cut_ret, cutx_exit, cutx_ret, reduceIte, Nat.reduceEqDiff, reduceCtorEq, Nat.one_ne_zero, Nat.zero_ne_one]
  refine st_mkp (cs := [n1, n2, d1, d2]) rfl rfl rfl rfl rfl ?_
  repeat (first | refine st_I rfl rfl rfl rfl rfl ?_ | refine st_P rfl rfl rfl rfl rfl ?_)
  simp only [EC_seq, EC_region, EC_block, EC_scope, EC_skip, EC_exit, EC_ret, EC_label, EO_nil, ED_nil, after_normal, after_exit, after_ret, leave_normal, leave_exit, leave_ret, goesOn_exit, goesOn_ret, cut_exit, cut_ret, cutx_exit, cutx_ret, reduceIte, Nat.reduceEqDiff, reduceCtorEq, Nat.one_ne_zero, Nat.zero_ne_one]
  repeat (first | refine st_I rfl rfl rfl rfl rfl ?_ | refine st_P rfl rfl rfl rfl rfl ?_)
  refine st_load (v := .agg #[n1, n2]) rfl rfl rfl rfl rfl (loadn_eq rfl rfl (upd_same _ _ _) rfl (Nat.le_of_ble_eq_true rfl) rfl) ?_
  refine st_vf _ rfl rfl rfl rfl rfl (sign_ok k (hq.num.ext (Ext.upd (by omega)) (by omega))) ?_
  rintro _ rfl
  repeat (first | refine st_I rfl rfl rfl rfl rfl ?_ | refine st_P rfl rfl rfl rfl rfl ?_)
  simp only [EC_seq, EC_region, EC_block, EC_scope, EC_skip, EC_exit, EC_ret, EC_label, EO_nil, ED_nil, after_normal, after_exit, after_ret, leave_normal, leave_exit, leave_ret, goesOn_exit, goesOn_ret, cut_exit, cut_ret, cutx_exit, cutx_ret, reduceIte, Nat.reduceEqDiff, reduceCtorEq, Nat.one_ne_zero, Nat.zero_ne_one]
  exact retF _ rfl (resF_tmp rfl) rfl rfl rfl
end Go.Proofs.YtokfihhdllmbmaaGreatDoor
namespace Go.Proofs.YtokfihhdllmbmaaGreatDoor
open Go Go.GL
/-! Package sosoptnum: division by a digit. -/
theorem u32s_cons (d : Nat) (l : List Nat) : u32s (d :: l) = Value.int .u32 (d : Int) :: u32s l := rfl
theorem splice_mid (j : Nat) (z v : Value) (r : List Value) : spliceAt (List.replicate (j + 1) z ++ r) j [v] = List.replicate j z ++ (v :: r) := by
  unfold spliceAt
  have h1 : (List.replicate (j + 1) z ++ r).take j = List.replicate j z := by
    rw [List.replicate_succ', List.append_assoc, List.take_left' (by simp)]
  have h2 : (List.replicate (j + 1) z ++ r).drop (j + [v].length) = r := List.drop_left' (by simp)
  rw [h1, h2]
  rfl
theorem drop_cons {l : List Nat} {j d : Nat} (h : l[j]? = some d) : l.drop j = d :: l.drop (j + 1) := by
  obtain ⟨hlt, rfl⟩ := List.getElem?_eq_some_iff.1 h
  exact List.drop_eq_getElem_cons hlt
theorem shl_or (r a : Nat) (hr : r < 4294967296) (ha : a < 4294967296) : r * 2 ^ 32 % 18446744073709551616 ||| a = r * 4294967296 + a := by
  have h1 : r * 2 ^ 32 % 18446744073709551616 = r * 4294967296 := by omega
  rw [h1]
  have := Nat.two_pow_add_eq_or_of_lt (i := 32) (b := a) (by omega) r
  rw [show r * 4294967296 = 2 ^ 32 * r from by omega, ← this]
theorem divstep {d r V Vq a : Nat} (hd : 0 < d) (hV : V = d * Vq + r) : (a + 4294967296 * V) / d = (r * 4294967296 + a) / d + 4294967296 * Vq ∧ (a + 4294967296 * V) % d = (r * 4294967296 + a) % d := by
  have e : a + 4294967296 * V = (r * 4294967296 + a) + d * (4294967296 * Vq) := by
    rw [hV, Nat.mul_add, ← Nat.mul_assoc, Nat.mul_comm 4294967296 d, Nat.mul_assoc]; omega
  rw [e, Nat.add_mul_div_left _ _ hd, Nat.add_mul_mod_self_left]
  exact ⟨rfl, rfl⟩
set_option maxHeartbeats 1000000
theorem smallDiv_ok (k : Nat) {h : HF} {n : Nat} {a : Option Addr} {len cap : Nat} {l : List Nat} {d : Nat} (hb : l.length < 1099511627) (hl : Dig l) (hd : 0 < d ∧ d < 4294967296) (hv : Sl h n 1 (.slice a len cap) (u32s l)) :
    CF (cal (k + 2)) 147 [.slice a len cap, .int .u32 (d : Int)] h n fun v h' n' w => w = [] ∧ n ≤ n' ∧ Ext n h h' ∧ ∃ a' c' L, v = .tuple #[.slice a' L.length c', .int .u32 ((val l % d : Nat) : Int)] ∧ Sl h' n' 1 (.slice a' L.length c') (u32s L) ∧ Norm L ∧ val L = val l / d ∧ Fresh n (.slice a' L.length c') ∧ L.length ≤ l.length := by
  refine CF_heap (fn := Tryz.f147) rfl rfl rfl rfl ?_
  have hlen0 : len = l.length := by
    obtain ⟨a', len', cap', e, hl⟩ := hv.len
    rw [u32s_len] at hl
    injection e with e1 e2 e3
    omega
  subst hlen0
  simp only [EC_seq, EC_region, EC_block, EC_scope, EC_skip, EC_exit, EC_ret, EC_label, EO_nil, ED_nil, after_normal, after_exit, after_ret, leave_normal, leave_exit, leave_ret, goesOn_exit, goesOn_ret, cut_exit, cut_ret, cutx_exit, cutx_ret, reduceIte, Nat.reduceEqDiff, reduceCtorEq, Nat.one_ne_zero, Nat.zero_ne_one]
  repeat (first | refine st_geT rfl rfl rfl rfl rfl rfl (by omega) ?_ | refine st_geF rfl rfl rfl rfl rfl rfl (by omega) ?_ | refine st_sub rfl rfl rfl rfl rfl rfl (by omega) ?_ | refine st_I rfl rfl rfl rfl rfl ?_ | refine st_S rfl rfl rfl rfl rfl ?_)
  simp only [EC_seq, EC_region, EC_block, EC_scope, EC_skip, EC_exit, EC_ret, EC_label, EO_nil, ED_nil, after_normal, after_exit, after_ret, leave_normal, leave_exit, leave_ret, goesOn_exit, goesOn_ret, cut_exit, cut_ret, cutx_exit, cutx_ret, reduceIte, Nat.reduceEqDiff, reduceCtorEq, Nat.one_ne_zero, Nat.zero_ne_one]
  repeat (first | refine st_geT rfl rfl rfl rfl rfl rfl (by omega) ?_ | refine st_geF rfl rfl rfl rfl rfl rfl (by omega) ?_ | refine st_sub rfl rfl rfl rfl rfl rfl (by omega) ?_ | refine st_I rfl rfl rfl rfl rfl ?_ | refine st_S rfl rfl rfl rfl rfl ?_)
  refine st_make rfl rfl rfl rfl rfl rfl rfl rfl rfl (by omega) ?_
  rw [show vcells (Value.int .u32 0) = [Value.int .u32 0] from rfl, rep_one]
  repeat (first | refine st_geT rfl rfl rfl rfl rfl rfl (by omega) ?_ | refine st_geF rfl rfl rfl rfl rfl rfl (by omega) ?_ | refine st_sub rfl rfl rfl rfl rfl rfl (by omega) ?_ | refine st_I rfl rfl rfl rfl rfl ?_ | refine st_S rfl rfl rfl rfl rfl ?_)
  simp only [EC_seq, EC_region, EC_block, EC_scope, EC_skip, EC_exit, EC_ret, EC_label, EO_nil, ED_nil, after_normal, after_exit, after_ret, leave_normal, leave_exit, leave_ret, goesOn_exit, goesOn_ret, cut_exit, cut_ret, cutx_exit, cutx_ret, reduceIte, Nat.reduceEqDiff, reduceCtorEq, Nat.one_ne_zero, Nat.zero_ne_one]
  repeat (first | refine st_geT rfl rfl rfl rfl rfl rfl (by omega) ?_ | refine st_geF rfl rfl rfl rfl rfl rfl (by omega) ?_ | refine st_sub rfl rfl rfl rfl rfl rfl (by omega) ?_ | refine st_I rfl rfl rfl rfl rfl ?_ | refine st_S rfl rfl rfl rfl rfl ?_)
  simp only [EC_seq, EC_region, EC_block, EC_scope, EC_skip, EC_exit, EC_ret, EC_label, EO_nil, ED_nil, after_normal, after_exit, after_ret, leave_normal, leave_exit, leave_ret, goesOn_exit, goesOn_ret, cut_exit, cut_ret, cutx_exit, cutx_ret, reduceIte, Nat.reduceEqDiff, reduceCtorEq, Nat.one_ne_zero, Nat.zero_ne_one]
  repeat (first | refine st_geT rfl rfl rfl rfl rfl rfl (by omega) ?_ | refine st_geF rfl rfl rfl rfl rfl rfl (by omega) ?_ | refine st_sub rfl rfl rfl rfl rfl rfl (by omega) ?_ | refine st_I rfl rfl rfl rfl rfl ?_ | refine st_S rfl rfl rfl rfl rfl ?_)
  simp only [EC_seq, EC_region, EC_block, EC_scope, EC_skip, EC_exit, EC_ret, EC_label, EO_nil, ED_nil, after_normal, after_exit, after_ret, leave_normal, leave_exit, leave_ret, goesOn_exit, goesOn_ret, cut_exit, cut_ret, cutx_exit, cutx_ret, reduceIte, Nat.reduceEqDiff, reduceCtorEq, Nat.one_ne_zero, Nat.zero_ne_one]
  refine EC_for (α := Nat × List Nat × Nat) (fun x => [(0, .slice a l.length cap), (1, .int .u32 (d : Int)), (6, .slice (some ⟨3 * n + 2, 0, none⟩) l.length l.length), (7, .int .u64 ((x.2.2 : Nat) : Int)), (8, .int .i64 ((x.1 : Int) - 1))])
    (fun x h' n' w => n' = n + 1 ∧ w = [] ∧ Ext n h h' ∧ x.1 ≤ l.length ∧ (∃ e, h' (3 * n + 2) = some (.row (List.replicate x.1 (.int .u32 0) ++ u32s x.2.1) e)) ∧ x.1 + x.2.1.length = l.length ∧ Dig x.2.1 ∧ x.2.2 < d ∧ val (l.drop x.1) = d * val x.2.1 + x.2.2) (fun x => x.1)
    (l.length, [], 0) ⟨rfl, rfl, rfl, rfl, rfl, trivial⟩ ⟨rfl, rfl, Ext.upd (by omega), Nat.le_refl _, ⟨_, by rw [upd_same, show u32s [] = [] from rfl, List.append_nil]⟩, by simp, fun d hd => absurd hd List.not_mem_nil, hd.1, by simp [val]⟩ (by show l.length < LL; unfold LL; omega) ?_
  rintro ⟨j, q, r⟩ t h1 _ _ ⟨rfl, rfl, hext, hj, ⟨e, hrow⟩, hjl, hq, hr, hV⟩
  simp only at hj hrow hjl hq hr hV
  simp only [EC_seq, EC_region, EC_block, EC_scope, EC_skip, EC_exit, EC_ret, EC_label, EO_nil, ED_nil, after_normal, after_exit, after_ret, leave_normal, leave_exit, leave_ret, goesOn_exit, goesOn_ret, cut_exit, cut_ret, cutx_exit, cutx_ret, reduceIte, Nat.reduceEqDiff, reduceCtorEq, Nat.one_ne_zero, Nat.zero_ne_one]
  cases j with
  | zero =>
    repeat (first | refine st_geT rfl rfl rfl rfl rfl rfl (by omega) ?_ | refine st_geF rfl rfl rfl rfl rfl rfl (by omega) ?_ | refine st_sub rfl rfl rfl rfl rfl rfl (by omega) ?_ | refine st_I rfl rfl rfl rfl rfl ?_ | refine st_S rfl rfl rfl rfl rfl ?_)
    simp only [EC_seq, EC_region, EC_block, EC_scope, EC_skip, EC_exit, EC_ret, EC_label, EO_nil, ED_nil, after_normal, after_exit, after_ret, leave_normal, leave_exit, leave_ret, goesOn_exit, goesOn_ret, cut_exit, cut_ret, cutx_exit, cutx_ret, reduceIte, Nat.reduceEqDiff, reduceCtorEq, Nat.one_ne_zero, Nat.zero_ne_one]
    rw [EC_cond_false rfl]
    simp only [EC_seq, EC_region, EC_block, EC_scope, EC_skip, EC_exit, EC_ret, EC_label, EO_nil, ED_nil, after_normal, after_exit, after_ret, leave_normal, leave_exit, leave_ret, goesOn_exit, goesOn_ret, cut_exit, cut_ret, cutx_exit, cutx_ret, reduceIte, Nat.reduceEqDiff, reduceCtorEq, Nat.one_ne_zero, Nat.zero_ne_one]
    repeat (first | refine st_geT rfl rfl rfl rfl rfl rfl (by omega) ?_ | refine st_geF rfl rfl rfl rfl rfl rfl (by omega) ?_ | refine st_sub rfl rfl rfl rfl rfl rfl (by omega) ?_ | refine st_I rfl rfl rfl rfl rfl ?_ | refine st_S rfl rfl rfl rfl rfl ?_)
    refine st_call _ rfl rfl rfl rfl rfl (trim_ok k (l := q) (by omega) (.at_ (by omega) hrow rfl (by omega) (by simp [u32s]; omega) (by rw [List.take_of_length_le (by simp [u32s]; omega)]; simp))) ?_
    rintro v' _ _ _ ⟨rfl, rfl, rfl, rfl, hs⟩
    (first | refine st_I rfl rfl rfl rfl rfl ?_ | refine st_S rfl rfl rfl rfl rfl ?_)
    refine st_conv_u32 rfl rfl rfl rfl rfl rfl rfl ?_
    repeat (first | refine st_geT rfl rfl rfl rfl rfl rfl (by omega) ?_ | refine st_geF rfl rfl rfl rfl rfl rfl (by omega) ?_ | refine st_sub rfl rfl rfl rfl rfl rfl (by omega) ?_ | refine st_I rfl rfl rfl rfl rfl ?_ | refine st_S rfl rfl rfl rfl rfl ?_)
    simp only [EC_seq, EC_region, EC_block, EC_scope, EC_skip, EC_exit, EC_ret, EC_label, EO_nil, ED_nil, after_normal, after_exit, after_ret, leave_normal, leave_exit, leave_ret, goesOn_exit, goesOn_ret, cut_exit, cut_ret, cutx_exit, cutx_ret, reduceIte, Nat.reduceEqDiff, reduceCtorEq, Nat.one_ne_zero, Nat.zero_ne_one]
    have hd0 : l.drop 0 = l := rfl
    rw [hd0] at hV
    refine retH [.slice (some ⟨3 * n + 2, 0, none⟩) (trimL q).length l.length, .int .u32 ((val l % d : Nat) : Int)] rfl ?_ rfl ⟨rfl, by show n ≤ n + 1; omega, hext, _, _, trimL q, rfl, hs, Norm.trim hq, ?_, ?_, ?_⟩
    · have e1 : val l % d = r % 4294967296 := by rw [hV, Nat.mul_add_mod, Nat.mod_eq_of_lt hr, Nat.mod_eq_of_lt (by omega)]
      rw [e1]
      rfl
    · rw [trimL_val, hV, Nat.mul_add_div hd.1, Nat.div_eq_of_lt hr]; omega
    · show 3 * n ≤ 3 * n + 2; omega
    · have := trimL_len q; omega
  | succ j =>
    have hjl' : j < l.length := by omega
    obtain ⟨dg, hdg⟩ : ∃ dg, l[j]? = some dg := ⟨l[j], by simp [hjl']⟩
    have hdl : dg < 4294967296 := hl dg (List.mem_of_getElem? hdg)
    have hcons := drop_cons hdg
    obtain ⟨b, off, x, cs, rfl, hb3, hx, hc, hcap, hle, he⟩ := hv.inv (by omega)
    have hcell : cs[off + j]? = some (.int .u32 (dg : Int)) := cell_at he (by rw [u32s, List.getElem?_map, hdg]; rfl)
    have hx1 : h1 b = some x := by rw [hext b hb3]; exact hx
    repeat (first | refine st_geT rfl rfl rfl rfl rfl rfl (by omega) ?_ | refine st_geF rfl rfl rfl rfl rfl rfl (by omega) ?_ | refine st_sub rfl rfl rfl rfl rfl rfl (by omega) ?_ | refine st_I rfl rfl rfl rfl rfl ?_ | refine st_S rfl rfl rfl rfl rfl ?_)
    simp only [EC_seq, EC_region, EC_block, EC_scope, EC_skip, EC_exit, EC_ret, EC_label, EO_nil, ED_nil, after_normal, after_exit, after_ret, leave_normal, leave_exit, leave_ret, goesOn_exit, goesOn_ret, cut_exit, cut_ret, cutx_exit, cutx_ret, reduceIte, Nat.reduceEqDiff, reduceCtorEq, Nat.one_ne_zero, Nat.zero_ne_one]
    rw [EC_cond_true rfl]
    simp only [EC_seq, EC_region, EC_block, EC_scope, EC_skip, EC_exit, EC_ret, EC_label, EO_nil, ED_nil, after_normal, after_exit, after_ret, leave_normal, leave_exit, leave_ret, goesOn_exit, goesOn_ret, cut_exit, cut_ret, cutx_exit, cutx_ret, reduceIte, Nat.reduceEqDiff, reduceCtorEq, Nat.one_ne_zero, Nat.zero_ne_one]
    (first | refine st_I rfl rfl rfl rfl rfl ?_ | refine st_S rfl rfl rfl rfl rfl ?_)
    refine st_shl_u64 rfl rfl rfl rfl rfl (s := 32) rfl (by omega) ?_
    (first | refine st_I rfl rfl rfl rfl rfl ?_ | refine st_S rfl rfl rfl rfl rfl ?_)
    (first | refine st_I rfl rfl rfl rfl rfl ?_ | refine st_S rfl rfl rfl rfl rfl ?_)
    refine st_idx rfl rfl rfl rfl rfl rfl rfl rfl (by omega) ?_
    refine st_load1 rfl rfl rfl rfl rfl rfl hx1 hc (v := .int .u32 (dg : Int)) (by rw [← hcell]; congr 1; omega) ?_
    refine st_conv_u64 rfl rfl rfl rfl rfl rfl rfl ?_
    rw [Nat.mod_eq_of_lt (show dg < 18446744073709551616 by omega)]
    refine st_or_u64 rfl rfl rfl rfl rfl rfl (by omega) ?_
    rw [shl_or r dg (by omega) hdl]
    repeat (first | refine st_geT rfl rfl rfl rfl rfl rfl (by omega) ?_ | refine st_geF rfl rfl rfl rfl rfl rfl (by omega) ?_ | refine st_sub rfl rfl rfl rfl rfl rfl (by omega) ?_ | refine st_I rfl rfl rfl rfl rfl ?_ | refine st_S rfl rfl rfl rfl rfl ?_)
    simp only [EC_seq, EC_region, EC_block, EC_scope, EC_skip, EC_exit, EC_ret, EC_label, EO_nil, ED_nil, after_normal, after_exit, after_ret, leave_normal, leave_exit, leave_ret, goesOn_exit, goesOn_ret, cut_exit, cut_ret, cutx_exit, cutx_ret, reduceIte, Nat.reduceEqDiff, reduceCtorEq, Nat.one_ne_zero, Nat.zero_ne_one]
    obtain ⟨R, hR⟩ : ∃ R, R = r * 4294967296 + dg := ⟨_, rfl⟩
    rw [← hR]
    have hRd : R / d < 4294967296 := by
      rw [Nat.div_lt_iff_lt_mul hd.1, hR]
      have : r * 4294967296 + dg < (r + 1) * 4294967296 := by omega
      have h2 : (r + 1) * 4294967296 ≤ d * 4294967296 := Nat.mul_le_mul_right _ hr
      omega
    have hR64 : R < 18446744073709551616 := by omega
    (first | refine st_I rfl rfl rfl rfl rfl ?_ | refine st_S rfl rfl rfl rfl rfl ?_)
    (first | refine st_I rfl rfl rfl rfl rfl ?_ | refine st_S rfl rfl rfl rfl rfl ?_)
    (first | refine st_I rfl rfl rfl rfl rfl ?_ | refine st_S rfl rfl rfl rfl rfl ?_)
    (first | refine st_I rfl rfl rfl rfl rfl ?_ | refine st_S rfl rfl rfl rfl rfl ?_)
    refine st_conv_u64 rfl rfl rfl rfl rfl rfl rfl ?_
    rw [Nat.mod_eq_of_lt (show d < 18446744073709551616 by omega)]
    refine st_div_u64 rfl rfl rfl rfl rfl rfl (by omega) ?_
    refine st_conv_u32 rfl rfl rfl rfl rfl rfl rfl ?_
    rw [Nat.mod_eq_of_lt hRd]
    refine st_idx rfl rfl rfl rfl rfl rfl rfl rfl (by omega) ?_
    refine st_storeN (cs := [.int .u32 ((R / d : Nat) : Int)]) rfl rfl rfl rfl rfl rfl rfl rfl hrow (by simp [u32s]) (by show 3 * n ≤ _; omega) ?_
    rw [show 0 + ((j + 1 : Nat) - 1 : Int).toNat * 1 = j from by omega, splice_mid]
    simp only [EC_seq, EC_region, EC_block, EC_scope, EC_skip, EC_exit, EC_ret, EC_label, EO_nil, ED_nil, after_normal, after_exit, after_ret, leave_normal, leave_exit, leave_ret, goesOn_exit, goesOn_ret, cut_exit, cut_ret, cutx_exit, cutx_ret, reduceIte, Nat.reduceEqDiff, reduceCtorEq, Nat.one_ne_zero, Nat.zero_ne_one]
    (first | refine st_I rfl rfl rfl rfl rfl ?_ | refine st_S rfl rfl rfl rfl rfl ?_)
    (first | refine st_I rfl rfl rfl rfl rfl ?_ | refine st_S rfl rfl rfl rfl rfl ?_)
    refine st_conv_u64 rfl rfl rfl rfl rfl rfl rfl ?_
    rw [Nat.mod_eq_of_lt (show d < 18446744073709551616 by omega)]
    refine st_rem_u64 rfl rfl rfl rfl rfl rfl (by omega) ?_
    repeat (first | refine st_geT rfl rfl rfl rfl rfl rfl (by omega) ?_ | refine st_geF rfl rfl rfl rfl rfl rfl (by omega) ?_ | refine st_sub rfl rfl rfl rfl rfl rfl (by omega) ?_ | refine st_I rfl rfl rfl rfl rfl ?_ | refine st_S rfl rfl rfl rfl rfl ?_)
    simp only [EC_seq, EC_region, EC_block, EC_scope, EC_skip, EC_exit, EC_ret, EC_label, EO_nil, ED_nil, after_normal, after_exit, after_ret, leave_normal, leave_exit, leave_ret, goesOn_exit, goesOn_ret, cut_exit, cut_ret, cutx_exit, cutx_ret, reduceIte, Nat.reduceEqDiff, reduceCtorEq, Nat.one_ne_zero, Nat.zero_ne_one]
    repeat (first | refine st_geT rfl rfl rfl rfl rfl rfl (by omega) ?_ | refine st_geF rfl rfl rfl rfl rfl rfl (by omega) ?_ | refine st_sub rfl rfl rfl rfl rfl rfl (by omega) ?_ | refine st_I rfl rfl rfl rfl rfl ?_ | refine st_S rfl rfl rfl rfl rfl ?_)
    simp only [EC_seq, EC_region, EC_block, EC_scope, EC_skip, EC_exit, EC_ret, EC_label, EO_nil, ED_nil, after_normal, after_exit, after_ret, leave_normal, leave_exit, leave_ret, goesOn_exit, goesOn_ret, cut_exit, cut_ret, cutx_exit, cutx_ret, reduceIte, Nat.reduceEqDiff, reduceCtorEq, Nat.one_ne_zero, Nat.zero_ne_one]
    obtain ⟨e1, e2⟩ := divstep (a := dg) hd.1 hV
    refine goOn (j, (R / d) :: q, R % d) (by simp) ⟨rfl, rfl, rfl, rfl, by show Value.int .i64 _ = Value.int .i64 _; congr 1; omega, trivial⟩ ⟨rfl, rfl, fun b hb => ?_, by show j ≤ _; omega, ⟨_, upd_same _ _ _⟩, by show j + (q.length + 1) = _; omega, ?_, Nat.mod_lt _ hd.1, ?_⟩
    · exact (upd_ne (by omega)).trans (hext b hb)
    · intro y hy
      rcases List.mem_cons.1 hy with rfl | hy
      · exact hRd
      · exact hq y hy
    · show val (l.drop j) = d * (R / d + 4294967296 * val q) + R % d
      rw [hcons]
      have e3 := Nat.div_add_mod (dg + 4294967296 * val (l.drop (j + 1))) d
      rw [e1, e2, ← hR] at e3
      exact e3.symm
end Go.Proofs.YtokfihhdllmbmaaGreatDoor
namespace Go.Proofs.YtokfihhdllmbmaaGreatDoor
open Go Go.GL
/-! Package sosoptnum: decimal digits. -/
/-- The decimal digits of a number; none for 0. -/
def decD (V : Nat) : List Nat := if h : V = 0 then [] else decD (V / 10) ++ [V % 10]
termination_by V
decreasing_by omega
theorem decD_zero : decD 0 = [] := by rw [decD]; simp
theorem decD_pos {V : Nat} (h : V ≠ 0) : decD V = decD (V / 10) ++ [V % 10] := by rw [decD, dif_neg h]
theorem decD_step {V c : Nat} (hc : c < 10) (h : V ≠ 0 ∨ c ≠ 0) : decD (10 * V + c) = decD V ++ [c] := by
  rw [decD_pos (by omega), show (10 * V + c) / 10 = V from by omega, show (10 * V + c) % 10 = c from by omega]
theorem decD_nil {V : Nat} : decD V = [] ↔ V = 0 := by
  constructor
  · intro h
    apply Classical.byContradiction
    intro h0
    rw [decD_pos h0] at h
    simp at h
  · rintro rfl; exact decD_zero
def u8s (l : List Nat) : List Value := l.map fun d : Nat => Value.int .u8 (d : Int)
theorem u8s_len (l : List Nat) : (u8s l).length = l.length := by simp [u8s]
theorem bytesE_u8s (l : List Nat) : bytesE (u8s l) = some (l.map UInt8.ofNat) := by
  induction l with
  | nil => rfl
  | cons d l ih =>
    show (match bytesE (u8s l) with | some r => some (UInt8.ofNat (d : Int).toNat :: r) | none => none) = _
    rw [ih]
    simp
theorem ones_u8s (l : List Nat) : ones (u8s l) = true := by
  induction l with
  | nil => rfl
  | cons d l ih => exact ih
theorem ones_u32s (l : List Nat) : ones (u32s l) = true := by
  induction l with
  | nil => rfl
  | cons d l ih => exact ih
/-- The bytes of the decimal digits. -/
def decB (V : Nat) : List Nat := (decD V).map (48 + ·)
def decStr (V : Nat) : ByteArray := ⟨⟨if V = 0 then [48] else (decB V).map UInt8.ofNat⟩⟩
/-- The number of parts of nine digits. -/
def parts9 (V : Nat) : Nat := if h : V = 0 then 0 else parts9 (V / 1000000000) + 1
termination_by V
decreasing_by omega
theorem parts9_zero : parts9 0 = 0 := by rw [parts9]; simp
theorem parts9_pos {V : Nat} (h : V ≠ 0) : parts9 V = parts9 (V / 1000000000) + 1 := by rw [parts9, dif_neg h]
theorem parts9_le : ∀ (m V : Nat), V < 1000000000 ^ m → parts9 V ≤ m := by
  intro m
  induction m with
  | zero => intro V h; have : V = 0 := by simpa using h
            subst this; rw [parts9_zero]; exact Nat.le_refl _
  | succ m ih =>
    intro V h
    by_cases h0 : V = 0
    · subst h0; rw [parts9_zero]; omega
    · rw [parts9_pos h0]
      have := ih (V / 1000000000) (by rw [Nat.div_lt_iff_lt_mul (by omega)]; rw [Nat.pow_succ] at h; exact h)
      omega
theorem parts9_len {l : List Nat} (h : Dig l) : parts9 (val l) ≤ 2 * l.length := by
  apply parts9_le
  refine Nat.lt_of_lt_of_le (val_lt h) ?_
  rw [Nat.pow_mul]
  exact Nat.pow_le_pow_left (by decide) _
/-- The value of the parts, the lowest first. -/
def valP : List Nat → Nat
  | [] => 0
  | d :: r => d + 1000000000 * valP r
theorem valP_append (a b : List Nat) : valP (a ++ b) = valP a + 1000000000 ^ a.length * valP b := by
  induction a with
  | nil => simp [valP]
  | cons d a ih =>
    simp only [List.cons_append, valP, ih, List.length_cons, Nat.pow_succ, Nat.mul_add]
    rw [← Nat.mul_assoc, Nat.mul_comm (1000000000 ^ a.length) 1000000000]
    omega
theorem textF_eq {E : Env} {ty e el : TypeId} {h : HF} {a : Option Addr} {len c : Nat} {B : List Nat} (h1 : E.und ty = some (.slice el)) (h2 : E.und e = some .string) (h3 : E.und el = some (.int .u8)) (hs : argS h 1 (.slice a len c) len (u8s B)) : textF E ty e (.slice a len c) h = some (.string ⟨⟨B.map UInt8.ofNat⟩⟩) := by
  simp only [textF, h1, h2, h3, hs.2, bytesE_u8s]
theorem decB_step {V c : Nat} (hc : c < 10) (h : V ≠ 0 ∨ c ≠ 0) : decB (10 * V + c) = decB V ++ [48 + c] := by
  unfold decB
  rw [decD_step hc h]
  simp
theorem tenstep (p s : Nat) : 10 * (p / 10 ^ (s + 1)) + p / 10 ^ s % 10 = p / 10 ^ s := by
  have : p / 10 ^ (s + 1) = p / 10 ^ s / 10 := by rw [Nat.pow_succ, Nat.div_div_eq_div_mul]
  rw [this]; omega
theorem pow_div (s : Nat) : 10 ^ (s + 1) / 10 = 10 ^ s := by rw [Nat.pow_succ]; omega
theorem pow_le9 {s : Nat} (h : s ≤ 9) : 10 ^ s ≤ 1000000000 := by
  have := Nat.pow_le_pow_right (n := 10) (by omega) h
  omega
theorem decD_len (V : Nat) : (decB V).length = (decD V).length := by simp [decB]
set_option maxHeartbeats 2000000
theorem digits_ok (k : Nat) {h : HF} {n : Nat} {c1 c2 : Value} {x : Int} {l : List Nat} (hi : IntR h n c1 c2 x l) (hb : l.length < 1000000) : VF (cal (k + 3)) 82 [.agg #[c1, c2]] h n fun v => v = .string (decStr x.natAbs) := by
  refine CF_flat (fn := Tryz.f82) rfl rfl rfl rfl ?_
  obtain ⟨a, len, cap, rfl, hlen⟩ := hi.sl.len
  have hll : len = l.length := by rw [u32s_len] at hlen; omega
  subst hll
  have hneg := hi.neg
  subst hneg
  have hval := hi.val
  simp only [EC_seq, EC_region, EC_block, EC_scope, EC_skip, EC_exit, EC_ret, EC_label, EO_nil, ED_nil, after_normal, after_exit, after_ret, leave_normal, leave_exit, leave_ret, goesOn_exit, goesOn_ret, cut_exit, cut_ret, cutx_exit, cutx_ret, reduceIte, Nat.reduceEqDiff, reduceCtorEq, Nat.one_ne_zero, Nat.zero_ne_one]
  refine st_mkp (cs := [.bool (decide (x < 0)), .slice a l.length cap]) rfl rfl rfl rfl rfl ?_
  repeat (first | refine st_gtT rfl rfl rfl rfl rfl rfl (by omega) ?_ | refine st_gtF rfl rfl rfl rfl rfl rfl (by omega) ?_ | refine st_geT rfl rfl rfl rfl rfl rfl (by omega) ?_ | refine st_geF rfl rfl rfl rfl rfl rfl (by omega) ?_ | refine st_eqT rfl rfl rfl rfl rfl rfl (by omega) ?_ | refine st_eqF rfl rfl rfl rfl rfl rfl (by omega) ?_ | refine st_neqT rfl rfl rfl rfl rfl rfl (by omega) ?_ | refine st_neqF rfl rfl rfl rfl rfl rfl (by omega) ?_ | refine st_sub rfl rfl rfl rfl rfl rfl (by omega) ?_ | refine st_I rfl rfl rfl rfl rfl ?_ | refine st_B rfl rfl rfl rfl rfl ?_ | refine st_S rfl rfl rfl rfl rfl ?_ | refine st_P rfl rfl rfl rfl rfl ?_ | refine st_T rfl rfl rfl rfl rfl ?_ | refine st_U rfl rfl rfl rfl rfl ?_ | refine st_off rfl rfl rfl ?_)
  simp only [EC_seq, EC_region, EC_block, EC_scope, EC_skip, EC_exit, EC_ret, EC_label, EO_nil, ED_nil, after_normal, after_exit, after_ret, leave_normal, leave_exit, leave_ret, goesOn_exit, goesOn_ret, cut_exit, cut_ret, cutx_exit, cutx_ret, reduceIte, Nat.reduceEqDiff, reduceCtorEq, Nat.one_ne_zero, Nat.zero_ne_one]
  repeat (first | refine st_gtT rfl rfl rfl rfl rfl rfl (by omega) ?_ | refine st_gtF rfl rfl rfl rfl rfl rfl (by omega) ?_ | refine st_geT rfl rfl rfl rfl rfl rfl (by omega) ?_ | refine st_geF rfl rfl rfl rfl rfl rfl (by omega) ?_ | refine st_eqT rfl rfl rfl rfl rfl rfl (by omega) ?_ | refine st_eqF rfl rfl rfl rfl rfl rfl (by omega) ?_ | refine st_neqT rfl rfl rfl rfl rfl rfl (by omega) ?_ | refine st_neqF rfl rfl rfl rfl rfl rfl (by omega) ?_ | refine st_sub rfl rfl rfl rfl rfl rfl (by omega) ?_ | refine st_I rfl rfl rfl rfl rfl ?_ | refine st_B rfl rfl rfl rfl rfl ?_ | refine st_S rfl rfl rfl rfl rfl ?_ | refine st_P rfl rfl rfl rfl rfl ?_ | refine st_T rfl rfl rfl rfl rfl ?_ | refine st_U rfl rfl rfl rfl rfl ?_ | refine st_off rfl rfl rfl ?_)
  refine st_load1 rfl rfl rfl rfl rfl rfl (upd_same _ _ _) rfl (v := .slice a l.length cap) rfl ?_
  (first | refine st_I rfl rfl rfl rfl rfl ?_ | refine st_B rfl rfl rfl rfl rfl ?_ | refine st_S rfl rfl rfl rfl rfl ?_ | refine st_P rfl rfl rfl rfl rfl ?_ | refine st_T rfl rfl rfl rfl rfl ?_ | refine st_U rfl rfl rfl rfl rfl ?_ | refine st_off rfl rfl rfl ?_)
  by_cases h0 : l = []
  · have : l.length = 0 := by rw [h0]; rfl
    repeat (first | refine st_gtT rfl rfl rfl rfl rfl rfl (by omega) ?_ | refine st_gtF rfl rfl rfl rfl rfl rfl (by omega) ?_ | refine st_geT rfl rfl rfl rfl rfl rfl (by omega) ?_ | refine st_geF rfl rfl rfl rfl rfl rfl (by omega) ?_ | refine st_eqT rfl rfl rfl rfl rfl rfl (by omega) ?_ | refine st_eqF rfl rfl rfl rfl rfl rfl (by omega) ?_ | refine st_neqT rfl rfl rfl rfl rfl rfl (by omega) ?_ | refine st_neqF rfl rfl rfl rfl rfl rfl (by omega) ?_ | refine st_sub rfl rfl rfl rfl rfl rfl (by omega) ?_ | refine st_I rfl rfl rfl rfl rfl ?_ | refine st_B rfl rfl rfl rfl rfl ?_ | refine st_S rfl rfl rfl rfl rfl ?_ | refine st_P rfl rfl rfl rfl rfl ?_ | refine st_T rfl rfl rfl rfl rfl ?_ | refine st_U rfl rfl rfl rfl rfl ?_ | refine st_off rfl rfl rfl ?_)
    simp only [EC_seq, EC_region, EC_block, EC_scope, EC_skip, EC_exit, EC_ret, EC_label, EO_nil, ED_nil, after_normal, after_exit, after_ret, leave_normal, leave_exit, leave_ret, goesOn_exit, goesOn_ret, cut_exit, cut_ret, cutx_exit, cutx_ret, reduceIte, Nat.reduceEqDiff, reduceCtorEq, Nat.one_ne_zero, Nat.zero_ne_one]
    rw [EC_cond_true rfl]
    simp only [EC_seq, EC_region, EC_block, EC_scope, EC_skip, EC_exit, EC_ret, EC_label, EO_nil, ED_nil, after_normal, after_exit, after_ret, leave_normal, leave_exit, leave_ret, goesOn_exit, goesOn_ret, cut_exit, cut_ret, cutx_exit, cutx_ret, reduceIte, Nat.reduceEqDiff, reduceCtorEq, Nat.one_ne_zero, Nat.zero_ne_one]
    repeat (first | refine st_gtT rfl rfl rfl rfl rfl rfl (by omega) ?_ | refine st_gtF rfl rfl rfl rfl rfl rfl (by omega) ?_ | refine st_geT rfl rfl rfl rfl rfl rfl (by omega) ?_ | refine st_geF rfl rfl rfl rfl rfl rfl (by omega) ?_ | refine st_eqT rfl rfl rfl rfl rfl rfl (by omega) ?_ | refine st_eqF rfl rfl rfl rfl rfl rfl (by omega) ?_ | refine st_neqT rfl rfl rfl rfl rfl rfl (by omega) ?_ | refine st_neqF rfl rfl rfl rfl rfl rfl (by omega) ?_ | refine st_sub rfl rfl rfl rfl rfl rfl (by omega) ?_ | refine st_I rfl rfl rfl rfl rfl ?_ | refine st_B rfl rfl rfl rfl rfl ?_ | refine st_S rfl rfl rfl rfl rfl ?_ | refine st_P rfl rfl rfl rfl rfl ?_ | refine st_T rfl rfl rfl rfl rfl ?_ | refine st_U rfl rfl rfl rfl rfl ?_ | refine st_off rfl rfl rfl ?_)
    simp only [EC_seq, EC_region, EC_block, EC_scope, EC_skip, EC_exit, EC_ret, EC_label, EO_nil, ED_nil, after_normal, after_exit, after_ret, leave_normal, leave_exit, leave_ret, goesOn_exit, goesOn_ret, cut_exit, cut_ret, cutx_exit, cutx_ret, reduceIte, Nat.reduceEqDiff, reduceCtorEq, Nat.one_ne_zero, Nat.zero_ne_one]
    have hx0 : x.natAbs = 0 := by rw [← hval, h0]; rfl
    exact retF _ rfl (resF_tmp rfl) rfl rfl (by rw [hx0]; rfl)
  have hl0 : l.length ≠ 0 := fun e => h0 (List.length_eq_zero_iff.1 e)
  repeat (first | refine st_gtT rfl rfl rfl rfl rfl rfl (by omega) ?_ | refine st_gtF rfl rfl rfl rfl rfl rfl (by omega) ?_ | refine st_geT rfl rfl rfl rfl rfl rfl (by omega) ?_ | refine st_geF rfl rfl rfl rfl rfl rfl (by omega) ?_ | refine st_eqT rfl rfl rfl rfl rfl rfl (by omega) ?_ | refine st_eqF rfl rfl rfl rfl rfl rfl (by omega) ?_ | refine st_neqT rfl rfl rfl rfl rfl rfl (by omega) ?_ | refine st_neqF rfl rfl rfl rfl rfl rfl (by omega) ?_ | refine st_sub rfl rfl rfl rfl rfl rfl (by omega) ?_ | refine st_I rfl rfl rfl rfl rfl ?_ | refine st_B rfl rfl rfl rfl rfl ?_ | refine st_S rfl rfl rfl rfl rfl ?_ | refine st_P rfl rfl rfl rfl rfl ?_ | refine st_T rfl rfl rfl rfl rfl ?_ | refine st_U rfl rfl rfl rfl rfl ?_ | refine st_off rfl rfl rfl ?_)
  simp only [EC_seq, EC_region, EC_block, EC_scope, EC_skip, EC_exit, EC_ret, EC_label, EO_nil, ED_nil, after_normal, after_exit, after_ret, leave_normal, leave_exit, leave_ret, goesOn_exit, goesOn_ret, cut_exit, cut_ret, cutx_exit, cutx_ret, reduceIte, Nat.reduceEqDiff, reduceCtorEq, Nat.one_ne_zero, Nat.zero_ne_one]
  rw [EC_cond_false rfl]
  simp only [EC_seq, EC_region, EC_block, EC_scope, EC_skip, EC_exit, EC_ret, EC_label, EO_nil, ED_nil, after_normal, after_exit, after_ret, leave_normal, leave_exit, leave_ret, goesOn_exit, goesOn_ret, cut_exit, cut_ret, cutx_exit, cutx_ret, reduceIte, Nat.reduceEqDiff, reduceCtorEq, Nat.one_ne_zero, Nat.zero_ne_one]
  repeat (first | refine st_gtT rfl rfl rfl rfl rfl rfl (by omega) ?_ | refine st_gtF rfl rfl rfl rfl rfl rfl (by omega) ?_ | refine st_geT rfl rfl rfl rfl rfl rfl (by omega) ?_ | refine st_geF rfl rfl rfl rfl rfl rfl (by omega) ?_ | refine st_eqT rfl rfl rfl rfl rfl rfl (by omega) ?_ | refine st_eqF rfl rfl rfl rfl rfl rfl (by omega) ?_ | refine st_neqT rfl rfl rfl rfl rfl rfl (by omega) ?_ | refine st_neqF rfl rfl rfl rfl rfl rfl (by omega) ?_ | refine st_sub rfl rfl rfl rfl rfl rfl (by omega) ?_ | refine st_I rfl rfl rfl rfl rfl ?_ | refine st_B rfl rfl rfl rfl rfl ?_ | refine st_S rfl rfl rfl rfl rfl ?_ | refine st_P rfl rfl rfl rfl rfl ?_ | refine st_T rfl rfl rfl rfl rfl ?_ | refine st_U rfl rfl rfl rfl rfl ?_ | refine st_off rfl rfl rfl ?_)
  simp only [EC_seq, EC_region, EC_block, EC_scope, EC_skip, EC_exit, EC_ret, EC_label, EO_nil, ED_nil, after_normal, after_exit, after_ret, leave_normal, leave_exit, leave_ret, goesOn_exit, goesOn_ret, cut_exit, cut_ret, cutx_exit, cutx_ret, reduceIte, Nat.reduceEqDiff, reduceCtorEq, Nat.one_ne_zero, Nat.zero_ne_one]
  repeat (first | refine st_gtT rfl rfl rfl rfl rfl rfl (by omega) ?_ | refine st_gtF rfl rfl rfl rfl rfl rfl (by omega) ?_ | refine st_geT rfl rfl rfl rfl rfl rfl (by omega) ?_ | refine st_geF rfl rfl rfl rfl rfl rfl (by omega) ?_ | refine st_eqT rfl rfl rfl rfl rfl rfl (by omega) ?_ | refine st_eqF rfl rfl rfl rfl rfl rfl (by omega) ?_ | refine st_neqT rfl rfl rfl rfl rfl rfl (by omega) ?_ | refine st_neqF rfl rfl rfl rfl rfl rfl (by omega) ?_ | refine st_sub rfl rfl rfl rfl rfl rfl (by omega) ?_ | refine st_I rfl rfl rfl rfl rfl ?_ | refine st_B rfl rfl rfl rfl rfl ?_ | refine st_S rfl rfl rfl rfl rfl ?_ | refine st_P rfl rfl rfl rfl rfl ?_ | refine st_T rfl rfl rfl rfl rfl ?_ | refine st_U rfl rfl rfl rfl rfl ?_ | refine st_off rfl rfl rfl ?_)
  refine st_load1 rfl rfl rfl rfl rfl rfl (upd_same _ _ _) rfl (v := .slice a l.length cap) rfl ?_
  repeat (first | refine st_gtT rfl rfl rfl rfl rfl rfl (by omega) ?_ | refine st_gtF rfl rfl rfl rfl rfl rfl (by omega) ?_ | refine st_geT rfl rfl rfl rfl rfl rfl (by omega) ?_ | refine st_geF rfl rfl rfl rfl rfl rfl (by omega) ?_ | refine st_eqT rfl rfl rfl rfl rfl rfl (by omega) ?_ | refine st_eqF rfl rfl rfl rfl rfl rfl (by omega) ?_ | refine st_neqT rfl rfl rfl rfl rfl rfl (by omega) ?_ | refine st_neqF rfl rfl rfl rfl rfl rfl (by omega) ?_ | refine st_sub rfl rfl rfl rfl rfl rfl (by omega) ?_ | refine st_I rfl rfl rfl rfl rfl ?_ | refine st_B rfl rfl rfl rfl rfl ?_ | refine st_S rfl rfl rfl rfl rfl ?_ | refine st_P rfl rfl rfl rfl rfl ?_ | refine st_T rfl rfl rfl rfl rfl ?_ | refine st_U rfl rfl rfl rfl rfl ?_ | refine st_off rfl rfl rfl ?_)
  simp only [EC_seq, EC_region, EC_block, EC_scope, EC_skip, EC_exit, EC_ret, EC_label, EO_nil, ED_nil, after_normal, after_exit, after_ret, leave_normal, leave_exit, leave_ret, goesOn_exit, goesOn_ret, cut_exit, cut_ret, cutx_exit, cutx_ret, reduceIte, Nat.reduceEqDiff, reduceCtorEq, Nat.one_ne_zero, Nat.zero_ne_one]
  generalize hh : upd h (3 * n + 2) _ = h1
  have hext : Ext n h h1 := by rw [← hh]; exact Ext.upd (by omega)
  refine EC_for (α := Value × Option Addr × Nat × List Nat × List Nat) (fun z => [(3, z.1), (4, .slice z.2.1 z.2.2.2.1.length z.2.2.1)])
    (fun z h' n' w => w = [] ∧ n + 1 ≤ n' ∧ Gro h' (n + 1) n' 210 1 z.1 z.2.2.2.2.length (u32s z.2.2.2.2) ∧ Sl h' n' 1 (.slice z.2.1 z.2.2.2.1.length z.2.2.1) (u32s z.2.2.2.1) ∧ Norm z.2.2.2.1 ∧ z.2.2.2.1.length ≤ l.length ∧ z.2.2.2.2.length + parts9 (val z.2.2.2.1) ≤ 2 * l.length ∧ (∀ p ∈ z.2.2.2.2, p < 1000000000) ∧ val l = valP z.2.2.2.2 + 1000000000 ^ z.2.2.2.2.length * val z.2.2.2.1)
    (fun z => parts9 (val z.2.2.2.1)) (.slice none 0 0, a, cap, l, []) ⟨rfl, rfl, trivial⟩ ⟨rfl, Nat.le_refl _, .nil, hi.sl.ext hext (by omega), hi.norm, Nat.le_refl _, by have := parts9_len hi.norm.1; simp; omega, by simp, by simp [valP]⟩ (by show parts9 (val l) < LL; have := parts9_len hi.norm.1; unfold LL; omega) ?_
  rintro ⟨v3, a4, c4, L, P⟩ t h2 n2 w2 ⟨rfl, hn2, hg, hs, hN, hLl, hPl, hP, hV⟩
  simp only at hg hs hN hLl hPl hP hV
  simp only [EC_seq, EC_region, EC_block, EC_scope, EC_skip, EC_exit, EC_ret, EC_label, EO_nil, ED_nil, after_normal, after_exit, after_ret, leave_normal, leave_exit, leave_ret, goesOn_exit, goesOn_ret, cut_exit, cut_ret, cutx_exit, cutx_ret, reduceIte, Nat.reduceEqDiff, reduceCtorEq, Nat.one_ne_zero, Nat.zero_ne_one]
  by_cases hL0 : L = []
  · have hLl0 : L.length = 0 := by rw [hL0]; rfl
    have hV : val l = valP P := by rw [hV, hL0]; simp [val]
    repeat (first | refine st_gtT rfl rfl rfl rfl rfl rfl (by omega) ?_ | refine st_gtF rfl rfl rfl rfl rfl rfl (by omega) ?_ | refine st_geT rfl rfl rfl rfl rfl rfl (by omega) ?_ | refine st_geF rfl rfl rfl rfl rfl rfl (by omega) ?_ | refine st_eqT rfl rfl rfl rfl rfl rfl (by omega) ?_ | refine st_eqF rfl rfl rfl rfl rfl rfl (by omega) ?_ | refine st_neqT rfl rfl rfl rfl rfl rfl (by omega) ?_ | refine st_neqF rfl rfl rfl rfl rfl rfl (by omega) ?_ | refine st_sub rfl rfl rfl rfl rfl rfl (by omega) ?_ | refine st_I rfl rfl rfl rfl rfl ?_ | refine st_B rfl rfl rfl rfl rfl ?_ | refine st_S rfl rfl rfl rfl rfl ?_ | refine st_P rfl rfl rfl rfl rfl ?_ | refine st_T rfl rfl rfl rfl rfl ?_ | refine st_U rfl rfl rfl rfl rfl ?_ | refine st_off rfl rfl rfl ?_)
    simp only [EC_seq, EC_region, EC_block, EC_scope, EC_skip, EC_exit, EC_ret, EC_label, EO_nil, ED_nil, after_normal, after_exit, after_ret, leave_normal, leave_exit, leave_ret, goesOn_exit, goesOn_ret, cut_exit, cut_ret, cutx_exit, cutx_ret, reduceIte, Nat.reduceEqDiff, reduceCtorEq, Nat.one_ne_zero, Nat.zero_ne_one]
    rw [EC_cond_false rfl]
    simp only [EC_seq, EC_region, EC_block, EC_scope, EC_skip, EC_exit, EC_ret, EC_label, EO_nil, ED_nil, after_normal, after_exit, after_ret, leave_normal, leave_exit, leave_ret, goesOn_exit, goesOn_ret, cut_exit, cut_ret, cutx_exit, cutx_ret, reduceIte, Nat.reduceEqDiff, reduceCtorEq, Nat.one_ne_zero, Nat.zero_ne_one]
    repeat (first | refine st_gtT rfl rfl rfl rfl rfl rfl (by omega) ?_ | refine st_gtF rfl rfl rfl rfl rfl rfl (by omega) ?_ | refine st_geT rfl rfl rfl rfl rfl rfl (by omega) ?_ | refine st_geF rfl rfl rfl rfl rfl rfl (by omega) ?_ | refine st_eqT rfl rfl rfl rfl rfl rfl (by omega) ?_ | refine st_eqF rfl rfl rfl rfl rfl rfl (by omega) ?_ | refine st_neqT rfl rfl rfl rfl rfl rfl (by omega) ?_ | refine st_neqF rfl rfl rfl rfl rfl rfl (by omega) ?_ | refine st_sub rfl rfl rfl rfl rfl rfl (by omega) ?_ | refine st_I rfl rfl rfl rfl rfl ?_ | refine st_B rfl rfl rfl rfl rfl ?_ | refine st_S rfl rfl rfl rfl rfl ?_ | refine st_P rfl rfl rfl rfl rfl ?_ | refine st_T rfl rfl rfl rfl rfl ?_ | refine st_U rfl rfl rfl rfl rfl ?_ | refine st_off rfl rfl rfl ?_)
    simp only [EC_seq, EC_region, EC_block, EC_scope, EC_skip, EC_exit, EC_ret, EC_label, EO_nil, ED_nil, after_normal, after_exit, after_ret, leave_normal, leave_exit, leave_ret, goesOn_exit, goesOn_ret, cut_exit, cut_ret, cutx_exit, cutx_ret, reduceIte, Nat.reduceEqDiff, reduceCtorEq, Nat.one_ne_zero, Nat.zero_ne_one]
    obtain ⟨a3, rfl, _⟩ := hg.shape
    repeat (first | refine st_gtT rfl rfl rfl rfl rfl rfl (by omega) ?_ | refine st_gtF rfl rfl rfl rfl rfl rfl (by omega) ?_ | refine st_geT rfl rfl rfl rfl rfl rfl (by omega) ?_ | refine st_geF rfl rfl rfl rfl rfl rfl (by omega) ?_ | refine st_eqT rfl rfl rfl rfl rfl rfl (by omega) ?_ | refine st_eqF rfl rfl rfl rfl rfl rfl (by omega) ?_ | refine st_neqT rfl rfl rfl rfl rfl rfl (by omega) ?_ | refine st_neqF rfl rfl rfl rfl rfl rfl (by omega) ?_ | refine st_sub rfl rfl rfl rfl rfl rfl (by omega) ?_ | refine st_I rfl rfl rfl rfl rfl ?_ | refine st_B rfl rfl rfl rfl rfl ?_ | refine st_S rfl rfl rfl rfl rfl ?_ | refine st_P rfl rfl rfl rfl rfl ?_ | refine st_T rfl rfl rfl rfl rfl ?_ | refine st_U rfl rfl rfl rfl rfl ?_ | refine st_off rfl rfl rfl ?_)
    simp only [EC_seq, EC_region, EC_block, EC_scope, EC_skip, EC_exit, EC_ret, EC_label, EO_nil, ED_nil, after_normal, after_exit, after_ret, leave_normal, leave_exit, leave_ret, goesOn_exit, goesOn_ret, cut_exit, cut_ret, cutx_exit, cutx_ret, reduceIte, Nat.reduceEqDiff, reduceCtorEq, Nat.one_ne_zero, Nat.zero_ne_one]
    have hPlen : P.length < 4000000 := by omega
    refine EC_for (α := Nat × Value × Nat) (fun z => [(3, .slice a3 P.length P.length), (7, z.2.1), (8, .int .i64 ((z.1 : Int) - 1))])
      (fun z h' n' w => w = [] ∧ n2 ≤ n' ∧ z.1 ≤ P.length ∧ Ext n2 h2 h' ∧ z.2.2 = valP (P.drop z.1) ∧ Gro h' n2 n' 5 1 z.2.1 (decD z.2.2).length (u8s (decB z.2.2)) ∧ (decD z.2.2).length ≤ 9 * (P.length - z.1)) (fun z => z.1)
      (P.length, .slice none 0 0, 0) ⟨rfl, rfl, rfl, trivial⟩ ⟨rfl, Nat.le_refl _, Nat.le_refl _, Ext.refl _ _, by simp [valP], by show Gro _ _ _ _ _ _ (decD 0).length (u8s (decB 0)); rw [decB, decD_zero]; exact .nil, by rw [decD_zero]; simp⟩ (by show P.length < LL; unfold LL; omega) ?_
    rintro ⟨j, v7, V⟩ t h4 n4 w4 ⟨rfl, hn4, hj, hx4, hVj, hg7, hdl⟩
    simp only at hj hVj hg7 hdl
    simp only [EC_seq, EC_region, EC_block, EC_scope, EC_skip, EC_exit, EC_ret, EC_label, EO_nil, ED_nil, after_normal, after_exit, after_ret, leave_normal, leave_exit, leave_ret, goesOn_exit, goesOn_ret, cut_exit, cut_ret, cutx_exit, cutx_ret, reduceIte, Nat.reduceEqDiff, reduceCtorEq, Nat.one_ne_zero, Nat.zero_ne_one]
    cases j with
    | zero =>
      repeat (first | refine st_gtT rfl rfl rfl rfl rfl rfl (by omega) ?_ | refine st_gtF rfl rfl rfl rfl rfl rfl (by omega) ?_ | refine st_geT rfl rfl rfl rfl rfl rfl (by omega) ?_ | refine st_geF rfl rfl rfl rfl rfl rfl (by omega) ?_ | refine st_eqT rfl rfl rfl rfl rfl rfl (by omega) ?_ | refine st_eqF rfl rfl rfl rfl rfl rfl (by omega) ?_ | refine st_neqT rfl rfl rfl rfl rfl rfl (by omega) ?_ | refine st_neqF rfl rfl rfl rfl rfl rfl (by omega) ?_ | refine st_sub rfl rfl rfl rfl rfl rfl (by omega) ?_ | refine st_I rfl rfl rfl rfl rfl ?_ | refine st_B rfl rfl rfl rfl rfl ?_ | refine st_S rfl rfl rfl rfl rfl ?_ | refine st_P rfl rfl rfl rfl rfl ?_ | refine st_T rfl rfl rfl rfl rfl ?_ | refine st_U rfl rfl rfl rfl rfl ?_ | refine st_off rfl rfl rfl ?_)
      simp only [EC_seq, EC_region, EC_block, EC_scope, EC_skip, EC_exit, EC_ret, EC_label, EO_nil, ED_nil, after_normal, after_exit, after_ret, leave_normal, leave_exit, leave_ret, goesOn_exit, goesOn_ret, cut_exit, cut_ret, cutx_exit, cutx_ret, reduceIte, Nat.reduceEqDiff, reduceCtorEq, Nat.one_ne_zero, Nat.zero_ne_one]
      rw [EC_cond_false rfl]
      simp only [EC_seq, EC_region, EC_block, EC_scope, EC_skip, EC_exit, EC_ret, EC_label, EO_nil, ED_nil, after_normal, after_exit, after_ret, leave_normal, leave_exit, leave_ret, goesOn_exit, goesOn_ret, cut_exit, cut_ret, cutx_exit, cutx_ret, reduceIte, Nat.reduceEqDiff, reduceCtorEq, Nat.one_ne_zero, Nat.zero_ne_one]
      obtain ⟨a7, rfl, _⟩ := hg7.shape
      have hVV : V = x.natAbs := by rw [hVj, ← hval, hV]; rfl
      have hV0 : V ≠ 0 := by have := hi.norm.pos h0; omega
      repeat (first | refine st_gtT rfl rfl rfl rfl rfl rfl (by omega) ?_ | refine st_gtF rfl rfl rfl rfl rfl rfl (by omega) ?_ | refine st_geT rfl rfl rfl rfl rfl rfl (by omega) ?_ | refine st_geF rfl rfl rfl rfl rfl rfl (by omega) ?_ | refine st_eqT rfl rfl rfl rfl rfl rfl (by omega) ?_ | refine st_eqF rfl rfl rfl rfl rfl rfl (by omega) ?_ | refine st_neqT rfl rfl rfl rfl rfl rfl (by omega) ?_ | refine st_neqF rfl rfl rfl rfl rfl rfl (by omega) ?_ | refine st_sub rfl rfl rfl rfl rfl rfl (by omega) ?_ | refine st_I rfl rfl rfl rfl rfl ?_ | refine st_B rfl rfl rfl rfl rfl ?_ | refine st_S rfl rfl rfl rfl rfl ?_ | refine st_P rfl rfl rfl rfl rfl ?_ | refine st_T rfl rfl rfl rfl rfl ?_ | refine st_U rfl rfl rfl rfl rfl ?_ | refine st_off rfl rfl rfl ?_)
      refine st_text rfl rfl rfl rfl rfl (textF_eq rfl rfl rfl (argS_sl hg7.sl)) ?_
      repeat (first | refine st_gtT rfl rfl rfl rfl rfl rfl (by omega) ?_ | refine st_gtF rfl rfl rfl rfl rfl rfl (by omega) ?_ | refine st_geT rfl rfl rfl rfl rfl rfl (by omega) ?_ | refine st_geF rfl rfl rfl rfl rfl rfl (by omega) ?_ | refine st_eqT rfl rfl rfl rfl rfl rfl (by omega) ?_ | refine st_eqF rfl rfl rfl rfl rfl rfl (by omega) ?_ | refine st_neqT rfl rfl rfl rfl rfl rfl (by omega) ?_ | refine st_neqF rfl rfl rfl rfl rfl rfl (by omega) ?_ | refine st_sub rfl rfl rfl rfl rfl rfl (by omega) ?_ | refine st_I rfl rfl rfl rfl rfl ?_ | refine st_B rfl rfl rfl rfl rfl ?_ | refine st_S rfl rfl rfl rfl rfl ?_ | refine st_P rfl rfl rfl rfl rfl ?_ | refine st_T rfl rfl rfl rfl rfl ?_ | refine st_U rfl rfl rfl rfl rfl ?_ | refine st_off rfl rfl rfl ?_)
      simp only [EC_seq, EC_region, EC_block, EC_scope, EC_skip, EC_exit, EC_ret, EC_label, EO_nil, ED_nil, after_normal, after_exit, after_ret, leave_normal, leave_exit, leave_ret, goesOn_exit, goesOn_ret, cut_exit, cut_ret, cutx_exit, cutx_ret, reduceIte, Nat.reduceEqDiff, reduceCtorEq, Nat.one_ne_zero, Nat.zero_ne_one]
      exact retF _ rfl (resF_tmp rfl) rfl rfl (by rw [← hVV, decStr, if_neg hV0]; rfl)
    | succ j =>
      have hjP : j < P.length := by omega
      obtain ⟨p, hp⟩ : ∃ p, P[j]? = some p := ⟨P[j], by simp [hjP]⟩
      have hp9 : p < 1000000000 := hP p (List.mem_of_getElem? hp)
      have hcons := drop_cons hp
      have hs3 := hg.sl
      obtain ⟨b3, off3, x3, cs3, rfl, hb3, hx3, hc3, hcap3, hle3, he3⟩ := hs3.inv (by omega)
      have hcell : cs3[off3 + j]? = some (.int .u32 (p : Int)) := cell_at he3 (by rw [u32s, List.getElem?_map, hp]; rfl)
      repeat (first | refine st_gtT rfl rfl rfl rfl rfl rfl (by omega) ?_ | refine st_gtF rfl rfl rfl rfl rfl rfl (by omega) ?_ | refine st_geT rfl rfl rfl rfl rfl rfl (by omega) ?_ | refine st_geF rfl rfl rfl rfl rfl rfl (by omega) ?_ | refine st_eqT rfl rfl rfl rfl rfl rfl (by omega) ?_ | refine st_eqF rfl rfl rfl rfl rfl rfl (by omega) ?_ | refine st_neqT rfl rfl rfl rfl rfl rfl (by omega) ?_ | refine st_neqF rfl rfl rfl rfl rfl rfl (by omega) ?_ | refine st_sub rfl rfl rfl rfl rfl rfl (by omega) ?_ | refine st_I rfl rfl rfl rfl rfl ?_ | refine st_B rfl rfl rfl rfl rfl ?_ | refine st_S rfl rfl rfl rfl rfl ?_ | refine st_P rfl rfl rfl rfl rfl ?_ | refine st_T rfl rfl rfl rfl rfl ?_ | refine st_U rfl rfl rfl rfl rfl ?_ | refine st_off rfl rfl rfl ?_)
      simp only [EC_seq, EC_region, EC_block, EC_scope, EC_skip, EC_exit, EC_ret, EC_label, EO_nil, ED_nil, after_normal, after_exit, after_ret, leave_normal, leave_exit, leave_ret, goesOn_exit, goesOn_ret, cut_exit, cut_ret, cutx_exit, cutx_ret, reduceIte, Nat.reduceEqDiff, reduceCtorEq, Nat.one_ne_zero, Nat.zero_ne_one]
      rw [EC_cond_true rfl]
      simp only [EC_seq, EC_region, EC_block, EC_scope, EC_skip, EC_exit, EC_ret, EC_label, EO_nil, ED_nil, after_normal, after_exit, after_ret, leave_normal, leave_exit, leave_ret, goesOn_exit, goesOn_ret, cut_exit, cut_ret, cutx_exit, cutx_ret, reduceIte, Nat.reduceEqDiff, reduceCtorEq, Nat.one_ne_zero, Nat.zero_ne_one]
      repeat (first | refine st_gtT rfl rfl rfl rfl rfl rfl (by omega) ?_ | refine st_gtF rfl rfl rfl rfl rfl rfl (by omega) ?_ | refine st_geT rfl rfl rfl rfl rfl rfl (by omega) ?_ | refine st_geF rfl rfl rfl rfl rfl rfl (by omega) ?_ | refine st_eqT rfl rfl rfl rfl rfl rfl (by omega) ?_ | refine st_eqF rfl rfl rfl rfl rfl rfl (by omega) ?_ | refine st_neqT rfl rfl rfl rfl rfl rfl (by omega) ?_ | refine st_neqF rfl rfl rfl rfl rfl rfl (by omega) ?_ | refine st_sub rfl rfl rfl rfl rfl rfl (by omega) ?_ | refine st_I rfl rfl rfl rfl rfl ?_ | refine st_B rfl rfl rfl rfl rfl ?_ | refine st_S rfl rfl rfl rfl rfl ?_ | refine st_P rfl rfl rfl rfl rfl ?_ | refine st_T rfl rfl rfl rfl rfl ?_ | refine st_U rfl rfl rfl rfl rfl ?_ | refine st_off rfl rfl rfl ?_)
      simp only [EC_seq, EC_region, EC_block, EC_scope, EC_skip, EC_exit, EC_ret, EC_label, EO_nil, ED_nil, after_normal, after_exit, after_ret, leave_normal, leave_exit, leave_ret, goesOn_exit, goesOn_ret, cut_exit, cut_ret, cutx_exit, cutx_ret, reduceIte, Nat.reduceEqDiff, reduceCtorEq, Nat.one_ne_zero, Nat.zero_ne_one]
      refine EC_for (α := Nat × Value × Nat) (fun z => [(3, .slice (some ⟨b3, off3, none⟩) P.length P.length), (7, z.2.1), (8, .int .i64 (((j + 1 : Nat) : Int) - 1)), (9, .int .u32 ((10 ^ z.1 / 10 : Nat) : Int))])
        (fun z h' n' w => w = [] ∧ n2 ≤ n' ∧ z.1 ≤ 9 ∧ Ext n2 h2 h' ∧ z.2.2 = V * 10 ^ (9 - z.1) + p / 10 ^ z.1 ∧ Gro h' n2 n' 5 1 z.2.1 (decD z.2.2).length (u8s (decB z.2.2)) ∧ (decD z.2.2).length ≤ 9 * (P.length - (j + 1)) + (9 - z.1)) (fun z => z.1)
        (9, v7, V) ⟨rfl, rfl, rfl, congrArg (Value.int .u32) (show (100000000 : Int) = ((10 ^ 9 / 10 : Nat) : Int) from by decide), trivial⟩ ⟨rfl, hn4, Nat.le_refl _, hx4, by show V = V * 10 ^ 0 + p / 10 ^ 9; omega, hg7, by show (decD V).length ≤ _; omega⟩ (by show 9 < LL; unfold LL; omega) ?_
      rintro ⟨s, v8, U⟩ t h5 n5 w5 ⟨rfl, hn5, hs9, hx5, hU, hg8, hdl8⟩
      simp only at hs9 hU hg8 hdl8
      have hx35 : h5 b3 = some x3 := by rw [hx5 b3 hb3]; exact hx3
      obtain ⟨a8, rfl, _⟩ := hg8.shape
      simp only [EC_seq, EC_region, EC_block, EC_scope, EC_skip, EC_exit, EC_ret, EC_label, EO_nil, ED_nil, after_normal, after_exit, after_ret, leave_normal, leave_exit, leave_ret, goesOn_exit, goesOn_ret, cut_exit, cut_ret, cutx_exit, cutx_ret, reduceIte, Nat.reduceEqDiff, reduceCtorEq, Nat.one_ne_zero, Nat.zero_ne_one]
      cases s with
      | zero =>
        have hz : ((10 ^ 0 / 10 : Nat) : Int) = 0 := rfl
        repeat (first | refine st_gtT rfl rfl rfl rfl rfl rfl (by omega) ?_ | refine st_gtF rfl rfl rfl rfl rfl rfl (by omega) ?_ | refine st_geT rfl rfl rfl rfl rfl rfl (by omega) ?_ | refine st_geF rfl rfl rfl rfl rfl rfl (by omega) ?_ | refine st_eqT rfl rfl rfl rfl rfl rfl (by omega) ?_ | refine st_eqF rfl rfl rfl rfl rfl rfl (by omega) ?_ | refine st_neqT rfl rfl rfl rfl rfl rfl (by omega) ?_ | refine st_neqF rfl rfl rfl rfl rfl rfl (by omega) ?_ | refine st_sub rfl rfl rfl rfl rfl rfl (by omega) ?_ | refine st_I rfl rfl rfl rfl rfl ?_ | refine st_B rfl rfl rfl rfl rfl ?_ | refine st_S rfl rfl rfl rfl rfl ?_ | refine st_P rfl rfl rfl rfl rfl ?_ | refine st_T rfl rfl rfl rfl rfl ?_ | refine st_U rfl rfl rfl rfl rfl ?_ | refine st_off rfl rfl rfl ?_)
        simp only [EC_seq, EC_region, EC_block, EC_scope, EC_skip, EC_exit, EC_ret, EC_label, EO_nil, ED_nil, after_normal, after_exit, after_ret, leave_normal, leave_exit, leave_ret, goesOn_exit, goesOn_ret, cut_exit, cut_ret, cutx_exit, cutx_ret, reduceIte, Nat.reduceEqDiff, reduceCtorEq, Nat.one_ne_zero, Nat.zero_ne_one]
        rw [EC_cond_false rfl]
        simp only [EC_seq, EC_region, EC_block, EC_scope, EC_skip, EC_exit, EC_ret, EC_label, EO_nil, ED_nil, after_normal, after_exit, after_ret, leave_normal, leave_exit, leave_ret, goesOn_exit, goesOn_ret, cut_exit, cut_ret, cutx_exit, cutx_ret, reduceIte, Nat.reduceEqDiff, reduceCtorEq, Nat.one_ne_zero, Nat.zero_ne_one]
        repeat (first | refine st_gtT rfl rfl rfl rfl rfl rfl (by omega) ?_ | refine st_gtF rfl rfl rfl rfl rfl rfl (by omega) ?_ | refine st_geT rfl rfl rfl rfl rfl rfl (by omega) ?_ | refine st_geF rfl rfl rfl rfl rfl rfl (by omega) ?_ | refine st_eqT rfl rfl rfl rfl rfl rfl (by omega) ?_ | refine st_eqF rfl rfl rfl rfl rfl rfl (by omega) ?_ | refine st_neqT rfl rfl rfl rfl rfl rfl (by omega) ?_ | refine st_neqF rfl rfl rfl rfl rfl rfl (by omega) ?_ | refine st_sub rfl rfl rfl rfl rfl rfl (by omega) ?_ | refine st_I rfl rfl rfl rfl rfl ?_ | refine st_B rfl rfl rfl rfl rfl ?_ | refine st_S rfl rfl rfl rfl rfl ?_ | refine st_P rfl rfl rfl rfl rfl ?_ | refine st_T rfl rfl rfl rfl rfl ?_ | refine st_U rfl rfl rfl rfl rfl ?_ | refine st_off rfl rfl rfl ?_)
        simp only [EC_seq, EC_region, EC_block, EC_scope, EC_skip, EC_exit, EC_ret, EC_label, EO_nil, ED_nil, after_normal, after_exit, after_ret, leave_normal, leave_exit, leave_ret, goesOn_exit, goesOn_ret, cut_exit, cut_ret, cutx_exit, cutx_ret, reduceIte, Nat.reduceEqDiff, reduceCtorEq, Nat.one_ne_zero, Nat.zero_ne_one]
        refine goOn (j, .slice a8 (decD U).length (decD U).length, U) (by simp) ⟨rfl, rfl, by show Value.int .i64 _ = Value.int .i64 _; congr 1; omega, trivial⟩ ⟨rfl, hn5, by show j ≤ _; omega, hx5, ?_, hg8, by show (decD U).length ≤ 9 * (P.length - j); omega⟩
        show U = valP (P.drop j)
        rw [hcons, hU]
        simp only [valP, ← hVj]
        omega
      | succ s =>
        have hds : 10 ^ (s + 1) / 10 = 10 ^ s := pow_div s
        have hd9 := pow_le9 (s := s) (by omega)
        have hdpos : 0 < 10 ^ s := Nat.pow_pos (by omega)
        rw [hds]
        generalize hD : 10 ^ s = D at *
        repeat (first | refine st_gtT rfl rfl rfl rfl rfl rfl (by omega) ?_ | refine st_gtF rfl rfl rfl rfl rfl rfl (by omega) ?_ | refine st_geT rfl rfl rfl rfl rfl rfl (by omega) ?_ | refine st_geF rfl rfl rfl rfl rfl rfl (by omega) ?_ | refine st_eqT rfl rfl rfl rfl rfl rfl (by omega) ?_ | refine st_eqF rfl rfl rfl rfl rfl rfl (by omega) ?_ | refine st_neqT rfl rfl rfl rfl rfl rfl (by omega) ?_ | refine st_neqF rfl rfl rfl rfl rfl rfl (by omega) ?_ | refine st_sub rfl rfl rfl rfl rfl rfl (by omega) ?_ | refine st_I rfl rfl rfl rfl rfl ?_ | refine st_B rfl rfl rfl rfl rfl ?_ | refine st_S rfl rfl rfl rfl rfl ?_ | refine st_P rfl rfl rfl rfl rfl ?_ | refine st_T rfl rfl rfl rfl rfl ?_ | refine st_U rfl rfl rfl rfl rfl ?_ | refine st_off rfl rfl rfl ?_)
        simp only [EC_seq, EC_region, EC_block, EC_scope, EC_skip, EC_exit, EC_ret, EC_label, EO_nil, ED_nil, after_normal, after_exit, after_ret, leave_normal, leave_exit, leave_ret, goesOn_exit, goesOn_ret, cut_exit, cut_ret, cutx_exit, cutx_ret, reduceIte, Nat.reduceEqDiff, reduceCtorEq, Nat.one_ne_zero, Nat.zero_ne_one]
        rw [EC_cond_true rfl]
        simp only [EC_seq, EC_region, EC_block, EC_scope, EC_skip, EC_exit, EC_ret, EC_label, EO_nil, ED_nil, after_normal, after_exit, after_ret, leave_normal, leave_exit, leave_ret, goesOn_exit, goesOn_ret, cut_exit, cut_ret, cutx_exit, cutx_ret, reduceIte, Nat.reduceEqDiff, reduceCtorEq, Nat.one_ne_zero, Nat.zero_ne_one]
        repeat (first | refine st_gtT rfl rfl rfl rfl rfl rfl (by omega) ?_ | refine st_gtF rfl rfl rfl rfl rfl rfl (by omega) ?_ | refine st_geT rfl rfl rfl rfl rfl rfl (by omega) ?_ | refine st_geF rfl rfl rfl rfl rfl rfl (by omega) ?_ | refine st_eqT rfl rfl rfl rfl rfl rfl (by omega) ?_ | refine st_eqF rfl rfl rfl rfl rfl rfl (by omega) ?_ | refine st_neqT rfl rfl rfl rfl rfl rfl (by omega) ?_ | refine st_neqF rfl rfl rfl rfl rfl rfl (by omega) ?_ | refine st_sub rfl rfl rfl rfl rfl rfl (by omega) ?_ | refine st_I rfl rfl rfl rfl rfl ?_ | refine st_B rfl rfl rfl rfl rfl ?_ | refine st_S rfl rfl rfl rfl rfl ?_ | refine st_P rfl rfl rfl rfl rfl ?_ | refine st_T rfl rfl rfl rfl rfl ?_ | refine st_U rfl rfl rfl rfl rfl ?_ | refine st_off rfl rfl rfl ?_)
        refine st_idx rfl rfl rfl rfl rfl rfl rfl rfl (by omega) ?_
        refine st_load1 rfl rfl rfl rfl rfl rfl hx35 hc3 (v := .int .u32 (p : Int)) (by rw [← hcell]; congr 1; omega) ?_
        (first | refine st_I rfl rfl rfl rfl rfl ?_ | refine st_B rfl rfl rfl rfl rfl ?_ | refine st_S rfl rfl rfl rfl rfl ?_ | refine st_P rfl rfl rfl rfl rfl ?_ | refine st_T rfl rfl rfl rfl rfl ?_ | refine st_U rfl rfl rfl rfl rfl ?_ | refine st_off rfl rfl rfl ?_)
        refine st_div_u32 rfl rfl rfl rfl rfl rfl (by omega) ?_
        refine st_rem_u32 (b := 10) rfl rfl rfl rfl rfl rfl (by omega) ?_
        refine st_add_u32 (a := 48) rfl rfl rfl rfl rfl rfl (by omega) ?_
        refine st_conv_u8 rfl rfl rfl rfl rfl rfl rfl ?_
        obtain ⟨c, hc⟩ : ∃ c, c = p / D % 10 := ⟨_, rfl⟩
        have hc10 : c < 10 := by omega
        rw [← hc, Nat.mod_eq_of_lt (show 48 + c < 256 by omega)]
        have hUs : V * 10 ^ (9 - s) + p / D = 10 * U + c := by
          have e1 := tenstep p s
          rw [hD] at e1
          rw [hU, show 9 - s = (9 - (s + 1)) + 1 from by omega, Nat.pow_succ, hc, ← e1]
          have : 10 ^ (s + 1) = 10 ^ (s + 1) := rfl
          generalize p / 10 ^ (s + 1) = A
          generalize 10 ^ (9 - (s + 1)) = B
          rw [Nat.mul_add, ← Nat.mul_assoc, ← Nat.mul_assoc]
          have : V * B * 10 = 10 * V * B := by rw [Nat.mul_comm (V * B) 10, Nat.mul_assoc]
          omega
        repeat (first | refine st_gtT rfl rfl rfl rfl rfl rfl (by omega) ?_ | refine st_gtF rfl rfl rfl rfl rfl rfl (by omega) ?_ | refine st_geT rfl rfl rfl rfl rfl rfl (by omega) ?_ | refine st_geF rfl rfl rfl rfl rfl rfl (by omega) ?_ | refine st_eqT rfl rfl rfl rfl rfl rfl (by omega) ?_ | refine st_eqF rfl rfl rfl rfl rfl rfl (by omega) ?_ | refine st_neqT rfl rfl rfl rfl rfl rfl (by omega) ?_ | refine st_neqF rfl rfl rfl rfl rfl rfl (by omega) ?_ | refine st_sub rfl rfl rfl rfl rfl rfl (by omega) ?_ | refine st_I rfl rfl rfl rfl rfl ?_ | refine st_B rfl rfl rfl rfl rfl ?_ | refine st_S rfl rfl rfl rfl rfl ?_ | refine st_P rfl rfl rfl rfl rfl ?_ | refine st_T rfl rfl rfl rfl rfl ?_ | refine st_U rfl rfl rfl rfl rfl ?_ | refine st_off rfl rfl rfl ?_)
        simp only [EC_seq, EC_region, EC_block, EC_scope, EC_skip, EC_exit, EC_ret, EC_label, EO_nil, ED_nil, after_normal, after_exit, after_ret, leave_normal, leave_exit, leave_ret, goesOn_exit, goesOn_ret, cut_exit, cut_ret, cutx_exit, cutx_ret, reduceIte, Nat.reduceEqDiff, reduceCtorEq, Nat.one_ne_zero, Nat.zero_ne_one]
        have hlen0 : (decD U).length = 0 ↔ U = 0 := by rw [List.length_eq_zero_iff, decD_nil]
        by_cases hA : U = 0 ∧ c = 0
        · have hl8 := hlen0.2 hA.1
          repeat (first | refine st_gtT rfl rfl rfl rfl rfl rfl (by omega) ?_ | refine st_gtF rfl rfl rfl rfl rfl rfl (by omega) ?_ | refine st_geT rfl rfl rfl rfl rfl rfl (by omega) ?_ | refine st_geF rfl rfl rfl rfl rfl rfl (by omega) ?_ | refine st_eqT rfl rfl rfl rfl rfl rfl (by omega) ?_ | refine st_eqF rfl rfl rfl rfl rfl rfl (by omega) ?_ | refine st_neqT rfl rfl rfl rfl rfl rfl (by omega) ?_ | refine st_neqF rfl rfl rfl rfl rfl rfl (by omega) ?_ | refine st_sub rfl rfl rfl rfl rfl rfl (by omega) ?_ | refine st_I rfl rfl rfl rfl rfl ?_ | refine st_B rfl rfl rfl rfl rfl ?_ | refine st_S rfl rfl rfl rfl rfl ?_ | refine st_P rfl rfl rfl rfl rfl ?_ | refine st_T rfl rfl rfl rfl rfl ?_ | refine st_U rfl rfl rfl rfl rfl ?_ | refine st_off rfl rfl rfl ?_)
          simp only [EC_seq, EC_region, EC_block, EC_scope, EC_skip, EC_exit, EC_ret, EC_label, EO_nil, ED_nil, after_normal, after_exit, after_ret, leave_normal, leave_exit, leave_ret, goesOn_exit, goesOn_ret, cut_exit, cut_ret, cutx_exit, cutx_ret, reduceIte, Nat.reduceEqDiff, reduceCtorEq, Nat.one_ne_zero, Nat.zero_ne_one]
          rw [EC_cond_false rfl]
          simp only [EC_seq, EC_region, EC_block, EC_scope, EC_skip, EC_exit, EC_ret, EC_label, EO_nil, ED_nil, after_normal, after_exit, after_ret, leave_normal, leave_exit, leave_ret, goesOn_exit, goesOn_ret, cut_exit, cut_ret, cutx_exit, cutx_ret, reduceIte, Nat.reduceEqDiff, reduceCtorEq, Nat.one_ne_zero, Nat.zero_ne_one]
          (first | refine st_I rfl rfl rfl rfl rfl ?_ | refine st_B rfl rfl rfl rfl rfl ?_ | refine st_S rfl rfl rfl rfl rfl ?_ | refine st_P rfl rfl rfl rfl rfl ?_ | refine st_T rfl rfl rfl rfl rfl ?_ | refine st_U rfl rfl rfl rfl rfl ?_ | refine st_off rfl rfl rfl ?_)
          refine st_div_u32 (b := 10) rfl rfl rfl rfl rfl rfl (by omega) ?_
          repeat (first | refine st_gtT rfl rfl rfl rfl rfl rfl (by omega) ?_ | refine st_gtF rfl rfl rfl rfl rfl rfl (by omega) ?_ | refine st_geT rfl rfl rfl rfl rfl rfl (by omega) ?_ | refine st_geF rfl rfl rfl rfl rfl rfl (by omega) ?_ | refine st_eqT rfl rfl rfl rfl rfl rfl (by omega) ?_ | refine st_eqF rfl rfl rfl rfl rfl rfl (by omega) ?_ | refine st_neqT rfl rfl rfl rfl rfl rfl (by omega) ?_ | refine st_neqF rfl rfl rfl rfl rfl rfl (by omega) ?_ | refine st_sub rfl rfl rfl rfl rfl rfl (by omega) ?_ | refine st_I rfl rfl rfl rfl rfl ?_ | refine st_B rfl rfl rfl rfl rfl ?_ | refine st_S rfl rfl rfl rfl rfl ?_ | refine st_P rfl rfl rfl rfl rfl ?_ | refine st_T rfl rfl rfl rfl rfl ?_ | refine st_U rfl rfl rfl rfl rfl ?_ | refine st_off rfl rfl rfl ?_)
          simp only [EC_seq, EC_region, EC_block, EC_scope, EC_skip, EC_exit, EC_ret, EC_label, EO_nil, ED_nil, after_normal, after_exit, after_ret, leave_normal, leave_exit, leave_ret, goesOn_exit, goesOn_ret, cut_exit, cut_ret, cutx_exit, cutx_ret, reduceIte, Nat.reduceEqDiff, reduceCtorEq, Nat.one_ne_zero, Nat.zero_ne_one]
          refine goOn (s, .slice a8 (decD U).length (decD U).length, U) (by simp) ⟨rfl, rfl, rfl, by show Value.int .u32 _ = Value.int .u32 ((10 ^ s / 10 : Nat) : Int); rw [hD], trivial⟩ ⟨rfl, hn5, by show s ≤ 9; omega, hx5, ?_, hg8, by show (decD U).length ≤ _; omega⟩
          show U = V * 10 ^ (9 - s) + p / 10 ^ s
          rw [hD, hUs]; omega
        · have hdl9 : (decD (10 * U + c)).length = (decD U).length + 1 := by rw [decD_step hc10 (by omega)]; simp
          by_cases hU0 : U = 0 <;>
          (have hl8 := hlen0
           repeat (first | refine st_gtT rfl rfl rfl rfl rfl rfl (by omega) ?_ | refine st_gtF rfl rfl rfl rfl rfl rfl (by omega) ?_ | refine st_geT rfl rfl rfl rfl rfl rfl (by omega) ?_ | refine st_geF rfl rfl rfl rfl rfl rfl (by omega) ?_ | refine st_eqT rfl rfl rfl rfl rfl rfl (by omega) ?_ | refine st_eqF rfl rfl rfl rfl rfl rfl (by omega) ?_ | refine st_neqT rfl rfl rfl rfl rfl rfl (by omega) ?_ | refine st_neqF rfl rfl rfl rfl rfl rfl (by omega) ?_ | refine st_sub rfl rfl rfl rfl rfl rfl (by omega) ?_ | refine st_I rfl rfl rfl rfl rfl ?_ | refine st_B rfl rfl rfl rfl rfl ?_ | refine st_S rfl rfl rfl rfl rfl ?_ | refine st_P rfl rfl rfl rfl rfl ?_ | refine st_T rfl rfl rfl rfl rfl ?_ | refine st_U rfl rfl rfl rfl rfl ?_ | refine st_off rfl rfl rfl ?_)
           simp only [EC_seq, EC_region, EC_block, EC_scope, EC_skip, EC_exit, EC_ret, EC_label, EO_nil, ED_nil, after_normal, after_exit, after_ret, leave_normal, leave_exit, leave_ret, goesOn_exit, goesOn_ret, cut_exit, cut_ret, cutx_exit, cutx_ret, reduceIte, Nat.reduceEqDiff, reduceCtorEq, Nat.one_ne_zero, Nat.zero_ne_one]
           rw [EC_cond_true rfl]
           simp only [EC_seq, EC_region, EC_block, EC_scope, EC_skip, EC_exit, EC_ret, EC_label, EO_nil, ED_nil, after_normal, after_exit, after_ret, leave_normal, leave_exit, leave_ret, goesOn_exit, goesOn_ret, cut_exit, cut_ret, cutx_exit, cutx_ret, reduceIte, Nat.reduceEqDiff, reduceCtorEq, Nat.one_ne_zero, Nat.zero_ne_one]
           repeat (first | refine st_gtT rfl rfl rfl rfl rfl rfl (by omega) ?_ | refine st_gtF rfl rfl rfl rfl rfl rfl (by omega) ?_ | refine st_geT rfl rfl rfl rfl rfl rfl (by omega) ?_ | refine st_geF rfl rfl rfl rfl rfl rfl (by omega) ?_ | refine st_eqT rfl rfl rfl rfl rfl rfl (by omega) ?_ | refine st_eqF rfl rfl rfl rfl rfl rfl (by omega) ?_ | refine st_neqT rfl rfl rfl rfl rfl rfl (by omega) ?_ | refine st_neqF rfl rfl rfl rfl rfl rfl (by omega) ?_ | refine st_sub rfl rfl rfl rfl rfl rfl (by omega) ?_ | refine st_I rfl rfl rfl rfl rfl ?_ | refine st_B rfl rfl rfl rfl rfl ?_ | refine st_S rfl rfl rfl rfl rfl ?_ | refine st_P rfl rfl rfl rfl rfl ?_ | refine st_T rfl rfl rfl rfl rfl ?_ | refine st_U rfl rfl rfl rfl rfl ?_ | refine st_off rfl rfl rfl ?_)
           refine st_mks (cs := u8s [48 + c]) rfl rfl rfl rfl rfl ?_
           refine st_app (m := 1) rfl rfl rfl rfl rfl rfl rfl rfl (by decide) (hg8.ext (Ext.upd (by omega)) (Nat.le_succ _)) (argS_of (upd_same _ _ _) rfl rfl) (Nat.le_refl _) (by omega) rfl rfl (by show n ≤ _ ∧ _; omega) ?_
           intro v9 h9 hg9 hx9 hk9
           obtain ⟨a9, rfl, _⟩ := hg9.shape
           repeat (first | refine st_gtT rfl rfl rfl rfl rfl rfl (by omega) ?_ | refine st_gtF rfl rfl rfl rfl rfl rfl (by omega) ?_ | refine st_geT rfl rfl rfl rfl rfl rfl (by omega) ?_ | refine st_geF rfl rfl rfl rfl rfl rfl (by omega) ?_ | refine st_eqT rfl rfl rfl rfl rfl rfl (by omega) ?_ | refine st_eqF rfl rfl rfl rfl rfl rfl (by omega) ?_ | refine st_neqT rfl rfl rfl rfl rfl rfl (by omega) ?_ | refine st_neqF rfl rfl rfl rfl rfl rfl (by omega) ?_ | refine st_sub rfl rfl rfl rfl rfl rfl (by omega) ?_ | refine st_I rfl rfl rfl rfl rfl ?_ | refine st_B rfl rfl rfl rfl rfl ?_ | refine st_S rfl rfl rfl rfl rfl ?_ | refine st_P rfl rfl rfl rfl rfl ?_ | refine st_T rfl rfl rfl rfl rfl ?_ | refine st_U rfl rfl rfl rfl rfl ?_ | refine st_off rfl rfl rfl ?_)
           simp only [EC_seq, EC_region, EC_block, EC_scope, EC_skip, EC_exit, EC_ret, EC_label, EO_nil, ED_nil, after_normal, after_exit, after_ret, leave_normal, leave_exit, leave_ret, goesOn_exit, goesOn_ret, cut_exit, cut_ret, cutx_exit, cutx_ret, reduceIte, Nat.reduceEqDiff, reduceCtorEq, Nat.one_ne_zero, Nat.zero_ne_one]
           refine st_I rfl rfl rfl rfl rfl ?_
           refine st_div_u32 (b := 10) rfl rfl rfl rfl rfl rfl (by omega) ?_
           repeat (first | refine st_gtT rfl rfl rfl rfl rfl rfl (by omega) ?_ | refine st_gtF rfl rfl rfl rfl rfl rfl (by omega) ?_ | refine st_geT rfl rfl rfl rfl rfl rfl (by omega) ?_ | refine st_geF rfl rfl rfl rfl rfl rfl (by omega) ?_ | refine st_eqT rfl rfl rfl rfl rfl rfl (by omega) ?_ | refine st_eqF rfl rfl rfl rfl rfl rfl (by omega) ?_ | refine st_neqT rfl rfl rfl rfl rfl rfl (by omega) ?_ | refine st_neqF rfl rfl rfl rfl rfl rfl (by omega) ?_ | refine st_sub rfl rfl rfl rfl rfl rfl (by omega) ?_ | refine st_I rfl rfl rfl rfl rfl ?_ | refine st_B rfl rfl rfl rfl rfl ?_ | refine st_S rfl rfl rfl rfl rfl ?_ | refine st_P rfl rfl rfl rfl rfl ?_ | refine st_T rfl rfl rfl rfl rfl ?_ | refine st_U rfl rfl rfl rfl rfl ?_ | refine st_off rfl rfl rfl ?_)
           simp only [EC_seq, EC_region, EC_block, EC_scope, EC_skip, EC_exit, EC_ret, EC_label, EO_nil, ED_nil, after_normal, after_exit, after_ret, leave_normal, leave_exit, leave_ret, goesOn_exit, goesOn_ret, cut_exit, cut_ret, cutx_exit, cutx_ret, reduceIte, Nat.reduceEqDiff, reduceCtorEq, Nat.one_ne_zero, Nat.zero_ne_one]
           refine goOn (s, .slice a9 ((decD U).length + 1) ((decD U).length + 1), 10 * U + c) (by simp) ⟨rfl, rfl, rfl, by show Value.int .u32 _ = Value.int .u32 ((10 ^ s / 10 : Nat) : Int); rw [hD], trivial⟩ ⟨rfl, by show n2 ≤ n5 + 1 + 1; omega, by show s ≤ 9; omega, fun b hb => ?_, ?_, ?_, by show (decD (10 * U + c)).length ≤ _; omega⟩
           · exact (hx9 b hb).trans ((upd_ne (by omega)).trans (hx5 b hb))
           · show 10 * U + c = V * 10 ^ (9 - s) + p / 10 ^ s
             rw [hD, hUs]
           · show Gro _ _ _ _ _ _ (decD (10 * U + c)).length (u8s (decB (10 * U + c)))
             rw [hdl9, decB_step hc10 (by omega), show u8s (decB U ++ [48 + c]) = u8s (decB U) ++ u8s [48 + c] from by simp [u8s]]
             exact hg9)
  · have hLl0 : L.length ≠ 0 := fun e => hL0 (List.length_eq_zero_iff.1 e)
    have hVL : val L ≠ 0 := by have := hN.pos hL0; omega
    have hp9 := parts9_pos hVL
    repeat (first | refine st_gtT rfl rfl rfl rfl rfl rfl (by omega) ?_ | refine st_gtF rfl rfl rfl rfl rfl rfl (by omega) ?_ | refine st_geT rfl rfl rfl rfl rfl rfl (by omega) ?_ | refine st_geF rfl rfl rfl rfl rfl rfl (by omega) ?_ | refine st_eqT rfl rfl rfl rfl rfl rfl (by omega) ?_ | refine st_eqF rfl rfl rfl rfl rfl rfl (by omega) ?_ | refine st_neqT rfl rfl rfl rfl rfl rfl (by omega) ?_ | refine st_neqF rfl rfl rfl rfl rfl rfl (by omega) ?_ | refine st_sub rfl rfl rfl rfl rfl rfl (by omega) ?_ | refine st_I rfl rfl rfl rfl rfl ?_ | refine st_B rfl rfl rfl rfl rfl ?_ | refine st_S rfl rfl rfl rfl rfl ?_ | refine st_P rfl rfl rfl rfl rfl ?_ | refine st_T rfl rfl rfl rfl rfl ?_ | refine st_U rfl rfl rfl rfl rfl ?_ | refine st_off rfl rfl rfl ?_)
    simp only [EC_seq, EC_region, EC_block, EC_scope, EC_skip, EC_exit, EC_ret, EC_label, EO_nil, ED_nil, after_normal, after_exit, after_ret, leave_normal, leave_exit, leave_ret, goesOn_exit, goesOn_ret, cut_exit, cut_ret, cutx_exit, cutx_ret, reduceIte, Nat.reduceEqDiff, reduceCtorEq, Nat.one_ne_zero, Nat.zero_ne_one]
    rw [EC_cond_true rfl]
    simp only [EC_seq, EC_region, EC_block, EC_scope, EC_skip, EC_exit, EC_ret, EC_label, EO_nil, ED_nil, after_normal, after_exit, after_ret, leave_normal, leave_exit, leave_ret, goesOn_exit, goesOn_ret, cut_exit, cut_ret, cutx_exit, cutx_ret, reduceIte, Nat.reduceEqDiff, reduceCtorEq, Nat.one_ne_zero, Nat.zero_ne_one]
    repeat (first | refine st_gtT rfl rfl rfl rfl rfl rfl (by omega) ?_ | refine st_gtF rfl rfl rfl rfl rfl rfl (by omega) ?_ | refine st_geT rfl rfl rfl rfl rfl rfl (by omega) ?_ | refine st_geF rfl rfl rfl rfl rfl rfl (by omega) ?_ | refine st_eqT rfl rfl rfl rfl rfl rfl (by omega) ?_ | refine st_eqF rfl rfl rfl rfl rfl rfl (by omega) ?_ | refine st_neqT rfl rfl rfl rfl rfl rfl (by omega) ?_ | refine st_neqF rfl rfl rfl rfl rfl rfl (by omega) ?_ | refine st_sub rfl rfl rfl rfl rfl rfl (by omega) ?_ | refine st_I rfl rfl rfl rfl rfl ?_ | refine st_B rfl rfl rfl rfl rfl ?_ | refine st_S rfl rfl rfl rfl rfl ?_ | refine st_P rfl rfl rfl rfl rfl ?_ | refine st_T rfl rfl rfl rfl rfl ?_ | refine st_U rfl rfl rfl rfl rfl ?_ | refine st_off rfl rfl rfl ?_)
    refine st_call _ rfl rfl rfl rfl rfl (smallDiv_ok k (d := 1000000000) (by omega) hN.1 (by omega) hs) ?_
    rintro _ h3 n3 _ ⟨rfl, hn3, hx3, a5, c5, L5, rfl, hs5, hN5, hv5, hf5, hl5⟩
    repeat (first | refine st_gtT rfl rfl rfl rfl rfl rfl (by omega) ?_ | refine st_gtF rfl rfl rfl rfl rfl rfl (by omega) ?_ | refine st_geT rfl rfl rfl rfl rfl rfl (by omega) ?_ | refine st_geF rfl rfl rfl rfl rfl rfl (by omega) ?_ | refine st_eqT rfl rfl rfl rfl rfl rfl (by omega) ?_ | refine st_eqF rfl rfl rfl rfl rfl rfl (by omega) ?_ | refine st_neqT rfl rfl rfl rfl rfl rfl (by omega) ?_ | refine st_neqF rfl rfl rfl rfl rfl rfl (by omega) ?_ | refine st_sub rfl rfl rfl rfl rfl rfl (by omega) ?_ | refine st_I rfl rfl rfl rfl rfl ?_ | refine st_B rfl rfl rfl rfl rfl ?_ | refine st_S rfl rfl rfl rfl rfl ?_ | refine st_P rfl rfl rfl rfl rfl ?_ | refine st_T rfl rfl rfl rfl rfl ?_ | refine st_U rfl rfl rfl rfl rfl ?_ | refine st_off rfl rfl rfl ?_)
    simp only [EC_seq, EC_region, EC_block, EC_scope, EC_skip, EC_exit, EC_ret, EC_label, EO_nil, ED_nil, after_normal, after_exit, after_ret, leave_normal, leave_exit, leave_ret, goesOn_exit, goesOn_ret, cut_exit, cut_ret, cutx_exit, cutx_ret, reduceIte, Nat.reduceEqDiff, reduceCtorEq, Nat.one_ne_zero, Nat.zero_ne_one]
    obtain ⟨a3, rfl, _⟩ := hg.shape
    repeat (first | refine st_gtT rfl rfl rfl rfl rfl rfl (by omega) ?_ | refine st_gtF rfl rfl rfl rfl rfl rfl (by omega) ?_ | refine st_geT rfl rfl rfl rfl rfl rfl (by omega) ?_ | refine st_geF rfl rfl rfl rfl rfl rfl (by omega) ?_ | refine st_eqT rfl rfl rfl rfl rfl rfl (by omega) ?_ | refine st_eqF rfl rfl rfl rfl rfl rfl (by omega) ?_ | refine st_neqT rfl rfl rfl rfl rfl rfl (by omega) ?_ | refine st_neqF rfl rfl rfl rfl rfl rfl (by omega) ?_ | refine st_sub rfl rfl rfl rfl rfl rfl (by omega) ?_ | refine st_I rfl rfl rfl rfl rfl ?_ | refine st_B rfl rfl rfl rfl rfl ?_ | refine st_S rfl rfl rfl rfl rfl ?_ | refine st_P rfl rfl rfl rfl rfl ?_ | refine st_T rfl rfl rfl rfl rfl ?_ | refine st_U rfl rfl rfl rfl rfl ?_ | refine st_off rfl rfl rfl ?_)
    refine st_mks (cs := u32s [val L % 1000000000]) rfl rfl rfl rfl rfl ?_
    refine st_app (m := 1) rfl rfl rfl rfl rfl rfl rfl rfl (by decide) ((hg.ext hx3 hn3).ext (Ext.upd (by omega)) (Nat.le_succ _)) (argS_of (upd_same _ _ _) rfl rfl) (Nat.le_refl _) (by omega) rfl rfl (by show n ≤ _ ∧ _; omega) ?_
    intro v' h6 hg6 hx6 hk6
    obtain ⟨a6, rfl, _⟩ := hg6.shape
    repeat (first | refine st_gtT rfl rfl rfl rfl rfl rfl (by omega) ?_ | refine st_gtF rfl rfl rfl rfl rfl rfl (by omega) ?_ | refine st_geT rfl rfl rfl rfl rfl rfl (by omega) ?_ | refine st_geF rfl rfl rfl rfl rfl rfl (by omega) ?_ | refine st_eqT rfl rfl rfl rfl rfl rfl (by omega) ?_ | refine st_eqF rfl rfl rfl rfl rfl rfl (by omega) ?_ | refine st_neqT rfl rfl rfl rfl rfl rfl (by omega) ?_ | refine st_neqF rfl rfl rfl rfl rfl rfl (by omega) ?_ | refine st_sub rfl rfl rfl rfl rfl rfl (by omega) ?_ | refine st_I rfl rfl rfl rfl rfl ?_ | refine st_B rfl rfl rfl rfl rfl ?_ | refine st_S rfl rfl rfl rfl rfl ?_ | refine st_P rfl rfl rfl rfl rfl ?_ | refine st_T rfl rfl rfl rfl rfl ?_ | refine st_U rfl rfl rfl rfl rfl ?_ | refine st_off rfl rfl rfl ?_)
    simp only [EC_seq, EC_region, EC_block, EC_scope, EC_skip, EC_exit, EC_ret, EC_label, EO_nil, ED_nil, after_normal, after_exit, after_ret, leave_normal, leave_exit, leave_ret, goesOn_exit, goesOn_ret, cut_exit, cut_ret, cutx_exit, cutx_ret, reduceIte, Nat.reduceEqDiff, reduceCtorEq, Nat.one_ne_zero, Nat.zero_ne_one]
    repeat (first | refine st_gtT rfl rfl rfl rfl rfl rfl (by omega) ?_ | refine st_gtF rfl rfl rfl rfl rfl rfl (by omega) ?_ | refine st_geT rfl rfl rfl rfl rfl rfl (by omega) ?_ | refine st_geF rfl rfl rfl rfl rfl rfl (by omega) ?_ | refine st_eqT rfl rfl rfl rfl rfl rfl (by omega) ?_ | refine st_eqF rfl rfl rfl rfl rfl rfl (by omega) ?_ | refine st_neqT rfl rfl rfl rfl rfl rfl (by omega) ?_ | refine st_neqF rfl rfl rfl rfl rfl rfl (by omega) ?_ | refine st_sub rfl rfl rfl rfl rfl rfl (by omega) ?_ | refine st_I rfl rfl rfl rfl rfl ?_ | refine st_B rfl rfl rfl rfl rfl ?_ | refine st_S rfl rfl rfl rfl rfl ?_ | refine st_P rfl rfl rfl rfl rfl ?_ | refine st_T rfl rfl rfl rfl rfl ?_ | refine st_U rfl rfl rfl rfl rfl ?_ | refine st_off rfl rfl rfl ?_)
    simp only [EC_seq, EC_region, EC_block, EC_scope, EC_skip, EC_exit, EC_ret, EC_label, EO_nil, ED_nil, after_normal, after_exit, after_ret, leave_normal, leave_exit, leave_ret, goesOn_exit, goesOn_ret, cut_exit, cut_ret, cutx_exit, cutx_ret, reduceIte, Nat.reduceEqDiff, reduceCtorEq, Nat.one_ne_zero, Nat.zero_ne_one]
    refine goOn (.slice a6 (P.length + 1) (P.length + 1), a5, c5, L5, P ++ [val L % 1000000000]) ?_ ⟨rfl, rfl, trivial⟩ ⟨rfl, by show n + 1 ≤ n3 + 1 + 1; omega, ?_, ?_, hN5, by show L5.length ≤ _; omega, ?_, ?_, ?_⟩
    · show parts9 (val L5) < parts9 (val L)
      rw [hv5]; omega
    · show Gro _ _ _ _ _ _ (P ++ [_]).length (u32s (P ++ [_]))
      rw [u32s_append, List.length_append]
      exact hg6
    · exact (hs5.ext (Ext.upd (by omega)) (Nat.le_succ _)).app hk6 hg.below hf5 (Nat.le_succ _)
    · show (P ++ [_]).length + parts9 (val L5) ≤ _
      rw [hv5, List.length_append, List.length_singleton]; omega
    · intro p hp
      rcases List.mem_append.1 hp with hp | hp
      · exact hP p hp
      · simp at hp; subst hp; omega
    · show val l = valP (P ++ [_]) + 1000000000 ^ (P ++ [_]).length * val L5
      rw [valP_append, List.length_append, List.length_singleton, Nat.pow_succ, hv5, hV]
      simp only [valP]
      have := Nat.div_add_mod (val L) 1000000000
      rw [Nat.mul_assoc, Nat.add_assoc, ← Nat.mul_add]
      congr 2
      omega
end Go.Proofs.YtokfihhdllmbmaaGreatDoor
namespace Go.Proofs.YtokfihhdllmbmaaGreatDoor
open Go Go.GL
/-! Package sosoptnum: the text of a number. -/
theorem decD_len_le : ∀ (m V : Nat), V < 10 ^ m → (decD V).length ≤ m := by
  intro m
  induction m with
  | zero => intro V h; have : V = 0 := by simpa using h
            subst this; rw [decD_zero]; exact Nat.le_refl _
  | succ m ih =>
    intro V h
    by_cases h0 : V = 0
    · subst h0; rw [decD_zero]; simp
    · rw [decD_pos h0, List.length_append]
      have := ih (V / 10) (by rw [Nat.div_lt_iff_lt_mul (by omega)]; rw [Nat.pow_succ] at h; exact h)
      simp; omega
def decT (V : Nat) : List UInt8 := if V = 0 then [48] else (decB V).map UInt8.ofNat
theorem decStr_eq (V : Nat) : decStr V = ⟨⟨decT V⟩⟩ := rfl
theorem decT_len {l : List Nat} (h : Dig l) : (decT (val l)).length ≤ 10 * l.length + 1 := by
  unfold decT
  split
  · simp
  · rw [List.length_map, decD_len]
    have := decD_len_le (10 * l.length) (val l) (Nat.lt_of_lt_of_le (val_lt h) (by rw [Nat.pow_mul]; exact Nat.pow_le_pow_left (by decide) _))
    omega
def ratT (q : Rat) : List UInt8 := (if q.num < 0 then [45] else []) ++ (decT q.num.natAbs ++ (if q.den = 1 then [] else 47 :: decT q.den))
section
variable {X : CtxF} {ops r : List Oper} {t : TF} {h : HF} {n : Nat} {w : List Nat} {Q : SV → Prop} {o : Oper} {d : Tmp}
theorem st_cat {ty ty' : TypeId} {x y : Operand} {a b : List UInt8} (hw : wantsF ops t o = true) (hd : o.dst = some d) (hn : dstOk X.nt (some d) = true) (ho : o.op = .binOp .add ty x y ty') (hx : evF t x = .string ⟨⟨a⟩⟩) (hy : evF t y = .string ⟨⟨b⟩⟩) (hl : a.length + b.length ≤ 1099511627776)
    (k : EO X ops r ⟨upd t d (.string ⟨⟨a ++ b⟩⟩), h, n, w⟩ Q) : EO X ops (o :: r) ⟨t, h, n, w⟩ Q := by
  refine st_val hw hd hn (by rw [ho]; rfl) ?_ k
  rw [ho]
  show binE X.E .add ty (evF t x) (evF t y) = _
  rw [hx, hy]
  simp only [binE, strE, if_pos hl]
end
theorem IntR.of_den {h : HF} {n : Nat} {n1 n2 d1 d2 : Value} {q : Rat} {ln ld : List Nat} (hq : RatR h n n1 n2 d1 d2 q ln ld) (hd : q.den ≠ 1) : IntR h n d1 d2 (q.den : Int) ld := by
  have hv := hq.val
  rw [if_neg hd] at hv
  exact ⟨by rw [hq.neg]; simp, hq.sl, hq.norm, by rw [hv]; simp⟩
set_option maxHeartbeats 1000000
theorem text_ok (k : Nat) {h : HF} {n : Nat} {n1 n2 d1 d2 : Value} {q : Rat} {ln ld : List Nat} (hq : RatR h n n1 n2 d1 d2 q ln ld) (hb : ln.length < 1000000 ∧ ld.length < 1000000) : VF (cal (k + 4)) 31 [.agg #[n1, n2, d1, d2]] h n fun v => v = .string ⟨⟨ratT q⟩⟩ := by
  refine CF_flat (fn := Tryz.f31) rfl rfl rfl rfl ?_
  have hnum := hq.num
  have hneg := hnum.neg
  subst hneg
  obtain ⟨aD, lenD, capD, rfl, hlenD⟩ := hq.sl.len
  have hlD : lenD = ld.length := by rw [u32s_len] at hlenD; omega
  subst hlD
  have hln := decT_len hnum.norm.1
  rw [hnum.val] at hln
  simp only [EC_seq, EC_region, EC_block, EC_scope, EC_skip, EC_exit, EC_ret, EC_label, EO_nil, ED_nil, after_normal, after_exit, after_ret, leave_normal, leave_exit, leave_ret, goesOn_exit, goesOn_ret, cut_exit, cut_ret, cutx_exit, cutx_ret, reduceIte, Nat.reduceEqDiff, reduceCtorEq, Nat.one_ne_zero, Nat.zero_ne_one]
  refine st_mkp (cs := [.bool (decide (q.num < 0)), n2, d1, .slice aD ld.length capD]) rfl rfl rfl rfl rfl ?_
  repeat (first | refine st_gtT rfl rfl rfl rfl rfl rfl (by omega) ?_ | refine st_gtF rfl rfl rfl rfl rfl rfl (by omega) ?_ | refine st_I rfl rfl rfl rfl rfl ?_ | refine st_P rfl rfl rfl rfl rfl ?_ | refine st_T rfl rfl rfl rfl rfl ?_)
  simp only [EC_seq, EC_region, EC_block, EC_scope, EC_skip, EC_exit, EC_ret, EC_label, EO_nil, ED_nil, after_normal, after_exit, after_ret, leave_normal, leave_exit, leave_ret, goesOn_exit, goesOn_ret, cut_exit, cut_ret, cutx_exit, cutx_ret, reduceIte, Nat.reduceEqDiff, reduceCtorEq, Nat.one_ne_zero, Nat.zero_ne_one]
  repeat (first | refine st_gtT rfl rfl rfl rfl rfl rfl (by omega) ?_ | refine st_gtF rfl rfl rfl rfl rfl rfl (by omega) ?_ | refine st_I rfl rfl rfl rfl rfl ?_ | refine st_P rfl rfl rfl rfl rfl ?_ | refine st_T rfl rfl rfl rfl rfl ?_)
  refine st_load (v := .agg #[.bool (decide (q.num < 0)), n2]) rfl rfl rfl rfl rfl (loadn_eq rfl rfl (upd_same _ _ _) rfl (Nat.le_of_ble_eq_true rfl) rfl) ?_
  refine st_vf _ rfl rfl rfl rfl rfl (digits_ok k (hnum.ext (Ext.upd (by omega)) (by omega)) hb.1) ?_
  rintro _ rfl
  rw [decStr_eq]
  repeat (first | refine st_gtT rfl rfl rfl rfl rfl rfl (by omega) ?_ | refine st_gtF rfl rfl rfl rfl rfl rfl (by omega) ?_ | refine st_I rfl rfl rfl rfl rfl ?_ | refine st_P rfl rfl rfl rfl rfl ?_ | refine st_T rfl rfl rfl rfl rfl ?_)
  simp only [EC_seq, EC_region, EC_block, EC_scope, EC_skip, EC_exit, EC_ret, EC_label, EO_nil, ED_nil, after_normal, after_exit, after_ret, leave_normal, leave_exit, leave_ret, goesOn_exit, goesOn_ret, cut_exit, cut_ret, cutx_exit, cutx_ret, reduceIte, Nat.reduceEqDiff, reduceCtorEq, Nat.one_ne_zero, Nat.zero_ne_one]
  repeat (first | refine st_gtT rfl rfl rfl rfl rfl rfl (by omega) ?_ | refine st_gtF rfl rfl rfl rfl rfl rfl (by omega) ?_ | refine st_I rfl rfl rfl rfl rfl ?_ | refine st_P rfl rfl rfl rfl rfl ?_ | refine st_T rfl rfl rfl rfl rfl ?_)
  refine st_load1 rfl rfl rfl rfl rfl rfl (upd_same _ _ _) rfl (v := .bool (decide (q.num < 0))) rfl ?_
  simp only [EC_seq, EC_region, EC_block, EC_scope, EC_skip, EC_exit, EC_ret, EC_label, EO_nil, ED_nil, after_normal, after_exit, after_ret, leave_normal, leave_exit, leave_ret, goesOn_exit, goesOn_ret, cut_exit, cut_ret, cutx_exit, cutx_ret, reduceIte, Nat.reduceEqDiff, reduceCtorEq, Nat.one_ne_zero, Nat.zero_ne_one]
  generalize hh : upd h (3 * n + 2) _ = h1
  have hext : Ext n h h1 := by rw [← hh]; exact Ext.upd (by omega)
  have hbox : ∃ e, h1 (3 * n + 2) = some (.row [.bool (decide (q.num < 0)), n2, d1, .slice aD ld.length capD] e) := ⟨_, by rw [← hh, upd_same]⟩
  refine EC_cut [(1, .pointer (some ⟨3 * n + 2, 0, none⟩)), (3, .string ⟨⟨(if q.num < 0 then [45] else []) ++ decT q.num.natAbs⟩⟩)] (fun h' n' w => h1 = h' ∧ n' = n + 1 ∧ w = []) ?_ ?_
  · by_cases hn : q.num < 0
    · rw [EC_cond_true (by show Value.bool (decide (q.num < 0)) = _; rw [decide_eq_true hn])]
      simp only [EC_seq, EC_region, EC_block, EC_scope, EC_skip, EC_exit, EC_ret, EC_label, EO_nil, ED_nil, after_normal, after_exit, after_ret, leave_normal, leave_exit, leave_ret, goesOn_exit, goesOn_ret, cut_exit, cut_ret, cutx_exit, cutx_ret, reduceIte, Nat.reduceEqDiff, reduceCtorEq, Nat.one_ne_zero, Nat.zero_ne_one]
      repeat (first | refine st_gtT rfl rfl rfl rfl rfl rfl (by omega) ?_ | refine st_gtF rfl rfl rfl rfl rfl rfl (by omega) ?_ | refine st_I rfl rfl rfl rfl rfl ?_ | refine st_P rfl rfl rfl rfl rfl ?_ | refine st_T rfl rfl rfl rfl rfl ?_)
      refine st_cat (a := [45]) rfl rfl rfl rfl rfl rfl (by simp; omega) ?_
      repeat (first | refine st_gtT rfl rfl rfl rfl rfl rfl (by omega) ?_ | refine st_gtF rfl rfl rfl rfl rfl rfl (by omega) ?_ | refine st_I rfl rfl rfl rfl rfl ?_ | refine st_P rfl rfl rfl rfl rfl ?_ | refine st_T rfl rfl rfl rfl rfl ?_)
      simp only [EC_seq, EC_region, EC_block, EC_scope, EC_skip, EC_exit, EC_ret, EC_label, EO_nil, ED_nil, after_normal, after_exit, after_ret, leave_normal, leave_exit, leave_ret, goesOn_exit, goesOn_ret, cut_exit, cut_ret, cutx_exit, cutx_ret, reduceIte, Nat.reduceEqDiff, reduceCtorEq, Nat.one_ne_zero, Nat.zero_ne_one]
      exact cut_mk ⟨rfl, by rw [if_pos hn]; rfl, trivial⟩ ⟨rfl, rfl, rfl⟩
    · rw [EC_cond_false (by show Value.bool (decide (q.num < 0)) = _; rw [decide_eq_false hn])]
      simp only [EC_seq, EC_region, EC_block, EC_scope, EC_skip, EC_exit, EC_ret, EC_label, EO_nil, ED_nil, after_normal, after_exit, after_ret, leave_normal, leave_exit, leave_ret, goesOn_exit, goesOn_ret, cut_exit, cut_ret, cutx_exit, cutx_ret, reduceIte, Nat.reduceEqDiff, reduceCtorEq, Nat.one_ne_zero, Nat.zero_ne_one]
      exact cut_mk ⟨rfl, by rw [if_neg hn]; rfl, trivial⟩ ⟨rfl, rfl, rfl⟩
  · rintro t _ _ _ ⟨rfl, rfl, rfl⟩
    obtain ⟨e, hbox⟩ := hbox
    simp only [EC_seq, EC_region, EC_block, EC_scope, EC_skip, EC_exit, EC_ret, EC_label, EO_nil, ED_nil, after_normal, after_exit, after_ret, leave_normal, leave_exit, leave_ret, goesOn_exit, goesOn_ret, cut_exit, cut_ret, cutx_exit, cutx_ret, reduceIte, Nat.reduceEqDiff, reduceCtorEq, Nat.one_ne_zero, Nat.zero_ne_one]
    repeat (first | refine st_gtT rfl rfl rfl rfl rfl rfl (by omega) ?_ | refine st_gtF rfl rfl rfl rfl rfl rfl (by omega) ?_ | refine st_I rfl rfl rfl rfl rfl ?_ | refine st_P rfl rfl rfl rfl rfl ?_ | refine st_T rfl rfl rfl rfl rfl ?_)
    refine st_load1 rfl rfl rfl rfl rfl rfl hbox rfl (v := .slice aD ld.length capD) rfl ?_
    have hld0 : ld.length = 0 ↔ q.den = 1 := by
      rw [List.length_eq_zero_iff, ← hq.norm.zero, hq.val]
      have := q.den_pos
      split <;> omega
    by_cases hd : q.den = 1
    · have := hld0.2 hd
      repeat (first | refine st_gtT rfl rfl rfl rfl rfl rfl (by omega) ?_ | refine st_gtF rfl rfl rfl rfl rfl rfl (by omega) ?_ | refine st_I rfl rfl rfl rfl rfl ?_ | refine st_P rfl rfl rfl rfl rfl ?_ | refine st_T rfl rfl rfl rfl rfl ?_)
      simp only [EC_seq, EC_region, EC_block, EC_scope, EC_skip, EC_exit, EC_ret, EC_label, EO_nil, ED_nil, after_normal, after_exit, after_ret, leave_normal, leave_exit, leave_ret, goesOn_exit, goesOn_ret, cut_exit, cut_ret, cutx_exit, cutx_ret, reduceIte, Nat.reduceEqDiff, reduceCtorEq, Nat.one_ne_zero, Nat.zero_ne_one]
      rw [EC_cond_false rfl]
      simp only [EC_seq, EC_region, EC_block, EC_scope, EC_skip, EC_exit, EC_ret, EC_label, EO_nil, ED_nil, after_normal, after_exit, after_ret, leave_normal, leave_exit, leave_ret, goesOn_exit, goesOn_ret, cut_exit, cut_ret, cutx_exit, cutx_ret, reduceIte, Nat.reduceEqDiff, reduceCtorEq, Nat.one_ne_zero, Nat.zero_ne_one]
      repeat (first | refine st_gtT rfl rfl rfl rfl rfl rfl (by omega) ?_ | refine st_gtF rfl rfl rfl rfl rfl rfl (by omega) ?_ | refine st_I rfl rfl rfl rfl rfl ?_ | refine st_P rfl rfl rfl rfl rfl ?_ | refine st_T rfl rfl rfl rfl rfl ?_)
      simp only [EC_seq, EC_region, EC_block, EC_scope, EC_skip, EC_exit, EC_ret, EC_label, EO_nil, ED_nil, after_normal, after_exit, after_ret, leave_normal, leave_exit, leave_ret, goesOn_exit, goesOn_ret, cut_exit, cut_ret, cutx_exit, cutx_ret, reduceIte, Nat.reduceEqDiff, reduceCtorEq, Nat.one_ne_zero, Nat.zero_ne_one]
      exact retF _ rfl (resF_tmp rfl) rfl rfl (by rw [ratT, if_pos hd, List.append_nil]; rfl)
    · have hld1 : ¬ ld.length = 0 := fun e => hd (hld0.1 e)
      have hden := IntR.of_den hq hd
      have hlD := decT_len hden.norm.1
      rw [hden.val, Int.natAbs_natCast] at hlD
      repeat (first | refine st_gtT rfl rfl rfl rfl rfl rfl (by omega) ?_ | refine st_gtF rfl rfl rfl rfl rfl rfl (by omega) ?_ | refine st_I rfl rfl rfl rfl rfl ?_ | refine st_P rfl rfl rfl rfl rfl ?_ | refine st_T rfl rfl rfl rfl rfl ?_)
      simp only [EC_seq, EC_region, EC_block, EC_scope, EC_skip, EC_exit, EC_ret, EC_label, EO_nil, ED_nil, after_normal, after_exit, after_ret, leave_normal, leave_exit, leave_ret, goesOn_exit, goesOn_ret, cut_exit, cut_ret, cutx_exit, cutx_ret, reduceIte, Nat.reduceEqDiff, reduceCtorEq, Nat.one_ne_zero, Nat.zero_ne_one]
      rw [EC_cond_true rfl]
      simp only [EC_seq, EC_region, EC_block, EC_scope, EC_skip, EC_exit, EC_ret, EC_label, EO_nil, ED_nil, after_normal, after_exit, after_ret, leave_normal, leave_exit, leave_ret, goesOn_exit, goesOn_ret, cut_exit, cut_ret, cutx_exit, cutx_ret, reduceIte, Nat.reduceEqDiff, reduceCtorEq, Nat.one_ne_zero, Nat.zero_ne_one]
      repeat (first | refine st_gtT rfl rfl rfl rfl rfl rfl (by omega) ?_ | refine st_gtF rfl rfl rfl rfl rfl rfl (by omega) ?_ | refine st_I rfl rfl rfl rfl rfl ?_ | refine st_P rfl rfl rfl rfl rfl ?_ | refine st_T rfl rfl rfl rfl rfl ?_)
      refine st_load (v := .agg #[d1, .slice aD ld.length capD]) rfl rfl rfl rfl rfl (loadn_eq rfl rfl hbox rfl (Nat.le_of_ble_eq_true rfl) rfl) ?_
      refine st_vf _ rfl rfl rfl rfl rfl (digits_ok k (hden.ext hext (by omega)) hb.2) ?_
      rintro _ rfl
      rw [decStr_eq, Int.natAbs_natCast]
      refine st_cat (a := [47]) rfl rfl rfl rfl rfl rfl (by simp; omega) ?_
      refine st_cat rfl rfl rfl rfl rfl rfl ?_ ?_
      · simp only [List.length_append, List.length_cons, List.length_nil]
        split <;> simp <;> omega
      repeat (first | refine st_gtT rfl rfl rfl rfl rfl rfl (by omega) ?_ | refine st_gtF rfl rfl rfl rfl rfl rfl (by omega) ?_ | refine st_I rfl rfl rfl rfl rfl ?_ | refine st_P rfl rfl rfl rfl rfl ?_ | refine st_T rfl rfl rfl rfl rfl ?_)
      simp only [EC_seq, EC_region, EC_block, EC_scope, EC_skip, EC_exit, EC_ret, EC_label, EO_nil, ED_nil, after_normal, after_exit, after_ret, leave_normal, leave_exit, leave_ret, goesOn_exit, goesOn_ret, cut_exit, cut_ret, cutx_exit, cutx_ret, reduceIte, Nat.reduceEqDiff, reduceCtorEq, Nat.one_ne_zero, Nat.zero_ne_one]
      repeat (first | refine st_gtT rfl rfl rfl rfl rfl rfl (by omega) ?_ | refine st_gtF rfl rfl rfl rfl rfl rfl (by omega) ?_ | refine st_I rfl rfl rfl rfl rfl ?_ | refine st_P rfl rfl rfl rfl rfl ?_ | refine st_T rfl rfl rfl rfl rfl ?_)
      simp only [EC_seq, EC_region, EC_block, EC_scope, EC_skip, EC_exit, EC_ret, EC_label, EO_nil, ED_nil, after_normal, after_exit, after_ret, leave_normal, leave_exit, leave_ret, goesOn_exit, goesOn_ret, cut_exit, cut_ret, cutx_exit, cutx_ret, reduceIte, Nat.reduceEqDiff, reduceCtorEq, Nat.one_ne_zero, Nat.zero_ne_one]
      exact retF _ rfl (resF_tmp rfl) rfl rfl (by rw [ratT, if_neg hd]; show Value.string ⟨⟨((if q.num < 0 then [45] else []) ++ decT q.num.natAbs) ++ ([47] ++ decT q.den)⟩⟩ = _; rw [List.append_assoc]; rfl)
end Go.Proofs.YtokfihhdllmbmaaGreatDoor
namespace Go.Proofs.YtokfihhdllmbmaaGreatDoor
open Go Go.GL
/-! Package sosoptscene: the tape. -/
def i64s (l : List Int) : List Value := l.map (Value.int .i64)
/-- A tape: its block, its list, a bound below which both lie. -/
structure TapeI where
  m : Nat
  bt : Nat
  a : Option Addr
  len : Nat
  cap : Nat
  L : List Int
structure Tp (h : HF) (T : TapeI) : Prop where
  bt : T.bt < 3 * T.m
  len : T.L.length = T.len
  le : T.len ≤ 400
  ne : ∀ x, T.a = some x → x.block ≠ T.bt
  sl : Sl h T.m 1 (.slice T.a T.len T.cap) (i64s T.L)
  row : ∃ (pos : Nat) (e : TypeId), h T.bt = some (.row [.slice T.a T.len T.cap, .int .i64 (pos : Int)] e) ∧ pos ≤ T.len
/-- Old blocks other than bt stay. -/
def ExtT (n bt : Nat) (h h' : HF) : Prop := ∀ b, b < 3 * n → b ≠ bt → h' b = h b
theorem ExtT.refl (n bt : Nat) (h : HF) : ExtT n bt h h := fun _ _ _ => rfl
theorem ExtT.trans {n n' bt : Nat} {a b c : HF} (h : ExtT n bt a b) (h' : ExtT n' bt b c) (hn : n ≤ n') : ExtT n bt a c := fun k hk hb => (h' k (by omega) hb).trans (h k hk hb)
theorem Ext.t {n bt : Nat} {h h' : HF} (e : Ext n h h') : ExtT n bt h h' := fun k hk _ => e k hk
theorem ExtT.mono {n n' bt : Nat} {h h' : HF} (e : ExtT n' bt h h') (hn : n ≤ n') : ExtT n bt h h' := fun k hk hb => e k (by omega) hb
theorem Tp.ext {h h' : HF} {T : TapeI} {n : Nat} (t : Tp h T) (e : Ext n h h') (hn : T.m ≤ n) : Tp h' T := by
  obtain ⟨pos, ty, h1, h2⟩ := t.row
  exact ⟨t.bt, t.len, t.le, t.ne, t.sl.ext (e.mono hn) (Nat.le_refl _), pos, ty, by rw [e _ (by have := t.bt; omega)]; exact h1, h2⟩
theorem Tp.upd {h : HF} {T : TapeI} {b : Nat} {x : Option BF} (t : Tp h T) (hb : 3 * T.m ≤ b) : Tp (GL.upd h b x) T := t.ext (n := T.m) (Ext.upd hb) (Nat.le_refl _)
theorem tmod_range (v m : Int) (hm : 0 < m) : 0 ≤ (v.tmod m + m).tmod m ∧ (v.tmod m + m).tmod m < m ∧ -m < v.tmod m ∧ v.tmod m < m := by
  have h1 := Int.lt_tmod_of_pos v hm
  have h2 := Int.tmod_lt_of_pos v hm
  have h3 := Int.tmod_nonneg m (show 0 ≤ v.tmod m + m by omega)
  have h4 := Int.tmod_lt_of_pos (v.tmod m + m) hm
  exact ⟨h3, h4, h1, h2⟩
set_option maxHeartbeats 1000000
theorem next_ok (k : Nat) {h : HF} {n : Nat} {T : TapeI} {m : Int} (hm : 0 < m ∧ m < 1000000000) (ht : Tp h T) (hn : T.m ≤ n) : CF (cal (k + 1)) 20 [.pointer (some ⟨T.bt, 0, none⟩), .int .i64 m] h n fun v h' n' w => (∀ b ∈ w, b = T.bt) ∧ n' = n ∧ Tp h' T ∧ (∀ b, b ≠ T.bt → h' b = h b) ∧ ∃ r, v = .int .i64 r ∧ 0 ≤ r ∧ r < m := by
  obtain ⟨M, bt, a, len, cap, L⟩ := T
  obtain ⟨hbt, hL, hlen, hne, hsl, pos, e, hrow, hpos⟩ := ht
  simp only at hbt hL hlen hne hsl hrow hpos hn ⊢
  refine CF_intro (fn := Tryz.f20) rfl rfl rfl rfl ?_
  simp only [EC_seq, EC_region, EC_block, EC_scope, EC_skip, EC_exit, EC_ret, EC_label, EO_nil, ED_nil, after_normal, after_exit, after_ret, leave_normal, leave_exit, leave_ret, goesOn_exit, goesOn_ret, cut_exit, cut_ret, cutx_exit, cutx_ret, reduceIte, Nat.reduceEqDiff, reduceCtorEq, Nat.one_ne_zero, Nat.zero_ne_one]
  repeat (first | refine st_geT rfl rfl rfl rfl rfl rfl (by omega) ?_ | refine st_geF rfl rfl rfl rfl rfl rfl (by omega) ?_ | refine st_add rfl rfl rfl rfl rfl rfl (by omega) ?_ | refine st_I rfl rfl rfl rfl rfl ?_ | refine st_P rfl rfl rfl rfl rfl ?_)
  simp only [EC_seq, EC_region, EC_block, EC_scope, EC_skip, EC_exit, EC_ret, EC_label, EO_nil, ED_nil, after_normal, after_exit, after_ret, leave_normal, leave_exit, leave_ret, goesOn_exit, goesOn_ret, cut_exit, cut_ret, cutx_exit, cutx_ret, reduceIte, Nat.reduceEqDiff, reduceCtorEq, Nat.one_ne_zero, Nat.zero_ne_one]
  rw [EC_quiet rfl]
  repeat (first | refine st_geT rfl rfl rfl rfl rfl rfl (by omega) ?_ | refine st_geF rfl rfl rfl rfl rfl rfl (by omega) ?_ | refine st_add rfl rfl rfl rfl rfl rfl (by omega) ?_ | refine st_I rfl rfl rfl rfl rfl ?_ | refine st_P rfl rfl rfl rfl rfl ?_)
  refine st_load1 rfl rfl rfl rfl rfl rfl hrow rfl (v := .int .i64 (pos : Int)) rfl ?_
  repeat (first | refine st_geT rfl rfl rfl rfl rfl rfl (by omega) ?_ | refine st_geF rfl rfl rfl rfl rfl rfl (by omega) ?_ | refine st_add rfl rfl rfl rfl rfl rfl (by omega) ?_ | refine st_I rfl rfl rfl rfl rfl ?_ | refine st_P rfl rfl rfl rfl rfl ?_)
  refine st_load1 rfl rfl rfl rfl rfl rfl hrow rfl (v := .slice a len cap) rfl ?_
  (first | refine st_I rfl rfl rfl rfl rfl ?_ | refine st_P rfl rfl rfl rfl rfl ?_)
  by_cases hp : pos = len
  · repeat (first | refine st_geT rfl rfl rfl rfl rfl rfl (by omega) ?_ | refine st_geF rfl rfl rfl rfl rfl rfl (by omega) ?_ | refine st_add rfl rfl rfl rfl rfl rfl (by omega) ?_ | refine st_I rfl rfl rfl rfl rfl ?_ | refine st_P rfl rfl rfl rfl rfl ?_)
    simp only [EC_seq, EC_region, EC_block, EC_scope, EC_skip, EC_exit, EC_ret, EC_label, EO_nil, ED_nil, after_normal, after_exit, after_ret, leave_normal, leave_exit, leave_ret, goesOn_exit, goesOn_ret, cut_exit, cut_ret, cutx_exit, cutx_ret, reduceIte, Nat.reduceEqDiff, reduceCtorEq, Nat.one_ne_zero, Nat.zero_ne_one]
    rw [EC_cond_true rfl]
    simp only [EC_seq, EC_region, EC_block, EC_scope, EC_skip, EC_exit, EC_ret, EC_label, EO_nil, ED_nil, after_normal, after_exit, after_ret, leave_normal, leave_exit, leave_ret, goesOn_exit, goesOn_ret, cut_exit, cut_ret, cutx_exit, cutx_ret, reduceIte, Nat.reduceEqDiff, reduceCtorEq, Nat.one_ne_zero, Nat.zero_ne_one]
    repeat (first | refine st_geT rfl rfl rfl rfl rfl rfl (by omega) ?_ | refine st_geF rfl rfl rfl rfl rfl rfl (by omega) ?_ | refine st_add rfl rfl rfl rfl rfl rfl (by omega) ?_ | refine st_I rfl rfl rfl rfl rfl ?_ | refine st_P rfl rfl rfl rfl rfl ?_)
    simp only [EC_seq, EC_region, EC_block, EC_scope, EC_skip, EC_exit, EC_ret, EC_label, EO_nil, ED_nil, after_normal, after_exit, after_ret, leave_normal, leave_exit, leave_ret, goesOn_exit, goesOn_ret, cut_exit, cut_ret, cutx_exit, cutx_ret, reduceIte, Nat.reduceEqDiff, reduceCtorEq, Nat.one_ne_zero, Nat.zero_ne_one]
    exact ⟨rfl, _, resF_tmp rfl, fun b hb => absurd hb List.not_mem_nil, rfl, ⟨hbt, hL, hlen, hne, hsl, pos, e, hrow, hpos⟩, fun _ _ => rfl, 0, rfl, Int.le_refl _, hm.1⟩
  · obtain ⟨b, off, x, cs, rfl, hb3, hx, hc, hcap, hle, he⟩ := hsl.inv (by omega)
    obtain ⟨v, hv⟩ : ∃ v, L[pos]? = some v := ⟨L[pos]'(by omega), List.getElem?_eq_getElem (by omega)⟩
    have hcell : cs[off + pos]? = some (.int .i64 v) := cell_at he (by rw [i64s, List.getElem?_map, hv]; rfl)
    have hbne : b ≠ bt := hne _ rfl
    repeat (first | refine st_geT rfl rfl rfl rfl rfl rfl (by omega) ?_ | refine st_geF rfl rfl rfl rfl rfl rfl (by omega) ?_ | refine st_add rfl rfl rfl rfl rfl rfl (by omega) ?_ | refine st_I rfl rfl rfl rfl rfl ?_ | refine st_P rfl rfl rfl rfl rfl ?_)
    simp only [EC_seq, EC_region, EC_block, EC_scope, EC_skip, EC_exit, EC_ret, EC_label, EO_nil, ED_nil, after_normal, after_exit, after_ret, leave_normal, leave_exit, leave_ret, goesOn_exit, goesOn_ret, cut_exit, cut_ret, cutx_exit, cutx_ret, reduceIte, Nat.reduceEqDiff, reduceCtorEq, Nat.one_ne_zero, Nat.zero_ne_one]
    rw [EC_cond_false rfl]
    simp only [EC_seq, EC_region, EC_block, EC_scope, EC_skip, EC_exit, EC_ret, EC_label, EO_nil, ED_nil, after_normal, after_exit, after_ret, leave_normal, leave_exit, leave_ret, goesOn_exit, goesOn_ret, cut_exit, cut_ret, cutx_exit, cutx_ret, reduceIte, Nat.reduceEqDiff, reduceCtorEq, Nat.one_ne_zero, Nat.zero_ne_one]
    rw [EC_quiet rfl]
    repeat (first | refine st_geT rfl rfl rfl rfl rfl rfl (by omega) ?_ | refine st_geF rfl rfl rfl rfl rfl rfl (by omega) ?_ | refine st_add rfl rfl rfl rfl rfl rfl (by omega) ?_ | refine st_I rfl rfl rfl rfl rfl ?_ | refine st_P rfl rfl rfl rfl rfl ?_)
    refine st_load1 rfl rfl rfl rfl rfl rfl hrow rfl (v := .slice (some ⟨b, off, none⟩) len cap) rfl ?_
    repeat (first | refine st_geT rfl rfl rfl rfl rfl rfl (by omega) ?_ | refine st_geF rfl rfl rfl rfl rfl rfl (by omega) ?_ | refine st_add rfl rfl rfl rfl rfl rfl (by omega) ?_ | refine st_I rfl rfl rfl rfl rfl ?_ | refine st_P rfl rfl rfl rfl rfl ?_)
    refine st_load1 rfl rfl rfl rfl rfl rfl hrow rfl (v := .int .i64 (pos : Int)) rfl ?_
    refine st_idx rfl rfl rfl rfl rfl rfl rfl rfl (by omega) ?_
    refine st_load1 rfl rfl rfl rfl rfl rfl hx hc (v := .int .i64 v) (by rw [← hcell]; congr 1; omega) ?_
    repeat (first | refine st_geT rfl rfl rfl rfl rfl rfl (by omega) ?_ | refine st_geF rfl rfl rfl rfl rfl rfl (by omega) ?_ | refine st_add rfl rfl rfl rfl rfl rfl (by omega) ?_ | refine st_I rfl rfl rfl rfl rfl ?_ | refine st_P rfl rfl rfl rfl rfl ?_)
    simp only [EC_seq, EC_region, EC_block, EC_scope, EC_skip, EC_exit, EC_ret, EC_label, EO_nil, ED_nil, after_normal, after_exit, after_ret, leave_normal, leave_exit, leave_ret, goesOn_exit, goesOn_ret, cut_exit, cut_ret, cutx_exit, cutx_ret, reduceIte, Nat.reduceEqDiff, reduceCtorEq, Nat.one_ne_zero, Nat.zero_ne_one]
    repeat (first | refine st_geT rfl rfl rfl rfl rfl rfl (by omega) ?_ | refine st_geF rfl rfl rfl rfl rfl rfl (by omega) ?_ | refine st_add rfl rfl rfl rfl rfl rfl (by omega) ?_ | refine st_I rfl rfl rfl rfl rfl ?_ | refine st_P rfl rfl rfl rfl rfl ?_)
    refine st_load1 rfl rfl rfl rfl rfl rfl hrow rfl (v := .int .i64 (pos : Int)) rfl ?_
    repeat (first | refine st_geT rfl rfl rfl rfl rfl rfl (by omega) ?_ | refine st_geF rfl rfl rfl rfl rfl rfl (by omega) ?_ | refine st_add rfl rfl rfl rfl rfl rfl (by omega) ?_ | refine st_I rfl rfl rfl rfl rfl ?_ | refine st_P rfl rfl rfl rfl rfl ?_)
    refine st_storeO (cs := [.int .i64 ((pos : Int) + 1)]) rfl rfl rfl rfl rfl rfl rfl rfl hrow (Nat.le_of_ble_eq_true rfl) (by show bt < 3 * n; omega) ?_
    simp only [EC_seq, EC_region, EC_block, EC_scope, EC_skip, EC_exit, EC_ret, EC_label, EO_nil, ED_nil, after_normal, after_exit, after_ret, leave_normal, leave_exit, leave_ret, goesOn_exit, goesOn_ret, cut_exit, cut_ret, cutx_exit, cutx_ret, reduceIte, Nat.reduceEqDiff, reduceCtorEq, Nat.one_ne_zero, Nat.zero_ne_one]
    obtain ⟨r1, r2, r3, r4⟩ := tmod_range v m hm.1
    repeat (first | refine st_geT rfl rfl rfl rfl rfl rfl (by omega) ?_ | refine st_geF rfl rfl rfl rfl rfl rfl (by omega) ?_ | refine st_add rfl rfl rfl rfl rfl rfl (by omega) ?_ | refine st_I rfl rfl rfl rfl rfl ?_ | refine st_P rfl rfl rfl rfl rfl ?_)
    refine st_rem rfl rfl rfl rfl rfl rfl (by omega) ?_
    repeat (first | refine st_geT rfl rfl rfl rfl rfl rfl (by omega) ?_ | refine st_geF rfl rfl rfl rfl rfl rfl (by omega) ?_ | refine st_add rfl rfl rfl rfl rfl rfl (by omega) ?_ | refine st_I rfl rfl rfl rfl rfl ?_ | refine st_P rfl rfl rfl rfl rfl ?_)
    refine st_rem rfl rfl rfl rfl rfl rfl (by omega) ?_
    repeat (first | refine st_geT rfl rfl rfl rfl rfl rfl (by omega) ?_ | refine st_geF rfl rfl rfl rfl rfl rfl (by omega) ?_ | refine st_add rfl rfl rfl rfl rfl rfl (by omega) ?_ | refine st_I rfl rfl rfl rfl rfl ?_ | refine st_P rfl rfl rfl rfl rfl ?_)
    simp only [EC_seq, EC_region, EC_block, EC_scope, EC_skip, EC_exit, EC_ret, EC_label, EO_nil, ED_nil, after_normal, after_exit, after_ret, leave_normal, leave_exit, leave_ret, goesOn_exit, goesOn_ret, cut_exit, cut_ret, cutx_exit, cutx_ret, reduceIte, Nat.reduceEqDiff, reduceCtorEq, Nat.one_ne_zero, Nat.zero_ne_one]
    refine ⟨rfl, _, resF_tmp rfl, fun b hb => ?_, rfl, ⟨hbt, hL, hlen, hne, hsl.keep (fun a l c e => ?_) (Nat.le_refl _), pos + 1, e, upd_same _ _ _, by show pos + 1 ≤ len; omega⟩, fun b hb => upd_ne hb, _, rfl, r1, r2⟩
    · exact List.mem_singleton.1 hb
    · injection e with e1
      injection e1 with e1
      subst e1
      exact upd_ne hbne
theorem RatR.old {h : HF} {n m b : Nat} {n1 n2 d1 d2 : Value} {q : Rat} {ln ld : List Nat} {y : Option BF} (r : RatR h n n1 n2 d1 d2 q ln ld) (hf : Fresh m n2) (hf2 : Fresh m d2) (hb : b < 3 * m) : RatR (upd h b y) n n1 n2 d1 d2 q ln ld := ⟨r.num.old hf hb, r.neg, r.sl.old hf2 hb, r.norm, r.val⟩
theorem addW_bt {n0 bt : Nat} : ∀ {W w : List Nat}, (∀ b ∈ W, b = bt) → (∀ b ∈ w, b = bt) → ∀ b ∈ addW n0 W w, b = bt := by
  intro W w h1 h2 b hb
  rcases mem_addW.1 hb with h | ⟨h, _⟩
  · exact h2 b h
  · exact h1 b h
theorem whole_ok (k : Nat) {h : HF} {n : Nat} {T : TapeI} {K : Int} (hK : 0 ≤ K ∧ K < 1000000) (ht : Tp h T) (hn : T.m ≤ n) : CF (cal (k + 4)) 68 [.pointer (some ⟨T.bt, 0, none⟩), .int .i64 K] h n fun v h' n' w => (∀ b ∈ w, b = T.bt) ∧ n ≤ n' ∧ Tp h' T ∧ ExtT n T.bt h h' ∧ ∃ n1 n2 ln x, v = .agg #[n1, n2, .bool false, .slice none 0 0] ∧ RatR h' n' n1 n2 (.bool false) (.slice none 0 0) ((x : Int) : Rat) ln [] ∧ -K ≤ x ∧ x ≤ K ∧ Fresh n n2 ∧ ln.length ≤ 2 := by
  have hbt := ht.bt
  refine CF_heap (fn := Tryz.f68) rfl rfl rfl rfl ?_
  simp only [EC_seq, EC_region, EC_block, EC_scope, EC_skip, EC_exit, EC_ret, EC_label, EO_nil, ED_nil, after_normal, after_exit, after_ret, leave_normal, leave_exit, leave_ret, goesOn_exit, goesOn_ret, cut_exit, cut_ret, cutx_exit, cutx_ret, reduceIte, Nat.reduceEqDiff, reduceCtorEq, Nat.one_ne_zero, Nat.zero_ne_one]
  refine st_alloc rfl rfl rfl rfl rfl ?_
  simp only [EC_seq, EC_region, EC_block, EC_scope, EC_skip, EC_exit, EC_ret, EC_label, EO_nil, ED_nil, after_normal, after_exit, after_ret, leave_normal, leave_exit, leave_ret, goesOn_exit, goesOn_ret, cut_exit, cut_ret, cutx_exit, cutx_ret, reduceIte, Nat.reduceEqDiff, reduceCtorEq, Nat.one_ne_zero, Nat.zero_ne_one]
  (first | refine st_I rfl rfl rfl rfl rfl ?_ | refine st_P rfl rfl rfl rfl rfl ?_)
  (first | refine st_I rfl rfl rfl rfl rfl ?_ | refine st_P rfl rfl rfl rfl rfl ?_)
  refine st_mul rfl rfl rfl rfl rfl rfl (by omega) ?_
  repeat (first | refine st_add rfl rfl rfl rfl rfl rfl (by omega) ?_ | refine st_sub rfl rfl rfl rfl rfl rfl (by omega) ?_ | refine st_I rfl rfl rfl rfl rfl ?_ | refine st_P rfl rfl rfl rfl rfl ?_)
  refine st_call _ rfl rfl rfl rfl rfl (next_ok (k + 2) (by omega) (ht.upd (by omega)) (by omega)) ?_
  rintro _ h1 _ w1 ⟨hw1, rfl, ht1, hx1, r, rfl, hr0, hr1⟩
  repeat (first | refine st_add rfl rfl rfl rfl rfl rfl (by omega) ?_ | refine st_sub rfl rfl rfl rfl rfl rfl (by omega) ?_ | refine st_I rfl rfl rfl rfl rfl ?_ | refine st_P rfl rfl rfl rfl rfl ?_)
  refine st_call _ rfl rfl rfl rfl rfl (r_ok k _ _ (r - K) (by omega)) ?_
  rintro _ h2 n2 _ ⟨rfl, hn2, hx2, n1, n2', ln, rfl, hq, hf, hln⟩
  have hcell : ∃ e, h2 (3 * n + 2) = some (.row [.bool false, .slice none 0 0, .bool false, .slice none 0 0] e) := ⟨_, by rw [hx2 _ (by omega), hx1 _ (by omega), upd_same]; rfl⟩
  obtain ⟨e, hcell⟩ := hcell
  have h1s : ones [n1, n2', .bool false, .slice none 0 0] = true := by
    rw [hq.num.neg]
    show ones (n2' :: _) = true
    rw [hq.num.sl.ones]; rfl
  refine st_storeW [n1, n2', .bool false, .slice none 0 0] rfl rfl rfl rfl rfl rfl rfl h1s hcell rfl (by show 3 * n ≤ _; omega) ?_
  simp only [EC_seq, EC_region, EC_block, EC_scope, EC_skip, EC_exit, EC_ret, EC_label, EO_nil, ED_nil, after_normal, after_exit, after_ret, leave_normal, leave_exit, leave_ret, goesOn_exit, goesOn_ret, cut_exit, cut_ret, cutx_exit, cutx_ret, reduceIte, Nat.reduceEqDiff, reduceCtorEq, Nat.one_ne_zero, Nat.zero_ne_one]
  refine retCell rfl rfl rfl rfl rfl (upd_same _ _ _) rfl ⟨?_, by omega, (ht1.ext hx2 (by omega)).upd (by omega), fun b hb hne => by rw [upd_ne (by omega), hx2 b (by omega), hx1 b hne, upd_ne (by omega)], n1, n2', ln, r - K, rfl, hq.old hf trivial (by omega), by omega, by omega, hf.mono (by omega), hln⟩
  exact addW_bt (W := []) (fun b hb => absurd hb List.not_mem_nil) (addW_bt hw1 (fun b hb => absurd hb List.not_mem_nil))
end Go.Proofs.YtokfihhdllmbmaaGreatDoor
namespace Go.Proofs.YtokfihhdllmbmaaGreatDoor
open Go Go.GL
/-! Package sosoptscene: New, wholes. -/
theorem Gro.extT {h h' : HF} {lo n n' bt : Nat} {e : TypeId} {sz len : Nat} {v : Value} {c : List Value} (g : Gro h lo n e sz v len c) (he : ExtT n bt h h') (hbt : bt < 3 * lo) (hn : n ≤ n') : Gro h' lo n' e sz v len c := by
  cases g with
  | nil => exact .nil
  | at_ hg hlo hb hr hl ho => exact .at_ hg hlo (by omega) (by rw [he _ hb (by omega)]; exact hr) hl ho
theorem Sl.addr {h : HF} {n sz : Nat} {a : Option Addr} {len cap : Nat} {c : List Value} (s : Sl h n sz (.slice a len cap) c) : a = none ∨ ∃ b off, a = some ⟨b, off, none⟩ := by
  cases a with
  | none => exact .inl rfl
  | some x =>
    by_cases h0 : len = 0
    · subst h0
      generalize hv : Value.slice (some x) 0 cap = v at s
      cases s with
      | nil ha =>
        injection hv with e1 e2 e3
        rcases ha with ha | ⟨b, off, ha, _⟩
        · rw [ha] at e1; cases e1
        · rw [ha] at e1; exact .inr ⟨b, off, e1⟩
      | at_ hb hx hc hcap hl he =>
        injection hv with e1 e2 e3
        exact .inr ⟨_, _, e1⟩
    · obtain ⟨b, off, x, cs, e, _⟩ := s.inv h0
      exact .inr ⟨b, off, e⟩
theorem Sl.cap {h : HF} {n sz : Nat} {a : Option Addr} {len cap : Nat} {c : List Value} (s : Sl h n sz (.slice a len cap) c) : len ≤ cap := by
  by_cases h0 : len = 0
  · omega
  · obtain ⟨_, _, _, _, _, _, _, _, h, _⟩ := s.inv h0
    exact h
def strs (l : List (List UInt8)) : List Value := l.map fun s => Value.string ⟨⟨s⟩⟩
theorem strs_append (a b : List (List UInt8)) : strs (a ++ b) = strs a ++ strs b := by simp [strs]
theorem strs_len (a : List (List UInt8)) : (strs a).length = a.length := by simp [strs]
/-- The text of an integer from -K to K. -/
def SmallS (K : Int) (s : List UInt8) : Prop := ∃ x : Int, -K ≤ x ∧ x ≤ K ∧ s = ratT (x : Rat)
set_option maxHeartbeats 1000000
theorem new_ok (k : Nat) {h : HF} {n : Nat} {a : Option Addr} {len cap : Nat} {L : List Int} (hs : Sl h n 1 (.slice a len cap) (i64s L)) : CF (cal (k + 1)) 17 [.slice a len cap] h n fun v h' n' w => w = [] ∧ n' = n + 1 ∧ Ext n h h' ∧ v = .pointer (some ⟨3 * n + 2, 0, none⟩) ∧ Tp h' ⟨n + 1, 3 * n + 2, a, min len 400, cap, L.take 400⟩ := by
  have hL : L.length = len := by
    obtain ⟨a', len', cap', e, hl⟩ := hs.len
    injection e with e1 e2 e3
    simp [i64s] at hl
    omega
  refine CF_heap (fn := Tryz.f17) rfl rfl rfl rfl ?_
  have fin : ∀ t : TF, t 2 = .pointer (some ⟨3 * n + 2, 0, none⟩) → ∀ e, RetH Tryz.f17 (fun v h' n' w => w = [] ∧ n' = n + 1 ∧ Ext n h h' ∧ v = .pointer (some ⟨3 * n + 2, 0, none⟩) ∧ Tp h' ⟨n + 1, 3 * n + 2, a, min len 400, cap, L.take 400⟩) .ret ⟨t, upd h (3 * n + 2) (some (.row [.slice a (min len 400) cap, .int .i64 0] e)), n + 1, []⟩ := fun t ht e => by
    refine retH _ rfl (resF_tmp rfl) ?_ ⟨rfl, rfl, Ext.upd (by omega), ht, by show 3 * n + 2 < 3 * (n + 1); omega, by show (L.take 400).length = min len 400; simp; omega, by show min len 400 ≤ 400; omega, fun x hx => ?_, ?_, 0, e, upd_same _ _ _, Nat.zero_le _⟩
    · show flats [t 2] = false
      rw [ht]; rfl
    · have hx : a = some x := hx
      subst hx
      have : x.block < 3 * n := hs.below
      show x.block ≠ 3 * n + 2
      omega
    · show Sl _ (n + 1) 1 (.slice a (min len 400) cap) (i64s (L.take 400))
      have := hs.take (min len 400) (by omega)
      rw [show (i64s L).take (min len 400 * 1) = i64s (L.take 400) from by simp [i64s, List.map_take]; omega] at this
      exact this.ext (Ext.upd (by omega)) (Nat.le_succ _)
  simp only [EC_seq, EC_region, EC_block, EC_scope, EC_skip, EC_exit, EC_ret, EC_label, EO_nil, ED_nil, after_normal, after_exit, after_ret, leave_normal, leave_exit, leave_ret, goesOn_exit, goesOn_ret, cut_exit, cut_ret, cutx_exit, cutx_ret, reduceIte, Nat.reduceEqDiff, reduceCtorEq, Nat.one_ne_zero, Nat.zero_ne_one]
  repeat (first | refine st_I rfl rfl rfl rfl rfl ?_ | refine st_S rfl rfl rfl rfl rfl ?_ | refine st_P rfl rfl rfl rfl rfl ?_ | refine st_val (v := .pointer none) rfl rfl rfl rfl rfl ?_)
  simp only [EC_seq, EC_region, EC_block, EC_scope, EC_skip, EC_exit, EC_ret, EC_label, EO_nil, ED_nil, after_normal, after_exit, after_ret, leave_normal, leave_exit, leave_ret, goesOn_exit, goesOn_ret, cut_exit, cut_ret, cutx_exit, cutx_ret, reduceIte, Nat.reduceEqDiff, reduceCtorEq, Nat.one_ne_zero, Nat.zero_ne_one]
  repeat (first | refine st_I rfl rfl rfl rfl rfl ?_ | refine st_S rfl rfl rfl rfl rfl ?_ | refine st_P rfl rfl rfl rfl rfl ?_ | refine st_val (v := .pointer none) rfl rfl rfl rfl rfl ?_)
  have hmin : (if (400 : Int) < (len : Int) then 400 else (len : Int)) = ((min len 400 : Nat) : Int) := by
    split <;> omega
  have hcap := hs.cap
  rcases hs.addr with rfl | ⟨b, off, rfl⟩
  · refine st_sliceHiN (min len 400) rfl rfl rfl rfl rfl rfl rfl rfl hmin (by omega) ?_
    refine st_val (v := .agg #[.slice none (min len 400) cap, .int .i64 0]) rfl rfl rfl rfl rfl ?_
    refine st_mkp (cs := [.slice none (min len 400) cap, .int .i64 0]) rfl rfl rfl rfl rfl ?_
    repeat (first | refine st_I rfl rfl rfl rfl rfl ?_ | refine st_S rfl rfl rfl rfl rfl ?_ | refine st_P rfl rfl rfl rfl rfl ?_ | refine st_val (v := .pointer none) rfl rfl rfl rfl rfl ?_)
    simp only [EC_seq, EC_region, EC_block, EC_scope, EC_skip, EC_exit, EC_ret, EC_label, EO_nil, ED_nil, after_normal, after_exit, after_ret, leave_normal, leave_exit, leave_ret, goesOn_exit, goesOn_ret, cut_exit, cut_ret, cutx_exit, cutx_ret, reduceIte, Nat.reduceEqDiff, reduceCtorEq, Nat.one_ne_zero, Nat.zero_ne_one]
    exact fin _ rfl _
  · refine st_sliceHi (min len 400) rfl rfl rfl rfl rfl rfl rfl rfl hmin (by omega) ?_
    refine st_val (v := .agg #[.slice (some ⟨b, off, none⟩) (min len 400) cap, .int .i64 0]) rfl rfl rfl rfl rfl ?_
    refine st_mkp (cs := [.slice (some ⟨b, off, none⟩) (min len 400) cap, .int .i64 0]) rfl rfl rfl rfl rfl ?_
    repeat (first | refine st_I rfl rfl rfl rfl rfl ?_ | refine st_S rfl rfl rfl rfl rfl ?_ | refine st_P rfl rfl rfl rfl rfl ?_ | refine st_val (v := .pointer none) rfl rfl rfl rfl rfl ?_)
    simp only [EC_seq, EC_region, EC_block, EC_scope, EC_skip, EC_exit, EC_ret, EC_label, EO_nil, ED_nil, after_normal, after_exit, after_ret, leave_normal, leave_exit, leave_ret, goesOn_exit, goesOn_ret, cut_exit, cut_ret, cutx_exit, cutx_ret, reduceIte, Nat.reduceEqDiff, reduceCtorEq, Nat.one_ne_zero, Nat.zero_ne_one]
    exact fin _ rfl _
/-- What a function that reads the tape leaves. -/
structure TLeft (T : TapeI) (h : HF) (n : Nat) (h' : HF) (n' : Nat) (w : List Nat) : Prop where
  w : ∀ b ∈ w, b = T.bt
  le : n ≤ n'
  tp : Tp h' T
  ext : ExtT n T.bt h h'
theorem wholes_ok (k : Nat) {h : HF} {n : Nat} {T : TapeI} {N : Nat} (hN : N ≤ 1000) (ht : Tp h T) (hn : T.m ≤ n) : CF (cal (k + 5)) 67 [.pointer (some ⟨T.bt, 0, none⟩), .int .i64 (N : Int)] h n fun v h' n' w => TLeft T h n h' n' w ∧ ∃ S, S.length = N ∧ (∀ s ∈ S, SmallS 2 s) ∧ Gro h' n n' 9 1 v N (strs S) := by
  have hbt := ht.bt
  refine CF_heap (fn := Tryz.f67) rfl rfl rfl rfl ?_
  simp only [EC_seq, EC_region, EC_block, EC_scope, EC_skip, EC_exit, EC_ret, EC_label, EO_nil, ED_nil, after_normal, after_exit, after_ret, leave_normal, leave_exit, leave_ret, goesOn_exit, goesOn_ret, cut_exit, cut_ret, cutx_exit, cutx_ret, reduceIte, Nat.reduceEqDiff, reduceCtorEq, Nat.one_ne_zero, Nat.zero_ne_one]
  repeat (first | refine st_ltT rfl rfl rfl rfl rfl rfl (by omega) ?_ | refine st_ltF rfl rfl rfl rfl rfl rfl (by omega) ?_ | refine st_add rfl rfl rfl rfl rfl rfl (by omega) ?_ | refine st_I rfl rfl rfl rfl rfl ?_ | refine st_S rfl rfl rfl rfl rfl ?_ | refine st_P rfl rfl rfl rfl rfl ?_)
  simp only [EC_seq, EC_region, EC_block, EC_scope, EC_skip, EC_exit, EC_ret, EC_label, EO_nil, ED_nil, after_normal, after_exit, after_ret, leave_normal, leave_exit, leave_ret, goesOn_exit, goesOn_ret, cut_exit, cut_ret, cutx_exit, cutx_ret, reduceIte, Nat.reduceEqDiff, reduceCtorEq, Nat.one_ne_zero, Nat.zero_ne_one]
  repeat (first | refine st_ltT rfl rfl rfl rfl rfl rfl (by omega) ?_ | refine st_ltF rfl rfl rfl rfl rfl rfl (by omega) ?_ | refine st_add rfl rfl rfl rfl rfl rfl (by omega) ?_ | refine st_I rfl rfl rfl rfl rfl ?_ | refine st_S rfl rfl rfl rfl rfl ?_ | refine st_P rfl rfl rfl rfl rfl ?_)
  simp only [EC_seq, EC_region, EC_block, EC_scope, EC_skip, EC_exit, EC_ret, EC_label, EO_nil, ED_nil, after_normal, after_exit, after_ret, leave_normal, leave_exit, leave_ret, goesOn_exit, goesOn_ret, cut_exit, cut_ret, cutx_exit, cutx_ret, reduceIte, Nat.reduceEqDiff, reduceCtorEq, Nat.one_ne_zero, Nat.zero_ne_one]
  repeat (first | refine st_ltT rfl rfl rfl rfl rfl rfl (by omega) ?_ | refine st_ltF rfl rfl rfl rfl rfl rfl (by omega) ?_ | refine st_add rfl rfl rfl rfl rfl rfl (by omega) ?_ | refine st_I rfl rfl rfl rfl rfl ?_ | refine st_S rfl rfl rfl rfl rfl ?_ | refine st_P rfl rfl rfl rfl rfl ?_)
  simp only [EC_seq, EC_region, EC_block, EC_scope, EC_skip, EC_exit, EC_ret, EC_label, EO_nil, ED_nil, after_normal, after_exit, after_ret, leave_normal, leave_exit, leave_ret, goesOn_exit, goesOn_ret, cut_exit, cut_ret, cutx_exit, cutx_ret, reduceIte, Nat.reduceEqDiff, reduceCtorEq, Nat.one_ne_zero, Nat.zero_ne_one]
  refine EC_for (α := Nat × Value × List (List UInt8)) (fun z => [(0, .pointer (some ⟨T.bt, 0, none⟩)), (1, .int .i64 (N : Int)), (5, z.2.1), (6, .int .i64 (z.1 : Int))])
    (fun z h' n' w => TLeft T h n h' n' w ∧ z.1 ≤ N ∧ z.2.2.length = z.1 ∧ (∀ s ∈ z.2.2, SmallS 2 s) ∧ Gro h' n n' 9 1 z.2.1 z.1 (strs z.2.2)) (fun z => N - z.1)
    (0, .slice none 0 0, []) ⟨rfl, rfl, rfl, rfl, trivial⟩ ⟨⟨fun b hb => absurd hb List.not_mem_nil, Nat.le_refl _, ht, ExtT.refl _ _ _⟩, Nat.zero_le _, rfl, fun s hs => absurd hs List.not_mem_nil, .nil⟩ (by show N - 0 < LL; unfold LL; omega) ?_
  rintro ⟨j, v5, S⟩ t h1 n1 w1 ⟨⟨hw1, hn1, ht1, hx1⟩, hj, hS, hsm, hg⟩
  simp only at hj hS hsm hg
  obtain ⟨a5, rfl, _⟩ := hg.shape
  simp only [EC_seq, EC_region, EC_block, EC_scope, EC_skip, EC_exit, EC_ret, EC_label, EO_nil, ED_nil, after_normal, after_exit, after_ret, leave_normal, leave_exit, leave_ret, goesOn_exit, goesOn_ret, cut_exit, cut_ret, cutx_exit, cutx_ret, reduceIte, Nat.reduceEqDiff, reduceCtorEq, Nat.one_ne_zero, Nat.zero_ne_one]
  by_cases hjN : j = N
  · repeat (first | refine st_ltT rfl rfl rfl rfl rfl rfl (by omega) ?_ | refine st_ltF rfl rfl rfl rfl rfl rfl (by omega) ?_ | refine st_add rfl rfl rfl rfl rfl rfl (by omega) ?_ | refine st_I rfl rfl rfl rfl rfl ?_ | refine st_S rfl rfl rfl rfl rfl ?_ | refine st_P rfl rfl rfl rfl rfl ?_)
    simp only [EC_seq, EC_region, EC_block, EC_scope, EC_skip, EC_exit, EC_ret, EC_label, EO_nil, ED_nil, after_normal, after_exit, after_ret, leave_normal, leave_exit, leave_ret, goesOn_exit, goesOn_ret, cut_exit, cut_ret, cutx_exit, cutx_ret, reduceIte, Nat.reduceEqDiff, reduceCtorEq, Nat.one_ne_zero, Nat.zero_ne_one]
    rw [EC_cond_false rfl]
    simp only [EC_seq, EC_region, EC_block, EC_scope, EC_skip, EC_exit, EC_ret, EC_label, EO_nil, ED_nil, after_normal, after_exit, after_ret, leave_normal, leave_exit, leave_ret, goesOn_exit, goesOn_ret, cut_exit, cut_ret, cutx_exit, cutx_ret, reduceIte, Nat.reduceEqDiff, reduceCtorEq, Nat.one_ne_zero, Nat.zero_ne_one]
    repeat (first | refine st_ltT rfl rfl rfl rfl rfl rfl (by omega) ?_ | refine st_ltF rfl rfl rfl rfl rfl rfl (by omega) ?_ | refine st_add rfl rfl rfl rfl rfl rfl (by omega) ?_ | refine st_I rfl rfl rfl rfl rfl ?_ | refine st_S rfl rfl rfl rfl rfl ?_ | refine st_P rfl rfl rfl rfl rfl ?_)
    simp only [EC_seq, EC_region, EC_block, EC_scope, EC_skip, EC_exit, EC_ret, EC_label, EO_nil, ED_nil, after_normal, after_exit, after_ret, leave_normal, leave_exit, leave_ret, goesOn_exit, goesOn_ret, cut_exit, cut_ret, cutx_exit, cutx_ret, reduceIte, Nat.reduceEqDiff, reduceCtorEq, Nat.one_ne_zero, Nat.zero_ne_one]
    refine retH _ rfl (resF_tmp rfl) rfl ⟨⟨hw1, hn1, ht1, hx1⟩, S, by omega, hsm, ?_⟩
    subst hjN
    exact hg
  · repeat (first | refine st_ltT rfl rfl rfl rfl rfl rfl (by omega) ?_ | refine st_ltF rfl rfl rfl rfl rfl rfl (by omega) ?_ | refine st_add rfl rfl rfl rfl rfl rfl (by omega) ?_ | refine st_I rfl rfl rfl rfl rfl ?_ | refine st_S rfl rfl rfl rfl rfl ?_ | refine st_P rfl rfl rfl rfl rfl ?_)
    simp only [EC_seq, EC_region, EC_block, EC_scope, EC_skip, EC_exit, EC_ret, EC_label, EO_nil, ED_nil, after_normal, after_exit, after_ret, leave_normal, leave_exit, leave_ret, goesOn_exit, goesOn_ret, cut_exit, cut_ret, cutx_exit, cutx_ret, reduceIte, Nat.reduceEqDiff, reduceCtorEq, Nat.one_ne_zero, Nat.zero_ne_one]
    rw [EC_cond_true rfl]
    simp only [EC_seq, EC_region, EC_block, EC_scope, EC_skip, EC_exit, EC_ret, EC_label, EO_nil, ED_nil, after_normal, after_exit, after_ret, leave_normal, leave_exit, leave_ret, goesOn_exit, goesOn_ret, cut_exit, cut_ret, cutx_exit, cutx_ret, reduceIte, Nat.reduceEqDiff, reduceCtorEq, Nat.one_ne_zero, Nat.zero_ne_one]
    repeat (first | refine st_ltT rfl rfl rfl rfl rfl rfl (by omega) ?_ | refine st_ltF rfl rfl rfl rfl rfl rfl (by omega) ?_ | refine st_add rfl rfl rfl rfl rfl rfl (by omega) ?_ | refine st_I rfl rfl rfl rfl rfl ?_ | refine st_S rfl rfl rfl rfl rfl ?_ | refine st_P rfl rfl rfl rfl rfl ?_)
    refine st_call _ rfl rfl rfl rfl rfl (whole_ok k (K := 2) (by omega) ht1 (by omega)) ?_
    rintro _ h2 n2 w2 ⟨hw2, hn2, ht2, hx2, m1, m2, ln, x, rfl, hq, hx0, hx1', hf, hln⟩
    refine st_vf _ rfl rfl rfl rfl rfl (text_ok k hq (by simp; omega)) ?_
    rintro _ rfl
    refine st_mks (cs := strs [ratT (x : Rat)]) rfl rfl rfl rfl rfl ?_
    refine st_app (m := 1) rfl rfl rfl rfl rfl rfl rfl rfl (by decide) ((hg.extT hx2 (by omega) hn2).ext (Ext.upd (by omega)) (Nat.le_succ _)) (argS_of (upd_same _ _ _) rfl rfl) (Nat.le_refl _) (by omega) rfl rfl (by show n ≤ n ∧ _; omega) ?_
    intro v3 h3 hg3 hx3 hk3
    obtain ⟨a3, rfl, _⟩ := hg3.shape
    repeat (first | refine st_ltT rfl rfl rfl rfl rfl rfl (by omega) ?_ | refine st_ltF rfl rfl rfl rfl rfl rfl (by omega) ?_ | refine st_add rfl rfl rfl rfl rfl rfl (by omega) ?_ | refine st_I rfl rfl rfl rfl rfl ?_ | refine st_S rfl rfl rfl rfl rfl ?_ | refine st_P rfl rfl rfl rfl rfl ?_)
    simp only [EC_seq, EC_region, EC_block, EC_scope, EC_skip, EC_exit, EC_ret, EC_label, EO_nil, ED_nil, after_normal, after_exit, after_ret, leave_normal, leave_exit, leave_ret, goesOn_exit, goesOn_ret, cut_exit, cut_ret, cutx_exit, cutx_ret, reduceIte, Nat.reduceEqDiff, reduceCtorEq, Nat.one_ne_zero, Nat.zero_ne_one]
    repeat (first | refine st_ltT rfl rfl rfl rfl rfl rfl (by omega) ?_ | refine st_ltF rfl rfl rfl rfl rfl rfl (by omega) ?_ | refine st_add rfl rfl rfl rfl rfl rfl (by omega) ?_ | refine st_I rfl rfl rfl rfl rfl ?_ | refine st_S rfl rfl rfl rfl rfl ?_ | refine st_P rfl rfl rfl rfl rfl ?_)
    simp only [EC_seq, EC_region, EC_block, EC_scope, EC_skip, EC_exit, EC_ret, EC_label, EO_nil, ED_nil, after_normal, after_exit, after_ret, leave_normal, leave_exit, leave_ret, goesOn_exit, goesOn_ret, cut_exit, cut_ret, cutx_exit, cutx_ret, reduceIte, Nat.reduceEqDiff, reduceCtorEq, Nat.one_ne_zero, Nat.zero_ne_one]
    refine goOn (j + 1, .slice a3 (j + 1) (j + 1), S ++ [ratT (x : Rat)]) (by show N - (j + 1) < N - j; omega) ⟨rfl, rfl, rfl, by show Value.int .i64 _ = Value.int .i64 _; congr 1, trivial⟩ ⟨⟨?_, by show n ≤ n2 + 1 + 1; omega, (ht2.upd (by omega)).ext hx3 (by omega), fun b hb hne => ?_⟩, by show j + 1 ≤ N; omega, by show (S ++ [_]).length = j + 1; simp; omega, ?_, ?_⟩
    · exact addW_bt hw2 hw1
    · exact (hx3 b hb).trans ((upd_ne (by omega)).trans ((hx2 b (by omega) hne).trans (hx1 b hb hne)))
    · intro s hs
      rcases List.mem_append.1 hs with hs | hs
      · exact hsm s hs
      · simp at hs; subst hs; exact ⟨x, hx0, hx1', rfl⟩
    · show Gro _ _ _ _ _ _ (j + 1) (strs (S ++ [_]))
      rw [strs_append]
      exact hg3
end Go.Proofs.YtokfihhdllmbmaaGreatDoor
namespace Go.Proofs.YtokfihhdllmbmaaGreatDoor
open Go Go.GL
/-! Package sosoptscene: entries. -/
structure Ent where
  b : Int
  r : Int
  c : Int
  v : List UInt8
def entC (e : Ent) : List Value := [.int .i64 e.b, .int .i64 e.r, .int .i64 e.c, .string ⟨⟨e.v⟩⟩]
def ents (l : List Ent) : List Value := l.flatMap entC
theorem ents_append (a b : List Ent) : ents (a ++ b) = ents a ++ ents b := by simp [ents]
theorem ents_len (a : List Ent) : (ents a).length = a.length * 4 := by
  induction a with
  | nil => rfl
  | cons e a ih => simp only [ents, List.flatMap_cons, List.length_append, List.length_cons] at *; rw [ih]; simp [entC]; omega
def ltP (e : Ent) (b r c : Int) : Prop := e.b < b ∨ (e.b = b ∧ (e.r < r ∨ (e.r = r ∧ e.c < c)))
def ltE (e f : Ent) : Prop := ltP e f.b f.r f.c
/-- An entry that fits the blocks, with a small value. -/
structure EntOk (B : List Int) (e : Ent) : Prop where
  b : 0 ≤ e.b ∧ e.b < B.length
  rc : 0 ≤ e.r ∧ e.r ≤ e.c
  c : ∀ d, B[e.b.toNat]? = some d → e.c < d
  v : ∃ x : Int, -2 ≤ x ∧ x ≤ 2 ∧ x ≠ 0 ∧ e.v = ratT (x : Rat)
/-- A list of entries up to a place. -/
structure EOk (B : List Int) (E : List Ent) (b r c : Int) : Prop where
  ok : ∀ e ∈ E, EntOk B e
  asc : E.Pairwise ltE
  lt : ∀ e ∈ E, ltP e b r c
theorem ltP_mono {e : Ent} {b r c b' r' c' : Int} (h : ltP e b r c) (h' : b < b' ∨ (b = b' ∧ (r < r' ∨ (r = r' ∧ c ≤ c')))) : ltP e b' r' c' := by
  unfold ltP at *
  omega
theorem EOk.mono {B : List Int} {E : List Ent} {b r c b' r' c' : Int} (h : EOk B E b r c) (h' : b < b' ∨ (b = b' ∧ (r < r' ∨ (r = r' ∧ c ≤ c')))) : EOk B E b' r' c' := ⟨h.ok, h.asc, fun e he => ltP_mono (h.lt e he) h'⟩
theorem EOk.snoc {B : List Int} {E : List Ent} {e : Ent} (h : EOk B E e.b e.r e.c) (he : EntOk B e) : EOk B (E ++ [e]) e.b e.r (e.c + 1) := by
  refine ⟨fun x hx => ?_, ?_, fun x hx => ?_⟩
  · rcases List.mem_append.1 hx with hx | hx
    · exact h.ok x hx
    · simp at hx; subst hx; exact he
  · rw [List.pairwise_append]
    refine ⟨h.asc, by simp, fun x hx y hy => ?_⟩
    simp at hy; subst hy
    exact h.lt x hx
  · rcases List.mem_append.1 hx with hx | hx
    · exact ltP_mono (h.lt x hx) (.inr ⟨rfl, .inr ⟨rfl, by omega⟩⟩)
    · simp at hx; subst hx; exact .inr ⟨rfl, .inr ⟨rfl, by omega⟩⟩
theorem TLeft.refl {T : TapeI} {h : HF} {n : Nat} (ht : Tp h T) : TLeft T h n h n [] := ⟨fun b hb => absurd hb List.not_mem_nil, Nat.le_refl _, ht, ExtT.refl _ _ _⟩
theorem Sl.extT {h h' : HF} {n n' bt sz : Nat} {v : Value} {c : List Value} (s : Sl h n sz v c) (e : ExtT n bt h h') (hb : ∀ a l cap, v = .slice (some a) l cap → a.block ≠ bt) (hn : n ≤ n') : Sl h' n' sz v c :=
  s.keep (fun a l cap ev => e _ (by have := s.below; subst ev; exact this) (hb a l cap ev)) hn
set_option maxHeartbeats 2000000
theorem entries_ok (k : Nat) {h : HF} {n : Nat} {T : TapeI} {a : Option Addr} {cap : Nat} {B : List Int} (hB : B.length ≤ 4 ∧ ∀ d ∈ B, 0 ≤ d ∧ d ≤ 8) (ht : Tp h T) (hn : T.m ≤ n) (hs : Sl h n 1 (.slice a B.length cap) (i64s B)) (hbt : ∀ x, a = some x → x.block ≠ T.bt) :
    CF (cal (k + 5)) 66 [.pointer (some ⟨T.bt, 0, none⟩), .slice a B.length cap] h n fun v h' n' w => TLeft T h n h' n' w ∧ ∃ E, EOk B E B.length 0 0 ∧ E.length ≤ 256 ∧ Gro h' n n' 37 4 v E.length (ents E) := by
  have hbt0 := ht.bt
  refine CF_heap (fn := Tryz.f66) rfl rfl rfl rfl ?_
  simp only [EC_seq, EC_region, EC_block, EC_scope, EC_skip, EC_exit, EC_ret, EC_label, EO_nil, ED_nil, after_normal, after_exit, after_ret, leave_normal, leave_exit, leave_ret, goesOn_exit, goesOn_ret, cut_exit, cut_ret, cutx_exit, cutx_ret, reduceIte, Nat.reduceEqDiff, reduceCtorEq, Nat.one_ne_zero, Nat.zero_ne_one]
  repeat (first | refine st_ltT rfl rfl rfl rfl rfl rfl (by omega) ?_ | refine st_ltF rfl rfl rfl rfl rfl rfl (by omega) ?_ | refine st_eqT rfl rfl rfl rfl rfl rfl (by omega) ?_ | refine st_eqF rfl rfl rfl rfl rfl rfl (by omega) ?_ | refine st_neqT rfl rfl rfl rfl rfl rfl (by omega) ?_ | refine st_neq rfl rfl rfl rfl rfl rfl ?_ | refine st_add rfl rfl rfl rfl rfl rfl (by omega) ?_ | refine st_I rfl rfl rfl rfl rfl ?_ | refine st_B rfl rfl rfl rfl rfl ?_ | refine st_S rfl rfl rfl rfl rfl ?_ | refine st_P rfl rfl rfl rfl rfl ?_ | refine st_val (v := .pointer none) rfl rfl rfl rfl rfl ?_ | refine st_off rfl rfl rfl ?_)
  simp only [EC_seq, EC_region, EC_block, EC_scope, EC_skip, EC_exit, EC_ret, EC_label, EO_nil, ED_nil, after_normal, after_exit, after_ret, leave_normal, leave_exit, leave_ret, goesOn_exit, goesOn_ret, cut_exit, cut_ret, cutx_exit, cutx_ret, reduceIte, Nat.reduceEqDiff, reduceCtorEq, Nat.one_ne_zero, Nat.zero_ne_one]
  repeat (first | refine st_ltT rfl rfl rfl rfl rfl rfl (by omega) ?_ | refine st_ltF rfl rfl rfl rfl rfl rfl (by omega) ?_ | refine st_eqT rfl rfl rfl rfl rfl rfl (by omega) ?_ | refine st_eqF rfl rfl rfl rfl rfl rfl (by omega) ?_ | refine st_neqT rfl rfl rfl rfl rfl rfl (by omega) ?_ | refine st_neq rfl rfl rfl rfl rfl rfl ?_ | refine st_add rfl rfl rfl rfl rfl rfl (by omega) ?_ | refine st_I rfl rfl rfl rfl rfl ?_ | refine st_B rfl rfl rfl rfl rfl ?_ | refine st_S rfl rfl rfl rfl rfl ?_ | refine st_P rfl rfl rfl rfl rfl ?_ | refine st_val (v := .pointer none) rfl rfl rfl rfl rfl ?_ | refine st_off rfl rfl rfl ?_)
  simp only [EC_seq, EC_region, EC_block, EC_scope, EC_skip, EC_exit, EC_ret, EC_label, EO_nil, ED_nil, after_normal, after_exit, after_ret, leave_normal, leave_exit, leave_ret, goesOn_exit, goesOn_ret, cut_exit, cut_ret, cutx_exit, cutx_ret, reduceIte, Nat.reduceEqDiff, reduceCtorEq, Nat.one_ne_zero, Nat.zero_ne_one]
  repeat (first | refine st_ltT rfl rfl rfl rfl rfl rfl (by omega) ?_ | refine st_ltF rfl rfl rfl rfl rfl rfl (by omega) ?_ | refine st_eqT rfl rfl rfl rfl rfl rfl (by omega) ?_ | refine st_eqF rfl rfl rfl rfl rfl rfl (by omega) ?_ | refine st_neqT rfl rfl rfl rfl rfl rfl (by omega) ?_ | refine st_neq rfl rfl rfl rfl rfl rfl ?_ | refine st_add rfl rfl rfl rfl rfl rfl (by omega) ?_ | refine st_I rfl rfl rfl rfl rfl ?_ | refine st_B rfl rfl rfl rfl rfl ?_ | refine st_S rfl rfl rfl rfl rfl ?_ | refine st_P rfl rfl rfl rfl rfl ?_ | refine st_val (v := .pointer none) rfl rfl rfl rfl rfl ?_ | refine st_off rfl rfl rfl ?_)
  simp only [EC_seq, EC_region, EC_block, EC_scope, EC_skip, EC_exit, EC_ret, EC_label, EO_nil, ED_nil, after_normal, after_exit, after_ret, leave_normal, leave_exit, leave_ret, goesOn_exit, goesOn_ret, cut_exit, cut_ret, cutx_exit, cutx_ret, reduceIte, Nat.reduceEqDiff, reduceCtorEq, Nat.one_ne_zero, Nat.zero_ne_one]
  refine EC_for (α := Nat × Value × List Ent) (fun z => [(0, .pointer (some ⟨T.bt, 0, none⟩)), (5, z.2.1), (11, .slice a B.length cap), (12, .int .i64 (B.length : Int)), (13, .int .i64 (z.1 : Int))])
    (fun z h' n' w => TLeft T h n h' n' w ∧ z.1 ≤ B.length ∧ EOk B z.2.2 z.1 0 0 ∧ z.2.2.length ≤ 64 * z.1 ∧ Gro h' n n' 37 4 z.2.1 z.2.2.length (ents z.2.2)) (fun z => B.length - z.1)
    (0, .slice none 0 0, []) ⟨rfl, rfl, rfl, rfl, rfl, trivial⟩ ⟨TLeft.refl ht, Nat.zero_le _, ⟨fun e he => absurd he List.not_mem_nil, List.Pairwise.nil, fun e he => absurd he List.not_mem_nil⟩, Nat.le_refl _, .nil⟩ (by show B.length - 0 < LL; unfold LL; omega) ?_
  rintro ⟨j, v5, E⟩ t h1 n1 w1 ⟨hT1, hj, hE, hEl, hg⟩
  simp only at hj hE hEl hg
  obtain ⟨a5, rfl, _⟩ := hg.shape
  simp only [EC_seq, EC_region, EC_block, EC_scope, EC_skip, EC_exit, EC_ret, EC_label, EO_nil, ED_nil, after_normal, after_exit, after_ret, leave_normal, leave_exit, leave_ret, goesOn_exit, goesOn_ret, cut_exit, cut_ret, cutx_exit, cutx_ret, reduceIte, Nat.reduceEqDiff, reduceCtorEq, Nat.one_ne_zero, Nat.zero_ne_one]
  by_cases hjB : j = B.length
  · repeat (first | refine st_ltT rfl rfl rfl rfl rfl rfl (by omega) ?_ | refine st_ltF rfl rfl rfl rfl rfl rfl (by omega) ?_ | refine st_eqT rfl rfl rfl rfl rfl rfl (by omega) ?_ | refine st_eqF rfl rfl rfl rfl rfl rfl (by omega) ?_ | refine st_neqT rfl rfl rfl rfl rfl rfl (by omega) ?_ | refine st_neq rfl rfl rfl rfl rfl rfl ?_ | refine st_add rfl rfl rfl rfl rfl rfl (by omega) ?_ | refine st_I rfl rfl rfl rfl rfl ?_ | refine st_B rfl rfl rfl rfl rfl ?_ | refine st_S rfl rfl rfl rfl rfl ?_ | refine st_P rfl rfl rfl rfl rfl ?_ | refine st_val (v := .pointer none) rfl rfl rfl rfl rfl ?_ | refine st_off rfl rfl rfl ?_)
    simp only [EC_seq, EC_region, EC_block, EC_scope, EC_skip, EC_exit, EC_ret, EC_label, EO_nil, ED_nil, after_normal, after_exit, after_ret, leave_normal, leave_exit, leave_ret, goesOn_exit, goesOn_ret, cut_exit, cut_ret, cutx_exit, cutx_ret, reduceIte, Nat.reduceEqDiff, reduceCtorEq, Nat.one_ne_zero, Nat.zero_ne_one]
    rw [EC_cond_false rfl]
    simp only [EC_seq, EC_region, EC_block, EC_scope, EC_skip, EC_exit, EC_ret, EC_label, EO_nil, ED_nil, after_normal, after_exit, after_ret, leave_normal, leave_exit, leave_ret, goesOn_exit, goesOn_ret, cut_exit, cut_ret, cutx_exit, cutx_ret, reduceIte, Nat.reduceEqDiff, reduceCtorEq, Nat.one_ne_zero, Nat.zero_ne_one]
    repeat (first | refine st_ltT rfl rfl rfl rfl rfl rfl (by omega) ?_ | refine st_ltF rfl rfl rfl rfl rfl rfl (by omega) ?_ | refine st_eqT rfl rfl rfl rfl rfl rfl (by omega) ?_ | refine st_eqF rfl rfl rfl rfl rfl rfl (by omega) ?_ | refine st_neqT rfl rfl rfl rfl rfl rfl (by omega) ?_ | refine st_neq rfl rfl rfl rfl rfl rfl ?_ | refine st_add rfl rfl rfl rfl rfl rfl (by omega) ?_ | refine st_I rfl rfl rfl rfl rfl ?_ | refine st_B rfl rfl rfl rfl rfl ?_ | refine st_S rfl rfl rfl rfl rfl ?_ | refine st_P rfl rfl rfl rfl rfl ?_ | refine st_val (v := .pointer none) rfl rfl rfl rfl rfl ?_ | refine st_off rfl rfl rfl ?_)
    simp only [EC_seq, EC_region, EC_block, EC_scope, EC_skip, EC_exit, EC_ret, EC_label, EO_nil, ED_nil, after_normal, after_exit, after_ret, leave_normal, leave_exit, leave_ret, goesOn_exit, goesOn_ret, cut_exit, cut_ret, cutx_exit, cutx_ret, reduceIte, Nat.reduceEqDiff, reduceCtorEq, Nat.one_ne_zero, Nat.zero_ne_one]
    exact retH _ rfl (resF_tmp rfl) rfl ⟨hT1, E, hjB ▸ hE, by omega, hg⟩
  obtain ⟨d, hd⟩ : ∃ d, B[j]? = some d := ⟨B[j]'(by omega), List.getElem?_eq_getElem (by omega)⟩
  have hd8 := hB.2 d (List.mem_of_getElem? hd)
  obtain ⟨bb, off, x, cs, rfl, hb3, hx, hc, hcap, hle, he⟩ := hs.inv (by omega)
  have hcell : cs[off + j]? = some (.int .i64 d) := cell_at he (by rw [i64s, List.getElem?_map, hd]; rfl)
  have hx1 : h1 bb = some x := by rw [hT1.ext bb hb3 (hbt _ rfl)]; exact hx
  obtain ⟨D, rfl⟩ : ∃ D : Nat, d = (D : Int) := ⟨d.toNat, by omega⟩
  repeat (first | refine st_ltT rfl rfl rfl rfl rfl rfl (by omega) ?_ | refine st_ltF rfl rfl rfl rfl rfl rfl (by omega) ?_ | refine st_eqT rfl rfl rfl rfl rfl rfl (by omega) ?_ | refine st_eqF rfl rfl rfl rfl rfl rfl (by omega) ?_ | refine st_neqT rfl rfl rfl rfl rfl rfl (by omega) ?_ | refine st_neq rfl rfl rfl rfl rfl rfl ?_ | refine st_add rfl rfl rfl rfl rfl rfl (by omega) ?_ | refine st_I rfl rfl rfl rfl rfl ?_ | refine st_B rfl rfl rfl rfl rfl ?_ | refine st_S rfl rfl rfl rfl rfl ?_ | refine st_P rfl rfl rfl rfl rfl ?_ | refine st_val (v := .pointer none) rfl rfl rfl rfl rfl ?_ | refine st_off rfl rfl rfl ?_)
  simp only [EC_seq, EC_region, EC_block, EC_scope, EC_skip, EC_exit, EC_ret, EC_label, EO_nil, ED_nil, after_normal, after_exit, after_ret, leave_normal, leave_exit, leave_ret, goesOn_exit, goesOn_ret, cut_exit, cut_ret, cutx_exit, cutx_ret, reduceIte, Nat.reduceEqDiff, reduceCtorEq, Nat.one_ne_zero, Nat.zero_ne_one]
  rw [EC_cond_true rfl]
  simp only [EC_seq, EC_region, EC_block, EC_scope, EC_skip, EC_exit, EC_ret, EC_label, EO_nil, ED_nil, after_normal, after_exit, after_ret, leave_normal, leave_exit, leave_ret, goesOn_exit, goesOn_ret, cut_exit, cut_ret, cutx_exit, cutx_ret, reduceIte, Nat.reduceEqDiff, reduceCtorEq, Nat.one_ne_zero, Nat.zero_ne_one]
  repeat (first | refine st_ltT rfl rfl rfl rfl rfl rfl (by omega) ?_ | refine st_ltF rfl rfl rfl rfl rfl rfl (by omega) ?_ | refine st_eqT rfl rfl rfl rfl rfl rfl (by omega) ?_ | refine st_eqF rfl rfl rfl rfl rfl rfl (by omega) ?_ | refine st_neqT rfl rfl rfl rfl rfl rfl (by omega) ?_ | refine st_neq rfl rfl rfl rfl rfl rfl ?_ | refine st_add rfl rfl rfl rfl rfl rfl (by omega) ?_ | refine st_I rfl rfl rfl rfl rfl ?_ | refine st_B rfl rfl rfl rfl rfl ?_ | refine st_S rfl rfl rfl rfl rfl ?_ | refine st_P rfl rfl rfl rfl rfl ?_ | refine st_val (v := .pointer none) rfl rfl rfl rfl rfl ?_ | refine st_off rfl rfl rfl ?_)
  refine st_idx rfl rfl rfl rfl rfl rfl rfl rfl (by omega) ?_
  refine st_load1 rfl rfl rfl rfl rfl rfl hx1 hc (v := .int .i64 (D : Int)) (by rw [← hcell]; congr 1; omega) ?_
  repeat (first | refine st_ltT rfl rfl rfl rfl rfl rfl (by omega) ?_ | refine st_ltF rfl rfl rfl rfl rfl rfl (by omega) ?_ | refine st_eqT rfl rfl rfl rfl rfl rfl (by omega) ?_ | refine st_eqF rfl rfl rfl rfl rfl rfl (by omega) ?_ | refine st_neqT rfl rfl rfl rfl rfl rfl (by omega) ?_ | refine st_neq rfl rfl rfl rfl rfl rfl ?_ | refine st_add rfl rfl rfl rfl rfl rfl (by omega) ?_ | refine st_I rfl rfl rfl rfl rfl ?_ | refine st_B rfl rfl rfl rfl rfl ?_ | refine st_S rfl rfl rfl rfl rfl ?_ | refine st_P rfl rfl rfl rfl rfl ?_ | refine st_val (v := .pointer none) rfl rfl rfl rfl rfl ?_ | refine st_off rfl rfl rfl ?_)
  simp only [EC_seq, EC_region, EC_block, EC_scope, EC_skip, EC_exit, EC_ret, EC_label, EO_nil, ED_nil, after_normal, after_exit, after_ret, leave_normal, leave_exit, leave_ret, goesOn_exit, goesOn_ret, cut_exit, cut_ret, cutx_exit, cutx_ret, reduceIte, Nat.reduceEqDiff, reduceCtorEq, Nat.one_ne_zero, Nat.zero_ne_one]
  repeat (first | refine st_ltT rfl rfl rfl rfl rfl rfl (by omega) ?_ | refine st_ltF rfl rfl rfl rfl rfl rfl (by omega) ?_ | refine st_eqT rfl rfl rfl rfl rfl rfl (by omega) ?_ | refine st_eqF rfl rfl rfl rfl rfl rfl (by omega) ?_ | refine st_neqT rfl rfl rfl rfl rfl rfl (by omega) ?_ | refine st_neq rfl rfl rfl rfl rfl rfl ?_ | refine st_add rfl rfl rfl rfl rfl rfl (by omega) ?_ | refine st_I rfl rfl rfl rfl rfl ?_ | refine st_B rfl rfl rfl rfl rfl ?_ | refine st_S rfl rfl rfl rfl rfl ?_ | refine st_P rfl rfl rfl rfl rfl ?_ | refine st_val (v := .pointer none) rfl rfl rfl rfl rfl ?_ | refine st_off rfl rfl rfl ?_)
  simp only [EC_seq, EC_region, EC_block, EC_scope, EC_skip, EC_exit, EC_ret, EC_label, EO_nil, ED_nil, after_normal, after_exit, after_ret, leave_normal, leave_exit, leave_ret, goesOn_exit, goesOn_ret, cut_exit, cut_ret, cutx_exit, cutx_ret, reduceIte, Nat.reduceEqDiff, reduceCtorEq, Nat.one_ne_zero, Nat.zero_ne_one]
  refine EC_for (α := Nat × Value × List Ent) (fun z => [(0, .pointer (some ⟨T.bt, 0, none⟩)), (5, z.2.1), (6, .int .i64 (j : Int)), (7, .int .i64 (D : Int)), (8, .int .i64 (z.1 : Int)), (11, .slice (some ⟨bb, off, none⟩) B.length cap), (12, .int .i64 (B.length : Int)), (13, .int .i64 (j : Int))])
    (fun z h' n' w => TLeft T h n h' n' w ∧ z.1 ≤ D ∧ EOk B z.2.2 j z.1 0 ∧ z.2.2.length ≤ 64 * j + 8 * z.1 ∧ Gro h' n n' 37 4 z.2.1 z.2.2.length (ents z.2.2)) (fun z => D - z.1)
    (0, .slice a5 E.length E.length, E) ⟨rfl, rfl, rfl, rfl, rfl, rfl, rfl, rfl, trivial⟩ ⟨hT1, Nat.zero_le _, hE, by show E.length ≤ 64 * j + 0; omega, hg⟩ (by show D - 0 < LL; unfold LL; omega) ?_
  rintro ⟨r, v5, E⟩ t h1 n1 w1 ⟨hT1, hr, hE, hEl, hg⟩
  simp only at hr hE hEl hg
  obtain ⟨a5, rfl, _⟩ := hg.shape
  simp only [EC_seq, EC_region, EC_block, EC_scope, EC_skip, EC_exit, EC_ret, EC_label, EO_nil, ED_nil, after_normal, after_exit, after_ret, leave_normal, leave_exit, leave_ret, goesOn_exit, goesOn_ret, cut_exit, cut_ret, cutx_exit, cutx_ret, reduceIte, Nat.reduceEqDiff, reduceCtorEq, Nat.one_ne_zero, Nat.zero_ne_one]
  by_cases hrD : r = D
  · repeat (first | refine st_ltT rfl rfl rfl rfl rfl rfl (by omega) ?_ | refine st_ltF rfl rfl rfl rfl rfl rfl (by omega) ?_ | refine st_eqT rfl rfl rfl rfl rfl rfl (by omega) ?_ | refine st_eqF rfl rfl rfl rfl rfl rfl (by omega) ?_ | refine st_neqT rfl rfl rfl rfl rfl rfl (by omega) ?_ | refine st_neq rfl rfl rfl rfl rfl rfl ?_ | refine st_add rfl rfl rfl rfl rfl rfl (by omega) ?_ | refine st_I rfl rfl rfl rfl rfl ?_ | refine st_B rfl rfl rfl rfl rfl ?_ | refine st_S rfl rfl rfl rfl rfl ?_ | refine st_P rfl rfl rfl rfl rfl ?_ | refine st_val (v := .pointer none) rfl rfl rfl rfl rfl ?_ | refine st_off rfl rfl rfl ?_)
    simp only [EC_seq, EC_region, EC_block, EC_scope, EC_skip, EC_exit, EC_ret, EC_label, EO_nil, ED_nil, after_normal, after_exit, after_ret, leave_normal, leave_exit, leave_ret, goesOn_exit, goesOn_ret, cut_exit, cut_ret, cutx_exit, cutx_ret, reduceIte, Nat.reduceEqDiff, reduceCtorEq, Nat.one_ne_zero, Nat.zero_ne_one]
    rw [EC_cond_false rfl]
    simp only [EC_seq, EC_region, EC_block, EC_scope, EC_skip, EC_exit, EC_ret, EC_label, EO_nil, ED_nil, after_normal, after_exit, after_ret, leave_normal, leave_exit, leave_ret, goesOn_exit, goesOn_ret, cut_exit, cut_ret, cutx_exit, cutx_ret, reduceIte, Nat.reduceEqDiff, reduceCtorEq, Nat.one_ne_zero, Nat.zero_ne_one]
    repeat (first | refine st_ltT rfl rfl rfl rfl rfl rfl (by omega) ?_ | refine st_ltF rfl rfl rfl rfl rfl rfl (by omega) ?_ | refine st_eqT rfl rfl rfl rfl rfl rfl (by omega) ?_ | refine st_eqF rfl rfl rfl rfl rfl rfl (by omega) ?_ | refine st_neqT rfl rfl rfl rfl rfl rfl (by omega) ?_ | refine st_neq rfl rfl rfl rfl rfl rfl ?_ | refine st_add rfl rfl rfl rfl rfl rfl (by omega) ?_ | refine st_I rfl rfl rfl rfl rfl ?_ | refine st_B rfl rfl rfl rfl rfl ?_ | refine st_S rfl rfl rfl rfl rfl ?_ | refine st_P rfl rfl rfl rfl rfl ?_ | refine st_val (v := .pointer none) rfl rfl rfl rfl rfl ?_ | refine st_off rfl rfl rfl ?_)
    simp only [EC_seq, EC_region, EC_block, EC_scope, EC_skip, EC_exit, EC_ret, EC_label, EO_nil, ED_nil, after_normal, after_exit, after_ret, leave_normal, leave_exit, leave_ret, goesOn_exit, goesOn_ret, cut_exit, cut_ret, cutx_exit, cutx_ret, reduceIte, Nat.reduceEqDiff, reduceCtorEq, Nat.one_ne_zero, Nat.zero_ne_one]
    exact goOn (j + 1, .slice a5 E.length E.length, E) (by show B.length - (j + 1) < B.length - j; omega) ⟨rfl, rfl, rfl, rfl, by show Value.int .i64 _ = Value.int .i64 _; congr 1, trivial⟩ ⟨hT1, by show j + 1 ≤ _; omega, hE.mono (.inl (by show (j : Int) < ((j + 1 : Nat) : Int); omega)), by show E.length ≤ 64 * (j + 1); omega, hg⟩
  repeat (first | refine st_ltT rfl rfl rfl rfl rfl rfl (by omega) ?_ | refine st_ltF rfl rfl rfl rfl rfl rfl (by omega) ?_ | refine st_eqT rfl rfl rfl rfl rfl rfl (by omega) ?_ | refine st_eqF rfl rfl rfl rfl rfl rfl (by omega) ?_ | refine st_neqT rfl rfl rfl rfl rfl rfl (by omega) ?_ | refine st_neq rfl rfl rfl rfl rfl rfl ?_ | refine st_add rfl rfl rfl rfl rfl rfl (by omega) ?_ | refine st_I rfl rfl rfl rfl rfl ?_ | refine st_B rfl rfl rfl rfl rfl ?_ | refine st_S rfl rfl rfl rfl rfl ?_ | refine st_P rfl rfl rfl rfl rfl ?_ | refine st_val (v := .pointer none) rfl rfl rfl rfl rfl ?_ | refine st_off rfl rfl rfl ?_)
  simp only [EC_seq, EC_region, EC_block, EC_scope, EC_skip, EC_exit, EC_ret, EC_label, EO_nil, ED_nil, after_normal, after_exit, after_ret, leave_normal, leave_exit, leave_ret, goesOn_exit, goesOn_ret, cut_exit, cut_ret, cutx_exit, cutx_ret, reduceIte, Nat.reduceEqDiff, reduceCtorEq, Nat.one_ne_zero, Nat.zero_ne_one]
  rw [EC_cond_true rfl]
  simp only [EC_seq, EC_region, EC_block, EC_scope, EC_skip, EC_exit, EC_ret, EC_label, EO_nil, ED_nil, after_normal, after_exit, after_ret, leave_normal, leave_exit, leave_ret, goesOn_exit, goesOn_ret, cut_exit, cut_ret, cutx_exit, cutx_ret, reduceIte, Nat.reduceEqDiff, reduceCtorEq, Nat.one_ne_zero, Nat.zero_ne_one]
  repeat (first | refine st_ltT rfl rfl rfl rfl rfl rfl (by omega) ?_ | refine st_ltF rfl rfl rfl rfl rfl rfl (by omega) ?_ | refine st_eqT rfl rfl rfl rfl rfl rfl (by omega) ?_ | refine st_eqF rfl rfl rfl rfl rfl rfl (by omega) ?_ | refine st_neqT rfl rfl rfl rfl rfl rfl (by omega) ?_ | refine st_neq rfl rfl rfl rfl rfl rfl ?_ | refine st_add rfl rfl rfl rfl rfl rfl (by omega) ?_ | refine st_I rfl rfl rfl rfl rfl ?_ | refine st_B rfl rfl rfl rfl rfl ?_ | refine st_S rfl rfl rfl rfl rfl ?_ | refine st_P rfl rfl rfl rfl rfl ?_ | refine st_val (v := .pointer none) rfl rfl rfl rfl rfl ?_ | refine st_off rfl rfl rfl ?_)
  simp only [EC_seq, EC_region, EC_block, EC_scope, EC_skip, EC_exit, EC_ret, EC_label, EO_nil, ED_nil, after_normal, after_exit, after_ret, leave_normal, leave_exit, leave_ret, goesOn_exit, goesOn_ret, cut_exit, cut_ret, cutx_exit, cutx_ret, reduceIte, Nat.reduceEqDiff, reduceCtorEq, Nat.one_ne_zero, Nat.zero_ne_one]
  refine EC_for (α := Nat × Value × List Ent) (fun z => [(0, .pointer (some ⟨T.bt, 0, none⟩)), (5, z.2.1), (6, .int .i64 (j : Int)), (7, .int .i64 (D : Int)), (8, .int .i64 (r : Int)), (9, .int .i64 (z.1 : Int)), (11, .slice (some ⟨bb, off, none⟩) B.length cap), (12, .int .i64 (B.length : Int)), (13, .int .i64 (j : Int))])
    (fun z h' n' w => TLeft T h n h' n' w ∧ r ≤ z.1 ∧ z.1 ≤ D ∧ EOk B z.2.2 j r z.1 ∧ z.2.2.length ≤ 64 * j + 8 * r + (z.1 - r) ∧ Gro h' n n' 37 4 z.2.1 z.2.2.length (ents z.2.2)) (fun z => D - z.1)
    (r, .slice a5 E.length E.length, E) ⟨rfl, rfl, rfl, rfl, rfl, rfl, rfl, rfl, rfl, trivial⟩ ⟨hT1, Nat.le_refl _, hr, hE.mono (.inr ⟨rfl, .inr ⟨rfl, by omega⟩⟩), by show E.length ≤ 64 * j + 8 * r + (r - r); omega, hg⟩ (by show D - r < LL; unfold LL; omega) ?_
  rintro ⟨c, v5, E⟩ t h1 n1 w1 ⟨hT1, hrc, hc8, hE, hEl, hg⟩
  simp only at hrc hc8 hE hEl hg
  obtain ⟨a5, rfl, _⟩ := hg.shape
  simp only [EC_seq, EC_region, EC_block, EC_scope, EC_skip, EC_exit, EC_ret, EC_label, EO_nil, ED_nil, after_normal, after_exit, after_ret, leave_normal, leave_exit, leave_ret, goesOn_exit, goesOn_ret, cut_exit, cut_ret, cutx_exit, cutx_ret, reduceIte, Nat.reduceEqDiff, reduceCtorEq, Nat.one_ne_zero, Nat.zero_ne_one]
  by_cases hcD : c = D
  · repeat (first | refine st_ltT rfl rfl rfl rfl rfl rfl (by omega) ?_ | refine st_ltF rfl rfl rfl rfl rfl rfl (by omega) ?_ | refine st_eqT rfl rfl rfl rfl rfl rfl (by omega) ?_ | refine st_eqF rfl rfl rfl rfl rfl rfl (by omega) ?_ | refine st_neqT rfl rfl rfl rfl rfl rfl (by omega) ?_ | refine st_neq rfl rfl rfl rfl rfl rfl ?_ | refine st_add rfl rfl rfl rfl rfl rfl (by omega) ?_ | refine st_I rfl rfl rfl rfl rfl ?_ | refine st_B rfl rfl rfl rfl rfl ?_ | refine st_S rfl rfl rfl rfl rfl ?_ | refine st_P rfl rfl rfl rfl rfl ?_ | refine st_val (v := .pointer none) rfl rfl rfl rfl rfl ?_ | refine st_off rfl rfl rfl ?_)
    simp only [EC_seq, EC_region, EC_block, EC_scope, EC_skip, EC_exit, EC_ret, EC_label, EO_nil, ED_nil, after_normal, after_exit, after_ret, leave_normal, leave_exit, leave_ret, goesOn_exit, goesOn_ret, cut_exit, cut_ret, cutx_exit, cutx_ret, reduceIte, Nat.reduceEqDiff, reduceCtorEq, Nat.one_ne_zero, Nat.zero_ne_one]
    rw [EC_cond_false rfl]
    simp only [EC_seq, EC_region, EC_block, EC_scope, EC_skip, EC_exit, EC_ret, EC_label, EO_nil, ED_nil, after_normal, after_exit, after_ret, leave_normal, leave_exit, leave_ret, goesOn_exit, goesOn_ret, cut_exit, cut_ret, cutx_exit, cutx_ret, reduceIte, Nat.reduceEqDiff, reduceCtorEq, Nat.one_ne_zero, Nat.zero_ne_one]
    repeat (first | refine st_ltT rfl rfl rfl rfl rfl rfl (by omega) ?_ | refine st_ltF rfl rfl rfl rfl rfl rfl (by omega) ?_ | refine st_eqT rfl rfl rfl rfl rfl rfl (by omega) ?_ | refine st_eqF rfl rfl rfl rfl rfl rfl (by omega) ?_ | refine st_neqT rfl rfl rfl rfl rfl rfl (by omega) ?_ | refine st_neq rfl rfl rfl rfl rfl rfl ?_ | refine st_add rfl rfl rfl rfl rfl rfl (by omega) ?_ | refine st_I rfl rfl rfl rfl rfl ?_ | refine st_B rfl rfl rfl rfl rfl ?_ | refine st_S rfl rfl rfl rfl rfl ?_ | refine st_P rfl rfl rfl rfl rfl ?_ | refine st_val (v := .pointer none) rfl rfl rfl rfl rfl ?_ | refine st_off rfl rfl rfl ?_)
    simp only [EC_seq, EC_region, EC_block, EC_scope, EC_skip, EC_exit, EC_ret, EC_label, EO_nil, ED_nil, after_normal, after_exit, after_ret, leave_normal, leave_exit, leave_ret, goesOn_exit, goesOn_ret, cut_exit, cut_ret, cutx_exit, cutx_ret, reduceIte, Nat.reduceEqDiff, reduceCtorEq, Nat.one_ne_zero, Nat.zero_ne_one]
    exact goOn (r + 1, .slice a5 E.length E.length, E) (by show D - (r + 1) < D - r; omega) ⟨rfl, rfl, rfl, rfl, by show Value.int .i64 _ = Value.int .i64 _; congr 1, rfl, rfl, rfl, trivial⟩ ⟨hT1, by show r + 1 ≤ _; omega, hE.mono (.inr ⟨rfl, .inl (by show (r : Int) < ((r + 1 : Nat) : Int); omega)⟩), by show E.length ≤ 64 * j + 8 * (r + 1); omega, hg⟩
  have hcDD : c < D := by omega
  repeat (first | refine st_ltT rfl rfl rfl rfl rfl rfl (by omega) ?_ | refine st_ltF rfl rfl rfl rfl rfl rfl (by omega) ?_ | refine st_eqT rfl rfl rfl rfl rfl rfl (by omega) ?_ | refine st_eqF rfl rfl rfl rfl rfl rfl (by omega) ?_ | refine st_neqT rfl rfl rfl rfl rfl rfl (by omega) ?_ | refine st_neq rfl rfl rfl rfl rfl rfl ?_ | refine st_add rfl rfl rfl rfl rfl rfl (by omega) ?_ | refine st_I rfl rfl rfl rfl rfl ?_ | refine st_B rfl rfl rfl rfl rfl ?_ | refine st_S rfl rfl rfl rfl rfl ?_ | refine st_P rfl rfl rfl rfl rfl ?_ | refine st_val (v := .pointer none) rfl rfl rfl rfl rfl ?_ | refine st_off rfl rfl rfl ?_)
  simp only [EC_seq, EC_region, EC_block, EC_scope, EC_skip, EC_exit, EC_ret, EC_label, EO_nil, ED_nil, after_normal, after_exit, after_ret, leave_normal, leave_exit, leave_ret, goesOn_exit, goesOn_ret, cut_exit, cut_ret, cutx_exit, cutx_ret, reduceIte, Nat.reduceEqDiff, reduceCtorEq, Nat.one_ne_zero, Nat.zero_ne_one]
  rw [EC_cond_true rfl]
  simp only [EC_skip, EO_nil, after_normal, EC_seq]
  refine EC_cutx (α := Value × List Ent) (fun z => [(0, .pointer (some ⟨T.bt, 0, none⟩)), (5, z.1), (6, .int .i64 (j : Int)), (7, .int .i64 (D : Int)), (8, .int .i64 (r : Int)), (9, .int .i64 (c : Int)), (11, .slice (some ⟨bb, off, none⟩) B.length cap), (12, .int .i64 (B.length : Int)), (13, .int .i64 (j : Int))])
    (fun z h' n' w => TLeft T h n h' n' w ∧ EOk B z.2 j r (c + 1 : Nat) ∧ z.2.length ≤ E.length + 1 ∧ Gro h' n n' 37 4 z.1 z.2.length (ents z.2)) ?_ ?_
  · simp only [EC_seq, EC_region, EC_block, EC_scope, EC_skip, EC_exit, EC_ret, EC_label, EO_nil, ED_nil, after_normal, after_exit, after_ret, leave_normal, leave_exit, leave_ret, goesOn_exit, goesOn_ret, cut_exit, cut_ret, cutx_exit, cutx_ret, reduceIte, Nat.reduceEqDiff, reduceCtorEq, Nat.one_ne_zero, Nat.zero_ne_one]
    repeat (first | refine st_ltT rfl rfl rfl rfl rfl rfl (by omega) ?_ | refine st_ltF rfl rfl rfl rfl rfl rfl (by omega) ?_ | refine st_eqT rfl rfl rfl rfl rfl rfl (by omega) ?_ | refine st_eqF rfl rfl rfl rfl rfl rfl (by omega) ?_ | refine st_neqT rfl rfl rfl rfl rfl rfl (by omega) ?_ | refine st_neq rfl rfl rfl rfl rfl rfl ?_ | refine st_add rfl rfl rfl rfl rfl rfl (by omega) ?_ | refine st_I rfl rfl rfl rfl rfl ?_ | refine st_B rfl rfl rfl rfl rfl ?_ | refine st_S rfl rfl rfl rfl rfl ?_ | refine st_P rfl rfl rfl rfl rfl ?_ | refine st_val (v := .pointer none) rfl rfl rfl rfl rfl ?_ | refine st_off rfl rfl rfl ?_)
    refine st_call _ rfl rfl rfl rfl rfl (whole_ok k (K := 2) (by omega) hT1.tp (by have := hT1.le; omega)) ?_
    rintro _ h2 n2 w2 ⟨hw2, hn2, ht2, hx2, m1, m2, ln, y, rfl, hq, hy0, hy1, hf, hln⟩
    have hn1 := hT1.le
    refine st_alloc rfl rfl rfl rfl rfl ?_
    have h1s : ones [m1, m2, .bool false, .slice none 0 0] = true := by
      rw [hq.num.neg]
      show ones (m2 :: _) = true
      rw [hq.num.sl.ones]; rfl
    refine st_storeW [m1, m2, .bool false, .slice none 0 0] rfl rfl rfl rfl rfl rfl rfl h1s (upd_same _ _ _) rfl (by show 3 * n ≤ _; omega) ?_
    rw [upd_upd]
    simp only [EC_seq, EC_region, EC_block, EC_scope, EC_skip, EC_exit, EC_ret, EC_label, EO_nil, ED_nil, after_normal, after_exit, after_ret, leave_normal, leave_exit, leave_ret, goesOn_exit, goesOn_ret, cut_exit, cut_ret, cutx_exit, cutx_ret, reduceIte, Nat.reduceEqDiff, reduceCtorEq, Nat.one_ne_zero, Nat.zero_ne_one]
    generalize hh : upd h2 (3 * n2 + 2) _ = h3
    have hx3 : Ext n2 h2 h3 := by rw [← hh]; exact Ext.upd (by omega)
    have hrow3 : ∃ e, h3 (3 * n2 + 2) = some (.row [m1, m2, .bool false, .slice none 0 0] e) := ⟨_, by rw [← hh, upd_same]⟩
    obtain ⟨e3, hrow3⟩ := hrow3
    have hq3 := hq.ext hx3 (Nat.le_succ n2)
    have ht3 := ht2.ext hx3 (by omega)
    have hg3 := (hg.extT hx2 (by omega) hn2).ext hx3 (Nat.le_succ n2)
    have hbx3 : ∀ b, b < 3 * n → b ≠ T.bt → h3 b = h b := fun b hb hne => (hx3 b (by omega)).trans ((hx2 b (by omega) hne).trans (hT1.ext b hb hne))
    have hw3 : ∀ b ∈ addW (ctx (k + 4) n (Tryz.f66).ntmps).n0 w2 w1, b = T.bt := addW_bt hw2 hT1.w
    refine st_load (v := .agg #[m1, m2, .bool false, .slice none 0 0]) rfl rfl rfl rfl rfl (loadn_eq rfl rfl hrow3 rfl (Nat.le_of_ble_eq_true rfl) rfl) ?_
    refine st_vf _ rfl rfl rfl rfl rfl (rsign_ok (k + 2) hq3) ?_
    rintro _ rfl
    rw [Rat.num_intCast]
    by_cases hy : y = 0
    · subst hy
      repeat (first | refine st_ltT rfl rfl rfl rfl rfl rfl (by omega) ?_ | refine st_ltF rfl rfl rfl rfl rfl rfl (by omega) ?_ | refine st_eqT rfl rfl rfl rfl rfl rfl (by omega) ?_ | refine st_eqF rfl rfl rfl rfl rfl rfl (by omega) ?_ | refine st_neqT rfl rfl rfl rfl rfl rfl (by omega) ?_ | refine st_neq rfl rfl rfl rfl rfl rfl ?_ | refine st_add rfl rfl rfl rfl rfl rfl (by omega) ?_ | refine st_I rfl rfl rfl rfl rfl ?_ | refine st_B rfl rfl rfl rfl rfl ?_ | refine st_S rfl rfl rfl rfl rfl ?_ | refine st_P rfl rfl rfl rfl rfl ?_ | refine st_val (v := .pointer none) rfl rfl rfl rfl rfl ?_ | refine st_off rfl rfl rfl ?_)
      simp only [EC_seq, EC_region, EC_block, EC_scope, EC_skip, EC_exit, EC_ret, EC_label, EO_nil, ED_nil, after_normal, after_exit, after_ret, leave_normal, leave_exit, leave_ret, goesOn_exit, goesOn_ret, cut_exit, cut_ret, cutx_exit, cutx_ret, reduceIte, Nat.reduceEqDiff, reduceCtorEq, Nat.one_ne_zero, Nat.zero_ne_one]
      rw [EC_cond_false rfl]
      simp only [EC_seq, EC_region, EC_block, EC_scope, EC_skip, EC_exit, EC_ret, EC_label, EO_nil, ED_nil, after_normal, after_exit, after_ret, leave_normal, leave_exit, leave_ret, goesOn_exit, goesOn_ret, cut_exit, cut_ret, cutx_exit, cutx_ret, reduceIte, Nat.reduceEqDiff, reduceCtorEq, Nat.one_ne_zero, Nat.zero_ne_one]
      exact cutx_mk (.slice a5 E.length E.length, E) ⟨rfl, rfl, rfl, rfl, rfl, rfl, rfl, rfl, rfl, trivial⟩ ⟨⟨hw3, by show n ≤ n2 + 1; omega, ht3, hbx3⟩, hE.mono (.inr ⟨rfl, .inr ⟨rfl, by omega⟩⟩), by show E.length ≤ E.length + 1; omega, hg3⟩
    have hsg : ¬ y.sign = 0 := fun e => hy (Int.sign_eq_zero_iff_zero.1 e)
    repeat (first | refine st_ltT rfl rfl rfl rfl rfl rfl (by omega) ?_ | refine st_ltF rfl rfl rfl rfl rfl rfl (by omega) ?_ | refine st_eqT rfl rfl rfl rfl rfl rfl (by omega) ?_ | refine st_eqF rfl rfl rfl rfl rfl rfl (by omega) ?_ | refine st_neqT rfl rfl rfl rfl rfl rfl (by omega) ?_ | refine st_neq rfl rfl rfl rfl rfl rfl ?_ | refine st_add rfl rfl rfl rfl rfl rfl (by omega) ?_ | refine st_I rfl rfl rfl rfl rfl ?_ | refine st_B rfl rfl rfl rfl rfl ?_ | refine st_S rfl rfl rfl rfl rfl ?_ | refine st_P rfl rfl rfl rfl rfl ?_ | refine st_val (v := .pointer none) rfl rfl rfl rfl rfl ?_ | refine st_off rfl rfl rfl ?_)
    refine st_call _ rfl rfl rfl rfl rfl (next_ok (k + 3) (m := 2) (by omega) ht3 (by omega)) ?_
    rintro _ h4 _ w4 ⟨hw4, rfl, ht4, hx4, rr, rfl, hr0, hr1⟩
    have hg4 : Gro h4 n (n2 + 1) 37 4 (.slice a5 E.length E.length) E.length (ents E) := hg3.extT (fun b hb hne => hx4 b hne) (by omega) (Nat.le_refl _)
    have hrow4 : h4 (3 * n2 + 2) = some (.row [m1, m2, .bool false, .slice none 0 0] e3) := by rw [hx4 _ (by omega)]; exact hrow3
    have hw4' := addW_bt (n0 := (ctx (k + 4) n (Tryz.f66).ntmps).n0) hw4 hw3
    by_cases hrr : rr = 0
    · repeat (first | refine st_ltT rfl rfl rfl rfl rfl rfl (by omega) ?_ | refine st_ltF rfl rfl rfl rfl rfl rfl (by omega) ?_ | refine st_eqT rfl rfl rfl rfl rfl rfl (by omega) ?_ | refine st_eqF rfl rfl rfl rfl rfl rfl (by omega) ?_ | refine st_neqT rfl rfl rfl rfl rfl rfl (by omega) ?_ | refine st_neq rfl rfl rfl rfl rfl rfl ?_ | refine st_add rfl rfl rfl rfl rfl rfl (by omega) ?_ | refine st_I rfl rfl rfl rfl rfl ?_ | refine st_B rfl rfl rfl rfl rfl ?_ | refine st_S rfl rfl rfl rfl rfl ?_ | refine st_P rfl rfl rfl rfl rfl ?_ | refine st_val (v := .pointer none) rfl rfl rfl rfl rfl ?_ | refine st_off rfl rfl rfl ?_)
      simp only [EC_seq, EC_region, EC_block, EC_scope, EC_skip, EC_exit, EC_ret, EC_label, EO_nil, ED_nil, after_normal, after_exit, after_ret, leave_normal, leave_exit, leave_ret, goesOn_exit, goesOn_ret, cut_exit, cut_ret, cutx_exit, cutx_ret, reduceIte, Nat.reduceEqDiff, reduceCtorEq, Nat.one_ne_zero, Nat.zero_ne_one]
      rw [EC_cond_true rfl]
      simp only [EC_seq, EC_region, EC_block, EC_scope, EC_skip, EC_exit, EC_ret, EC_label, EO_nil, ED_nil, after_normal, after_exit, after_ret, leave_normal, leave_exit, leave_ret, goesOn_exit, goesOn_ret, cut_exit, cut_ret, cutx_exit, cutx_ret, reduceIte, Nat.reduceEqDiff, reduceCtorEq, Nat.one_ne_zero, Nat.zero_ne_one]
      repeat (first | refine st_ltT rfl rfl rfl rfl rfl rfl (by omega) ?_ | refine st_ltF rfl rfl rfl rfl rfl rfl (by omega) ?_ | refine st_eqT rfl rfl rfl rfl rfl rfl (by omega) ?_ | refine st_eqF rfl rfl rfl rfl rfl rfl (by omega) ?_ | refine st_neqT rfl rfl rfl rfl rfl rfl (by omega) ?_ | refine st_neq rfl rfl rfl rfl rfl rfl ?_ | refine st_add rfl rfl rfl rfl rfl rfl (by omega) ?_ | refine st_I rfl rfl rfl rfl rfl ?_ | refine st_B rfl rfl rfl rfl rfl ?_ | refine st_S rfl rfl rfl rfl rfl ?_ | refine st_P rfl rfl rfl rfl rfl ?_ | refine st_val (v := .pointer none) rfl rfl rfl rfl rfl ?_ | refine st_off rfl rfl rfl ?_)
      refine st_load (v := .agg #[m1, m2, .bool false, .slice none 0 0]) rfl rfl rfl rfl rfl (loadn_eq rfl rfl hrow4 rfl (Nat.le_of_ble_eq_true rfl) rfl) ?_
      have hq4 : RatR h4 (n2 + 1) m1 m2 (.bool false) (.slice none 0 0) ((y : Int) : Rat) ln [] := by
        refine ⟨⟨hq3.num.neg, hq3.num.sl.keep (fun a l cc e => hx4 _ ?_) (Nat.le_refl _), hq3.num.norm, hq3.num.val⟩, rfl, .nil (.inl rfl), Norm.nil, hq3.val⟩
        subst e
        have hf : 3 * n1 ≤ a.block := hf
        omega
      refine st_vf _ rfl rfl rfl rfl rfl (text_ok k hq4 (by simp; omega)) ?_
      rintro _ rfl
      refine st_val (v := .agg #[.int .i64 (j : Int), .int .i64 (r : Int), .int .i64 (c : Int), .string ⟨⟨ratT ((y : Int) : Rat)⟩⟩]) rfl rfl rfl rfl rfl ?_
      refine st_mks (cs := ents [⟨j, r, c, ratT ((y : Int) : Rat)⟩]) rfl rfl rfl rfl rfl ?_
      refine st_app (m := 1) rfl rfl rfl rfl rfl rfl rfl rfl (by decide) (hg4.ext (Ext.upd (by omega)) (Nat.le_succ _)) (argS_of (upd_same _ _ _) rfl rfl) (Nat.le_refl _) (by omega) rfl rfl (by show n ≤ n ∧ _; omega) ?_
      intro v6 h6 hg6 hx6 hk6
      obtain ⟨a6, rfl, _⟩ := hg6.shape
      repeat (first | refine st_ltT rfl rfl rfl rfl rfl rfl (by omega) ?_ | refine st_ltF rfl rfl rfl rfl rfl rfl (by omega) ?_ | refine st_eqT rfl rfl rfl rfl rfl rfl (by omega) ?_ | refine st_eqF rfl rfl rfl rfl rfl rfl (by omega) ?_ | refine st_neqT rfl rfl rfl rfl rfl rfl (by omega) ?_ | refine st_neq rfl rfl rfl rfl rfl rfl ?_ | refine st_add rfl rfl rfl rfl rfl rfl (by omega) ?_ | refine st_I rfl rfl rfl rfl rfl ?_ | refine st_B rfl rfl rfl rfl rfl ?_ | refine st_S rfl rfl rfl rfl rfl ?_ | refine st_P rfl rfl rfl rfl rfl ?_ | refine st_val (v := .pointer none) rfl rfl rfl rfl rfl ?_ | refine st_off rfl rfl rfl ?_)
      simp only [EC_seq, EC_region, EC_block, EC_scope, EC_skip, EC_exit, EC_ret, EC_label, EO_nil, ED_nil, after_normal, after_exit, after_ret, leave_normal, leave_exit, leave_ret, goesOn_exit, goesOn_ret, cut_exit, cut_ret, cutx_exit, cutx_ret, reduceIte, Nat.reduceEqDiff, reduceCtorEq, Nat.one_ne_zero, Nat.zero_ne_one]
      refine cutx_mk (.slice a6 (E.length + 1) (E.length + 1), E ++ [⟨j, r, c, ratT ((y : Int) : Rat)⟩]) ⟨rfl, rfl, rfl, rfl, rfl, rfl, rfl, rfl, rfl, trivial⟩ ⟨⟨hw4', by show n ≤ n2 + 1 + 1 + 1; omega, (ht4.upd (by omega)).ext hx6 (by omega), fun b hb hne => ?_⟩, ?_, by show (E ++ [_]).length ≤ E.length + 1; simp, ?_⟩
      · exact (hx6 b hb).trans ((upd_ne (by omega)).trans ((hx4 b hne).trans (hbx3 b hb hne)))
      · refine EOk.snoc (e := ⟨j, r, c, ratT ((y : Int) : Rat)⟩) hE ⟨by simp only; omega, by simp only; omega, fun d' hd' => ?_, y, hy0, hy1, hy, rfl⟩
        simp only [Int.toNat_natCast] at hd' ⊢
        rw [hd] at hd'
        injection hd' with hd'
        omega
      · show Gro _ _ _ _ _ _ (E ++ [_]).length (ents (E ++ [_]))
        rw [ents_append, List.length_append]
        exact hg6
    · repeat (first | refine st_ltT rfl rfl rfl rfl rfl rfl (by omega) ?_ | refine st_ltF rfl rfl rfl rfl rfl rfl (by omega) ?_ | refine st_eqT rfl rfl rfl rfl rfl rfl (by omega) ?_ | refine st_eqF rfl rfl rfl rfl rfl rfl (by omega) ?_ | refine st_neqT rfl rfl rfl rfl rfl rfl (by omega) ?_ | refine st_neq rfl rfl rfl rfl rfl rfl ?_ | refine st_add rfl rfl rfl rfl rfl rfl (by omega) ?_ | refine st_I rfl rfl rfl rfl rfl ?_ | refine st_B rfl rfl rfl rfl rfl ?_ | refine st_S rfl rfl rfl rfl rfl ?_ | refine st_P rfl rfl rfl rfl rfl ?_ | refine st_val (v := .pointer none) rfl rfl rfl rfl rfl ?_ | refine st_off rfl rfl rfl ?_)
      simp only [EC_seq, EC_region, EC_block, EC_scope, EC_skip, EC_exit, EC_ret, EC_label, EO_nil, ED_nil, after_normal, after_exit, after_ret, leave_normal, leave_exit, leave_ret, goesOn_exit, goesOn_ret, cut_exit, cut_ret, cutx_exit, cutx_ret, reduceIte, Nat.reduceEqDiff, reduceCtorEq, Nat.one_ne_zero, Nat.zero_ne_one]
      rw [EC_cond_false rfl]
      simp only [EC_seq, EC_region, EC_block, EC_scope, EC_skip, EC_exit, EC_ret, EC_label, EO_nil, ED_nil, after_normal, after_exit, after_ret, leave_normal, leave_exit, leave_ret, goesOn_exit, goesOn_ret, cut_exit, cut_ret, cutx_exit, cutx_ret, reduceIte, Nat.reduceEqDiff, reduceCtorEq, Nat.one_ne_zero, Nat.zero_ne_one]
      exact cutx_mk (.slice a5 E.length E.length, E) ⟨rfl, rfl, rfl, rfl, rfl, rfl, rfl, rfl, rfl, trivial⟩ ⟨⟨hw4', by show n ≤ n2 + 1; omega, ht4, fun b hb hne => (hx4 b hne).trans (hbx3 b hb hne)⟩, hE.mono (.inr ⟨rfl, .inr ⟨rfl, by omega⟩⟩), by show E.length ≤ E.length + 1; omega, hg4⟩
  · rintro ⟨v7, E7⟩ t h7 n7 w7 ⟨hT7, hE7, hEl7, hg7⟩
    simp only at hE7 hEl7 hg7
    obtain ⟨a7, rfl, _⟩ := hg7.shape
    simp only [EC_seq, EC_region, EC_block, EC_scope, EC_skip, EC_exit, EC_ret, EC_label, EO_nil, ED_nil, after_normal, after_exit, after_ret, leave_normal, leave_exit, leave_ret, goesOn_exit, goesOn_ret, cut_exit, cut_ret, cutx_exit, cutx_ret, reduceIte, Nat.reduceEqDiff, reduceCtorEq, Nat.one_ne_zero, Nat.zero_ne_one]
    repeat (first | refine st_ltT rfl rfl rfl rfl rfl rfl (by omega) ?_ | refine st_ltF rfl rfl rfl rfl rfl rfl (by omega) ?_ | refine st_eqT rfl rfl rfl rfl rfl rfl (by omega) ?_ | refine st_eqF rfl rfl rfl rfl rfl rfl (by omega) ?_ | refine st_neqT rfl rfl rfl rfl rfl rfl (by omega) ?_ | refine st_neq rfl rfl rfl rfl rfl rfl ?_ | refine st_add rfl rfl rfl rfl rfl rfl (by omega) ?_ | refine st_I rfl rfl rfl rfl rfl ?_ | refine st_B rfl rfl rfl rfl rfl ?_ | refine st_S rfl rfl rfl rfl rfl ?_ | refine st_P rfl rfl rfl rfl rfl ?_ | refine st_val (v := .pointer none) rfl rfl rfl rfl rfl ?_ | refine st_off rfl rfl rfl ?_)
    simp only [EC_seq, EC_region, EC_block, EC_scope, EC_skip, EC_exit, EC_ret, EC_label, EO_nil, ED_nil, after_normal, after_exit, after_ret, leave_normal, leave_exit, leave_ret, goesOn_exit, goesOn_ret, cut_exit, cut_ret, cutx_exit, cutx_ret, reduceIte, Nat.reduceEqDiff, reduceCtorEq, Nat.one_ne_zero, Nat.zero_ne_one]
    exact goOn (c + 1, .slice a7 E7.length E7.length, E7) (by show D - (c + 1) < D - c; omega) ⟨rfl, rfl, rfl, rfl, rfl, by show Value.int .i64 _ = Value.int .i64 _; congr 1, rfl, rfl, rfl, trivial⟩ ⟨hT7, by show r ≤ c + 1; omega, by show c + 1 ≤ D; omega, hE7, by show E7.length ≤ 64 * j + 8 * r + (c + 1 - r); omega, hg7⟩
end Go.Proofs.YtokfihhdllmbmaaGreatDoor
namespace Go.Proofs.YtokfihhdllmbmaaGreatDoor
open Go Go.GL
/-! Package sosoptscene: Program. -/
theorem okLoads_mask {m : Nat} {W : List Nat} : ∀ {l : List (Nat × Nat)}, allAl m l = true → okLoads m W l = true := by
  intro l
  induction l with
  | nil => intro _; rfl
  | cons x l ih =>
    intro h
    obtain ⟨i, b⟩ := x
    unfold allAl at h
    split at h
    · rename_i hb
      unfold okLoads
      rw [hb, Bool.true_or]
      exact ih h
    · cases h
theorem memN_bt {b bt : Nat} : ∀ {W : List Nat}, (∀ c ∈ W, c = bt) → b ≠ bt → memN b W = false := by
  intro W
  induction W with
  | nil => intro _ _; rfl
  | cons c W ih =>
    intro h hb
    unfold memN
    have hc := h c (by simp)
    have : Nat.beq b c = false := by
      cases he : Nat.beq b c with
      | false => rfl
      | true => exact absurd ((Nat.eq_of_beq_eq_true he).trans hc) hb
    rw [this]
    exact ih (fun x hx => h x (by simp [hx])) hb
theorem okLoads_bt {m bt : Nat} {W : List Nat} (hW : ∀ c ∈ W, c = bt) : ∀ {l : List (Nat × Nat)}, (∀ x ∈ l, x.2 ≠ bt) → okLoads m W l = true := by
  intro l
  induction l with
  | nil => intro _; rfl
  | cons x l ih =>
    intro h
    obtain ⟨i, b⟩ := x
    unfold okLoads
    rw [memN_bt hW (h (i, b) (by simp)), Bool.not_false, Bool.or_true]
    exact ih fun y hy => h y (by simp [hy])
theorem okEffsF_bt {u b bt : Nat} (hb : b ≠ bt) : ∀ {l : List (Nat × HF × List Nat)}, (∀ x ∈ l, ∀ c ∈ x.2.2, c = bt) → okEffsF u b l = true := by
  intro l
  induction l with
  | nil => intro _; rfl
  | cons x l ih =>
    intro h
    obtain ⟨e, g, W⟩ := x
    unfold okEffsF
    rw [memN_bt (h (e, g, W) (by simp)) hb, Bool.not_false, Bool.or_true]
    exact ih fun y hy => h y (by simp [hy])
section
variable {X : CtxF} {ops r : List Oper} {ms : List Nat} {i m : Nat} {t : TF} {h : HF} {n : Nat} {w : List Nat} {al ld : List (Nat × Nat)} {ef : List (Nat × HF × List Nat)} {Q : SV → Prop} {o : Oper} {d : Tmp}
theorem dr_app {xT sT e : TypeId} {s x : Operand} {lo len size bytes mm : Nat} {z : Value} {c new : List Value} (hw : wantsF ops t o = true) (hd : o.dst = some d) (hn : dstOk X.nt (some d) = true) (ho : o.op = .call { callee := .builtin .append, args := #[s, x], argTypes := #[sT, xT] }) (hxT : (match X.E.und xT with | some (.int _) => false | none => false | _ => true) = true)
    (hu : X.E.und sT = some (.slice e)) (hi : X.E.inf e = some (size, bytes, z)) (hz : (vcells z).length = size) (h1 : 1 ≤ size ∧ 1 ≤ bytes) (g1 : allEfF m ef = true) (g2 : allAl m al = true) (g3 : allAl m ld = true) (hg : Gro h lo n e size (evF t s) len c) (hx : argS h size (evF t x) mm new) (hm : 1 ≤ mm) (hb : (len + mm) * bytes ≤ 1099511627776) (hl : new.length = mm * size) (hon : ones new = true) (hlo : X.n0 ≤ lo ∧ lo ≤ n)
    (k : ∀ v' h' W, Gro h' lo (n + 1) e size v' (len + mm) (c ++ new) → Ext lo h h' → Keep (evF t s) n h h' → Fresh n v' → ED X ops r ms (i + 1) ⟨⟨upd t d v', h', n + 1, w⟩, al, ld, (i, h, W) :: ef⟩ Q) : ED X ops (o :: r) (m :: ms) i ⟨⟨t, h, n, w⟩, al, ld, ef⟩ Q := by
  obtain ⟨v', h', W, h2, h3, h4, h6, h5, h7⟩ := append_Gro hu hi hz h1 hg hx hm hb hl hon hlo.2
  refine dr_append hw hd hn ho hxT h2 g1 g2 (okLoads_mask g3) (Nat.le_succ _) ?_
  rw [addW_big fun b hb => by have := h5 b hb; omega]
  exact k v' h' W h3 h4 h6 h7
/-- A call that writes the tape alone. -/
theorem dr_tape {f : FuncId} {args : List Value} {bt : Nat} (P : Value → HF → Nat → List Nat → Prop) (hw : wantsF ops t o = true) (hd : o.dst = some d) (hn : dstOk X.nt (some d) = true) (hc : cls o.op = 3) (he : effF X.E o.op (evF t) h n = some (.enter f args)) (h1 : allEfF m ef = true) (h2 : allAl m al = true) (hcall : CF X.C f args h n P) (hP : ∀ v h' n' W, P v h' n' W → (∀ b ∈ W, b = bt) ∧ n ≤ n') (hld : ∀ x ∈ ld, x.2 ≠ bt)
    (k : ∀ v h' n' W, P v h' n' W → ED X ops r ms (i + 1) ⟨⟨upd t d v, h', n', addW X.n0 W w⟩, al, ld, (i, h, W) :: ef⟩ Q) : ED X ops (o :: r) (m :: ms) i ⟨⟨t, h, n, w⟩, al, ld, ef⟩ Q :=
  dr_call P hw hd hn hc he h1 h2 hcall fun v h' n' W hp => ⟨okLoads_bt (hP v h' n' W hp).1 hld, (hP v h' n' W hp).2, k v h' n' W hp⟩
end

/-! Semidefinite programs as data. -/
structure Eqn where
  es : List Ent
  fr : List (List UInt8)
  rhs : List UInt8
structure Sdp where
  blocks : List Int
  free : Nat
  obj : List Ent
  objFree : List (List UInt8)
  eqs : List Eqn
inductive EqR (h : HF) (n : Nat) : List Value → List Eqn → Prop
  | nil : EqR h n [] []
  | cons {ve vf : Value} {q : Eqn} {cs : List Value} {qs : List Eqn} (h1 : Sl h n 4 ve (ents q.es)) (h2 : Sl h n 1 vf (strs q.fr)) (h3 : EqR h n cs qs) : EqR h n (ve :: vf :: .string ⟨⟨q.rhs⟩⟩ :: cs) (q :: qs)
theorem EqR.mapS {h h' : HF} {n n' : Nat} {cs : List Value} {qs : List Eqn} (e : EqR h n cs qs) (hS : ∀ v ∈ cs, ∀ sz c, Sl h n sz v c → Sl h' n' sz v c) : EqR h' n' cs qs := by
  induction e with
  | nil => exact .nil
  | cons h1 h2 h3 ih => exact .cons (hS _ (by simp) _ _ h1) (hS _ (by simp) _ _ h2) (ih fun v hv => hS v (by simp [hv]))
theorem EqR.ext {h h' : HF} {n n' : Nat} {cs : List Value} {qs : List Eqn} (e : EqR h n cs qs) (hx : Ext n h h') (hn : n ≤ n') : EqR h' n' cs qs := e.mapS fun _ _ _ _ s => s.ext hx hn
/-- Where slices point to. -/
def Pt (φ : Nat → Prop) (v : Value) : Prop := ∀ a l c, v = .slice (some a) l c → φ a.block
theorem Pt.of_fresh {n : Nat} {v : Value} (h : Fresh n v) : Pt (fun b => 3 * n ≤ b) v := fun a l c e => by subst e; exact h
theorem Pt.of_below {n : Nat} {v : Value} (h : Below n v) : Pt (fun b => b < 3 * n) v := fun a l c e => by subst e; exact h
theorem EqR.belows {h : HF} {n : Nat} {cs : List Value} {qs : List Eqn} (e : EqR h n cs qs) : ∀ v ∈ cs, Pt (fun b => b < 3 * n) v := by
  induction e with
  | nil => intro v hv; cases hv
  | cons h1 h2 h3 ih =>
    intro v hv
    simp only [List.mem_cons] at hv
    rcases hv with rfl | rfl | rfl | hv
    · exact Pt.of_below h1.below
    · exact Pt.of_below h2.below
    · exact fun a l c e => by cases e
    · exact ih v hv
theorem EqR.len {h : HF} {n : Nat} {cs : List Value} {qs : List Eqn} (e : EqR h n cs qs) : cs.length = qs.length * 3 := by
  induction e with
  | nil => rfl
  | cons h1 h2 h3 ih => simp [ih]; omega
theorem EqR.snoc {h : HF} {n : Nat} {cs : List Value} {qs : List Eqn} {ve vf : Value} {q : Eqn} (e : EqR h n cs qs) (h1 : Sl h n 4 ve (ents q.es)) (h2 : Sl h n 1 vf (strs q.fr)) : EqR h n (cs ++ [ve, vf, .string ⟨⟨q.rhs⟩⟩]) (qs ++ [q]) := by
  induction e with
  | nil => exact .cons h1 h2 .nil
  | cons g1 g2 g3 ih => exact .cons g1 g2 ih
/-- The five cells of a program. -/
structure SdpR (h : HF) (n : Nat) (vB vO vF vE : Value) (p : Sdp) : Prop where
  blocks : Sl h n 1 vB (i64s p.blocks)
  obj : Sl h n 4 vO (ents p.obj)
  objFree : Sl h n 1 vF (strs p.objFree)
  eqs : ∃ ce, Sl h n 3 vE ce ∧ EqR h n ce p.eqs
/-- A program as the scene makes it. -/
structure SdpOk (F least : Nat) (p : Sdp) : Prop where
  bl : 1 ≤ p.blocks.length ∧ p.blocks.length ≤ 2
  b3 : ∀ d ∈ p.blocks, 1 ≤ d ∧ d ≤ 3
  free : p.free ≤ F
  obj : EOk p.blocks p.obj p.blocks.length 0 0
  objl : p.obj.length ≤ 256
  ofl : p.objFree.length = p.free
  ofs : ∀ s ∈ p.objFree, SmallS 2 s
  eql : least ≤ p.eqs.length ∧ p.eqs.length ≤ 4
  eqo : ∀ q ∈ p.eqs, EOk p.blocks q.es p.blocks.length 0 0 ∧ q.es.length ≤ 256 ∧ q.fr.length = p.free ∧ (∀ s ∈ q.fr, SmallS 2 s) ∧ SmallS 4 q.rhs
set_option maxHeartbeats 4000000
theorem program_ok (k : Nat) {h : HF} {n : Nat} {T : TapeI} {F least : Nat} (hF : F ≤ 100 ∧ least ≤ 4) (ht : Tp h T) (hn : T.m ≤ n) : CF (cal (k + 6)) 18 [.pointer (some ⟨T.bt, 0, none⟩), .int .i64 (F : Int), .int .i64 (least : Int)] h n fun v h' n' w => TLeft T h n h' n' w ∧ ∃ p vB vO vF vE, v = .agg #[vB, .int .i64 (p.free : Int), vO, vF, vE] ∧ SdpR h' n' vB vO vF vE p ∧ SdpOk F least p ∧ Fresh n vB ∧ Fresh n vO ∧ Fresh n vF ∧ Fresh n vE := by
  have hbt := ht.bt
  refine CF_heap (fn := Tryz.f18) rfl rfl rfl rfl ?_
  simp only [EC_seq, EC_region, EC_block, EC_scope, EC_skip, EC_exit, EC_ret, EC_label, EO_nil, ED_nil, after_normal, after_exit, after_ret, leave_normal, leave_exit, leave_ret, goesOn_exit, goesOn_ret, cut_exit, cut_ret, cutx_exit, cutx_ret, reduceIte, Nat.reduceEqDiff, reduceCtorEq, Nat.one_ne_zero, Nat.zero_ne_one]
  refine st_alloc rfl rfl rfl rfl rfl ?_
  simp only [EC_seq, EC_region, EC_block, EC_scope, EC_skip, EC_exit, EC_ret, EC_label, EO_nil, ED_nil, after_normal, after_exit, after_ret, leave_normal, leave_exit, leave_ret, goesOn_exit, goesOn_ret, cut_exit, cut_ret, cutx_exit, cutx_ret, reduceIte, Nat.reduceEqDiff, reduceCtorEq, Nat.one_ne_zero, Nat.zero_ne_one]
  repeat (first | refine st_gtT rfl rfl rfl rfl rfl rfl (by omega) ?_ | refine st_gtF rfl rfl rfl rfl rfl rfl (by omega) ?_ | refine st_add rfl rfl rfl rfl rfl rfl (by omega) ?_ | refine st_sub rfl rfl rfl rfl rfl rfl (by omega) ?_ | refine st_I rfl rfl rfl rfl rfl ?_ | refine st_P rfl rfl rfl rfl rfl ?_ | refine st_val (v := .pointer none) rfl rfl rfl rfl rfl ?_)
  refine st_call _ rfl rfl rfl rfl rfl (next_ok (k + 4) (by omega) (ht.upd (by omega)) (by omega)) ?_
  rintro _ h1 _ w1 ⟨hw1, rfl, ht1, hx1, fr, rfl, hf0, hf1⟩
  obtain ⟨f, rfl⟩ : ∃ f : Nat, fr = (f : Int) := ⟨fr.toNat, by omega⟩
  refine st_val (v := .agg #[.slice none 0 0, .int .i64 (f : Int), .slice none 0 0, .slice none 0 0, .slice none 0 0]) rfl rfl rfl rfl rfl ?_
  refine st_alloc rfl rfl rfl rfl rfl ?_
  refine st_storeW [.slice none 0 0, .int .i64 (f : Int), .slice none 0 0, .slice none 0 0, .slice none 0 0] rfl rfl rfl rfl rfl rfl rfl rfl (upd_same _ _ _) rfl (by show 3 * n ≤ _; omega) ?_
  rw [upd_upd]
  simp only [EC_seq, EC_region, EC_block, EC_scope, EC_skip, EC_exit, EC_ret, EC_label, EO_nil, ED_nil, after_normal, after_exit, after_ret, leave_normal, leave_exit, leave_ret, goesOn_exit, goesOn_ret, cut_exit, cut_ret, cutx_exit, cutx_ret, reduceIte, Nat.reduceEqDiff, reduceCtorEq, Nat.one_ne_zero, Nat.zero_ne_one]
  repeat (first | refine st_gtT rfl rfl rfl rfl rfl rfl (by omega) ?_ | refine st_gtF rfl rfl rfl rfl rfl rfl (by omega) ?_ | refine st_add rfl rfl rfl rfl rfl rfl (by omega) ?_ | refine st_sub rfl rfl rfl rfl rfl rfl (by omega) ?_ | refine st_I rfl rfl rfl rfl rfl ?_ | refine st_P rfl rfl rfl rfl rfl ?_ | refine st_val (v := .pointer none) rfl rfl rfl rfl rfl ?_)
  generalize hh : upd h1 (3 * (n + 1) + 2) _ = h2
  have hp2 : ∃ e, h2 (3 * (n + 1) + 2) = some (.row [.slice none 0 0, .int .i64 (f : Int), .slice none 0 0, .slice none 0 0, .slice none 0 0] e) := ⟨_, by rw [← hh, upd_same]⟩
  have hr2 : ∃ e, h2 (3 * n + 2) = some (.row [.slice none 0 0, .int .i64 0, .slice none 0 0, .slice none 0 0, .slice none 0 0] e) := ⟨_, by rw [← hh, upd_ne (by omega), hx1 _ (by omega), upd_same]; rfl⟩
  have hx2 : ExtT n T.bt h h2 := fun b hb hne => by rw [← hh, upd_ne (by omega), hx1 b hne, upd_ne (by omega)]
  have ht2 : Tp h2 T := by rw [← hh]; exact ht1.upd (by omega)
  refine st_call _ rfl rfl rfl rfl rfl (next_ok (k + 4) (m := 2) (by omega) ht2 (by omega)) ?_
  rintro _ h3 _ w3 ⟨hw3, rfl, ht3, hx3, i0, rfl, hi0, hi1⟩
  obtain ⟨i0, rfl⟩ : ∃ f : Nat, i0 = (f : Int) := ⟨i0.toNat, by omega⟩
  repeat (first | refine st_gtT rfl rfl rfl rfl rfl rfl (by omega) ?_ | refine st_gtF rfl rfl rfl rfl rfl rfl (by omega) ?_ | refine st_add rfl rfl rfl rfl rfl rfl (by omega) ?_ | refine st_sub rfl rfl rfl rfl rfl rfl (by omega) ?_ | refine st_I rfl rfl rfl rfl rfl ?_ | refine st_P rfl rfl rfl rfl rfl ?_ | refine st_val (v := .pointer none) rfl rfl rfl rfl rfl ?_)
  simp only [EC_seq, EC_region, EC_block, EC_scope, EC_skip, EC_exit, EC_ret, EC_label, EO_nil, ED_nil, after_normal, after_exit, after_ret, leave_normal, leave_exit, leave_ret, goesOn_exit, goesOn_ret, cut_exit, cut_ret, cutx_exit, cutx_ret, reduceIte, Nat.reduceEqDiff, reduceCtorEq, Nat.one_ne_zero, Nat.zero_ne_one]
  have hW3 := addW_bt (n0 := (ctx (k + 5) n (Tryz.f18).ntmps).n0) hw3 (addW_bt (n0 := (ctx (k + 5) n (Tryz.f18).ntmps).n0) (w := []) hw1 (fun b hb => absurd hb List.not_mem_nil))
  have hp3 : ∃ e, h3 (3 * (n + 1) + 2) = some (.row [.slice none 0 0, .int .i64 (f : Int), .slice none 0 0, .slice none 0 0, .slice none 0 0] e) := by rw [hx3 _ (by omega)]; exact hp2
  have hr3 : ∃ e, h3 (3 * n + 2) = some (.row [.slice none 0 0, .int .i64 0, .slice none 0 0, .slice none 0 0, .slice none 0 0] e) := by rw [hx3 _ (by omega)]; exact hr2
  have hx3' : ExtT n T.bt h h3 := fun b hb hne => (hx3 b hne).trans (hx2 b hb hne)
  refine EC_for (α := Nat × Value × List Int) (fun z => [(0, .pointer (some ⟨T.bt, 0, none⟩)), (2, .int .i64 (least : Int)), (6, .pointer (some ⟨3 * n + 2, 0, none⟩)), (7, .pointer (some ⟨3 * (n + 1) + 2, 0, none⟩)), (8, .int .i64 (z.1 : Int))])
    (fun z h' n' w => (∀ b ∈ w, b = T.bt) ∧ n + 2 ≤ n' ∧ Tp h' T ∧ ExtT n T.bt h h' ∧ (∃ e, h' (3 * n + 2) = some (.row [.slice none 0 0, .int .i64 0, .slice none 0 0, .slice none 0 0, .slice none 0 0] e)) ∧ (∃ e, h' (3 * (n + 1) + 2) = some (.row [z.2.1, .int .i64 (f : Int), .slice none 0 0, .slice none 0 0, .slice none 0 0] e)) ∧ z.1 + z.2.2.length = i0 + 1 ∧ (∀ d ∈ z.2.2, 1 ≤ d ∧ d ≤ 3) ∧ Gro h' (n + 2) n' 3 1 z.2.1 z.2.2.length (i64s z.2.2)) (fun z => z.1)
    (i0 + 1, .slice none 0 0, []) ⟨rfl, rfl, rfl, rfl, by show Value.int .i64 _ = Value.int .i64 _; congr 1; omega, trivial⟩ ⟨hW3, Nat.le_refl _, ht3, hx3', hr3, hp3, rfl, fun d hd => absurd hd List.not_mem_nil, .nil⟩ (by show i0 + 1 < LL; unfold LL; omega) ?_
  rintro ⟨i, vB, B⟩ t h4 n4 w4 ⟨hw4, hn4, ht4, hx4, hr4, ⟨e4, hp4⟩, hiB, hB3, hgB⟩
  simp only at hp4 hiB hB3 hgB
  obtain ⟨aB, rfl, _⟩ := hgB.shape
  simp only [EC_seq, EC_region, EC_block, EC_scope, EC_skip, EC_exit, EC_ret, EC_label, EO_nil, ED_nil, after_normal, after_exit, after_ret, leave_normal, leave_exit, leave_ret, goesOn_exit, goesOn_ret, cut_exit, cut_ret, cutx_exit, cutx_ret, reduceIte, Nat.reduceEqDiff, reduceCtorEq, Nat.one_ne_zero, Nat.zero_ne_one]
  cases i with
  | succ i =>
    repeat (first | refine st_gtT rfl rfl rfl rfl rfl rfl (by omega) ?_ | refine st_gtF rfl rfl rfl rfl rfl rfl (by omega) ?_ | refine st_add rfl rfl rfl rfl rfl rfl (by omega) ?_ | refine st_sub rfl rfl rfl rfl rfl rfl (by omega) ?_ | refine st_I rfl rfl rfl rfl rfl ?_ | refine st_P rfl rfl rfl rfl rfl ?_ | refine st_val (v := .pointer none) rfl rfl rfl rfl rfl ?_)
    simp only [EC_seq, EC_region, EC_block, EC_scope, EC_skip, EC_exit, EC_ret, EC_label, EO_nil, ED_nil, after_normal, after_exit, after_ret, leave_normal, leave_exit, leave_ret, goesOn_exit, goesOn_ret, cut_exit, cut_ret, cutx_exit, cutx_ret, reduceIte, Nat.reduceEqDiff, reduceCtorEq, Nat.one_ne_zero, Nat.zero_ne_one]
    rw [EC_cond_true rfl]
    simp only [EC_seq, EC_region, EC_block, EC_scope, EC_skip, EC_exit, EC_ret, EC_label, EO_nil, ED_nil, after_normal, after_exit, after_ret, leave_normal, leave_exit, leave_ret, goesOn_exit, goesOn_ret, cut_exit, cut_ret, cutx_exit, cutx_ret, reduceIte, Nat.reduceEqDiff, reduceCtorEq, Nat.one_ne_zero, Nat.zero_ne_one]
    refine EC_draw [0, 1, 0, 4, 12, 28, 63, 127, 255] rfl ?_
    repeat (first | refine dr_add rfl rfl rfl rfl rfl rfl (by omega) ?_ | refine dr_P rfl rfl rfl rfl rfl ?_)
    refine dr_load rfl rfl rfl rfl rfl rfl (load1_eq rfl hp4 rfl rfl) rfl rfl ?_
    repeat (first | refine dr_add rfl rfl rfl rfl rfl rfl (by omega) ?_ | refine dr_P rfl rfl rfl rfl rfl ?_)
    refine dr_tape (bt := T.bt) _ rfl rfl rfl rfl rfl rfl rfl (next_ok (k + 4) (m := 3) (by omega) ht4 (by omega)) (fun v h' n' W hp => ⟨hp.1, by rw [hp.2.1]; exact Nat.le_refl _⟩) (by simp; omega) ?_
    rintro _ h5 n4 w5 ⟨hw5, rfl, ht5, hx5, rr, rfl, hr0, hr1⟩
    repeat (first | refine dr_add rfl rfl rfl rfl rfl rfl (by omega) ?_ | refine dr_P rfl rfl rfl rfl rfl ?_)
    refine dr_mks (cs := i64s [1 + rr]) rfl rfl rfl rfl rfl ?_
    refine dr_app (mm := 1) rfl rfl rfl rfl rfl rfl rfl rfl (by decide) rfl rfl rfl ((hgB.extT (fun b hb hne => hx5 b hne) (by omega) (Nat.le_refl _)).ext (Ext.upd (by omega)) (Nat.le_succ _)) (argS_of (upd_same _ _ _) rfl rfl) (Nat.le_refl _) (by omega) rfl rfl (by show n ≤ n + 2 ∧ _; omega) ?_
    intro v6 h6 W6 hg6 hx6 hk6 hf6
    obtain ⟨a6, rfl, _⟩ := hg6.shape
    repeat (first | refine dr_add rfl rfl rfl rfl rfl rfl (by omega) ?_ | refine dr_P rfl rfl rfl rfl rfl ?_)
    have hp6 : h6 (3 * (n + 1) + 2) = some (.row [.slice aB B.length B.length, .int .i64 (f : Int), .slice none 0 0, .slice none 0 0, .slice none 0 0] e4) := by rw [hx6 _ (by omega), upd_ne (by omega), hx5 _ (by omega)]; exact hp4
    refine dr_storeN (cs := [.slice a6 (B.length + 1) (B.length + 1)]) rfl rfl rfl rfl rfl rfl rfl rfl hp6 (Nat.le_of_ble_eq_true rfl) (by show 3 * n ≤ _; omega) rfl rfl rfl ?_
    simp only [EC_seq, EC_region, EC_block, EC_scope, EC_skip, EC_exit, EC_ret, EC_label, EO_nil, ED_nil, after_normal, after_exit, after_ret, leave_normal, leave_exit, leave_ret, goesOn_exit, goesOn_ret, cut_exit, cut_ret, cutx_exit, cutx_ret, reduceIte, Nat.reduceEqDiff, reduceCtorEq, Nat.one_ne_zero, Nat.zero_ne_one]
    repeat (first | refine st_gtT rfl rfl rfl rfl rfl rfl (by omega) ?_ | refine st_gtF rfl rfl rfl rfl rfl rfl (by omega) ?_ | refine st_add rfl rfl rfl rfl rfl rfl (by omega) ?_ | refine st_sub rfl rfl rfl rfl rfl rfl (by omega) ?_ | refine st_I rfl rfl rfl rfl rfl ?_ | refine st_P rfl rfl rfl rfl rfl ?_ | refine st_val (v := .pointer none) rfl rfl rfl rfl rfl ?_)
    simp only [EC_seq, EC_region, EC_block, EC_scope, EC_skip, EC_exit, EC_ret, EC_label, EO_nil, ED_nil, after_normal, after_exit, after_ret, leave_normal, leave_exit, leave_ret, goesOn_exit, goesOn_ret, cut_exit, cut_ret, cutx_exit, cutx_ret, reduceIte, Nat.reduceEqDiff, reduceCtorEq, Nat.one_ne_zero, Nat.zero_ne_one]
    refine goOn (i, .slice a6 (B.length + 1) (B.length + 1), B ++ [1 + rr]) (by show i < i + 1; omega) ⟨rfl, rfl, rfl, rfl, by show Value.int .i64 _ = Value.int .i64 _; congr 1; omega, trivial⟩ ⟨addW_bt hw5 hw4, by show n + 2 ≤ n4 + 1 + 1; omega, ?_, ?_, ?_, ⟨e4, upd_same _ _ _⟩, by show i + (B ++ [_]).length = _; simp; omega, ?_, ?_⟩
    · exact ((ht5.upd (by omega)).ext hx6 (by omega)).upd (by omega)
    · exact fun b hb hne => (upd_ne (by omega)).trans ((hx6 b (by omega)).trans ((upd_ne (by omega)).trans ((hx5 b hne).trans (hx4 b hb hne))))
    · obtain ⟨e, he⟩ := hr4
      exact ⟨e, (upd_ne (by omega)).trans ((hx6 _ (by omega)).trans ((upd_ne (by omega)).trans ((hx5 _ (by omega)).trans he)))⟩
    · intro d hd
      rcases List.mem_append.1 hd with hd | hd
      · exact hB3 d hd
      · simp at hd; subst hd; omega
    · show Gro (upd h6 _ _) _ _ _ _ _ (B ++ [_]).length (i64s (B ++ [_]))
      have : i64s (B ++ [1 + rr]) = i64s B ++ i64s [1 + rr] := by simp [i64s]
      rw [this, List.length_append]
      exact hg6.extT (bt := 3 * (n + 1) + 2) (fun b hb hne => upd_ne hne) (by omega) (Nat.le_refl _)
  | zero =>
    have hbl : B.length = i0 + 1 := by omega
    repeat (first | refine st_gtT rfl rfl rfl rfl rfl rfl (by omega) ?_ | refine st_gtF rfl rfl rfl rfl rfl rfl (by omega) ?_ | refine st_add rfl rfl rfl rfl rfl rfl (by omega) ?_ | refine st_sub rfl rfl rfl rfl rfl rfl (by omega) ?_ | refine st_I rfl rfl rfl rfl rfl ?_ | refine st_P rfl rfl rfl rfl rfl ?_ | refine st_val (v := .pointer none) rfl rfl rfl rfl rfl ?_)
    simp only [EC_seq, EC_region, EC_block, EC_scope, EC_skip, EC_exit, EC_ret, EC_label, EO_nil, ED_nil, after_normal, after_exit, after_ret, leave_normal, leave_exit, leave_ret, goesOn_exit, goesOn_ret, cut_exit, cut_ret, cutx_exit, cutx_ret, reduceIte, Nat.reduceEqDiff, reduceCtorEq, Nat.one_ne_zero, Nat.zero_ne_one]
    rw [EC_cond_false rfl]
    simp only [EC_seq, EC_region, EC_block, EC_scope, EC_skip, EC_exit, EC_ret, EC_label, EO_nil, ED_nil, after_normal, after_exit, after_ret, leave_normal, leave_exit, leave_ret, goesOn_exit, goesOn_ret, cut_exit, cut_ret, cutx_exit, cutx_ret, reduceIte, Nat.reduceEqDiff, reduceCtorEq, Nat.one_ne_zero, Nat.zero_ne_one]
    repeat (first | refine st_gtT rfl rfl rfl rfl rfl rfl (by omega) ?_ | refine st_gtF rfl rfl rfl rfl rfl rfl (by omega) ?_ | refine st_add rfl rfl rfl rfl rfl rfl (by omega) ?_ | refine st_sub rfl rfl rfl rfl rfl rfl (by omega) ?_ | refine st_I rfl rfl rfl rfl rfl ?_ | refine st_P rfl rfl rfl rfl rfl ?_ | refine st_val (v := .pointer none) rfl rfl rfl rfl rfl ?_)
    refine st_load1 rfl rfl rfl rfl rfl rfl hp4 rfl (v := .slice aB B.length B.length) rfl ?_
    have hfB : Fresh (n + 2) (.slice aB B.length B.length) := hgB.fresh
    refine st_call _ rfl rfl rfl rfl rfl (entries_ok k ⟨by omega, fun d hd => by have := hB3 d hd; omega⟩ ht4 (by omega) hgB.sl (fun x hx => by subst hx; have : 3 * (n + 2) ≤ x.block := hfB; omega)) ?_
    rintro vO h5 n5 w5 ⟨⟨hw5, hn5, ht5, hx5⟩, E, hE, hEl, hgO⟩
    obtain ⟨aO, rfl, _⟩ := hgO.shape
    have hp5 : h5 (3 * (n + 1) + 2) = some (.row [.slice aB B.length B.length, .int .i64 (f : Int), .slice none 0 0, .slice none 0 0, .slice none 0 0] e4) := by rw [hx5 _ (by omega) (by omega)]; exact hp4
    repeat (first | refine st_gtT rfl rfl rfl rfl rfl rfl (by omega) ?_ | refine st_gtF rfl rfl rfl rfl rfl rfl (by omega) ?_ | refine st_add rfl rfl rfl rfl rfl rfl (by omega) ?_ | refine st_sub rfl rfl rfl rfl rfl rfl (by omega) ?_ | refine st_I rfl rfl rfl rfl rfl ?_ | refine st_P rfl rfl rfl rfl rfl ?_ | refine st_val (v := .pointer none) rfl rfl rfl rfl rfl ?_)
    refine st_storeN (cs := [.slice aO E.length E.length]) rfl rfl rfl rfl rfl rfl rfl rfl hp5 (Nat.le_of_ble_eq_true rfl) (by show 3 * n ≤ 3 * (n + 1) + 2; omega) ?_
    simp only [EC_seq, EC_region, EC_block, EC_scope, EC_skip, EC_exit, EC_ret, EC_label, EO_nil, ED_nil, after_normal, after_exit, after_ret, leave_normal, leave_exit, leave_ret, goesOn_exit, goesOn_ret, cut_exit, cut_ret, cutx_exit, cutx_ret, reduceIte, Nat.reduceEqDiff, reduceCtorEq, Nat.one_ne_zero, Nat.zero_ne_one]
    repeat (first | refine st_gtT rfl rfl rfl rfl rfl rfl (by omega) ?_ | refine st_gtF rfl rfl rfl rfl rfl rfl (by omega) ?_ | refine st_add rfl rfl rfl rfl rfl rfl (by omega) ?_ | refine st_sub rfl rfl rfl rfl rfl rfl (by omega) ?_ | refine st_I rfl rfl rfl rfl rfl ?_ | refine st_P rfl rfl rfl rfl rfl ?_ | refine st_val (v := .pointer none) rfl rfl rfl rfl rfl ?_)
    refine st_load1 rfl rfl rfl rfl rfl rfl (upd_same _ _ _) rfl (v := .int .i64 (f : Int)) rfl ?_
    refine st_call _ rfl rfl rfl rfl rfl (wholes_ok k (N := f) (by omega) (ht5.upd (by omega)) (by omega)) ?_
    rintro vF h6 n6 w6 ⟨⟨hw6, hn6, ht6, hx6⟩, S, hSl, hSs, hgF⟩
    obtain ⟨aF, rfl, _⟩ := hgF.shape
    have hp6 : h6 (3 * (n + 1) + 2) = some (.row [.slice aB B.length B.length, .int .i64 (f : Int), .slice aO E.length E.length, .slice none 0 0, .slice none 0 0] e4) := by rw [hx6 _ (by omega) (by omega), upd_same]; rfl
    repeat (first | refine st_gtT rfl rfl rfl rfl rfl rfl (by omega) ?_ | refine st_gtF rfl rfl rfl rfl rfl rfl (by omega) ?_ | refine st_add rfl rfl rfl rfl rfl rfl (by omega) ?_ | refine st_sub rfl rfl rfl rfl rfl rfl (by omega) ?_ | refine st_I rfl rfl rfl rfl rfl ?_ | refine st_P rfl rfl rfl rfl rfl ?_ | refine st_val (v := .pointer none) rfl rfl rfl rfl rfl ?_)
    refine st_storeN (cs := [.slice aF f f]) rfl rfl rfl rfl rfl rfl rfl rfl hp6 (Nat.le_of_ble_eq_true rfl) (by show 3 * n ≤ 3 * (n + 1) + 2; omega) ?_
    simp only [EC_seq, EC_region, EC_block, EC_scope, EC_skip, EC_exit, EC_ret, EC_label, EO_nil, ED_nil, after_normal, after_exit, after_ret, leave_normal, leave_exit, leave_ret, goesOn_exit, goesOn_ret, cut_exit, cut_ret, cutx_exit, cutx_ret, reduceIte, Nat.reduceEqDiff, reduceCtorEq, Nat.one_ne_zero, Nat.zero_ne_one]
    repeat (first | refine st_gtT rfl rfl rfl rfl rfl rfl (by omega) ?_ | refine st_gtF rfl rfl rfl rfl rfl rfl (by omega) ?_ | refine st_add rfl rfl rfl rfl rfl rfl (by omega) ?_ | refine st_sub rfl rfl rfl rfl rfl rfl (by omega) ?_ | refine st_I rfl rfl rfl rfl rfl ?_ | refine st_P rfl rfl rfl rfl rfl ?_ | refine st_val (v := .pointer none) rfl rfl rfl rfl rfl ?_)
    refine st_call _ rfl rfl rfl rfl rfl (next_ok (k + 4) (by omega) (ht6.upd (by omega)) (by omega)) ?_
    rintro _ h7 n7 w7 ⟨hw7, rfl, ht7, hx7, i1, rfl, hi10, hi11⟩
    obtain ⟨i1, rfl⟩ : ∃ f : Nat, i1 = (f : Int) := ⟨i1.toNat, by omega⟩
    repeat (first | refine st_gtT rfl rfl rfl rfl rfl rfl (by omega) ?_ | refine st_gtF rfl rfl rfl rfl rfl rfl (by omega) ?_ | refine st_add rfl rfl rfl rfl rfl rfl (by omega) ?_ | refine st_sub rfl rfl rfl rfl rfl rfl (by omega) ?_ | refine st_I rfl rfl rfl rfl rfl ?_ | refine st_P rfl rfl rfl rfl rfl ?_ | refine st_val (v := .pointer none) rfl rfl rfl rfl rfl ?_)
    simp only [EC_seq, EC_region, EC_block, EC_scope, EC_skip, EC_exit, EC_ret, EC_label, EO_nil, ED_nil, after_normal, after_exit, after_ret, leave_normal, leave_exit, leave_ret, goesOn_exit, goesOn_ret, cut_exit, cut_ret, cutx_exit, cutx_ret, reduceIte, Nat.reduceEqDiff, reduceCtorEq, Nat.one_ne_zero, Nat.zero_ne_one]
    have hp7 : ∃ e, h7 (3 * (n + 1) + 2) = some (.row [.slice aB B.length B.length, .int .i64 (f : Int), .slice aO E.length E.length, .slice aF f f, .slice none 0 0] e) := ⟨e4, by rw [hx7 _ (by omega), upd_same]; rfl⟩
    have hr7 : ∃ e, h7 (3 * n + 2) = some (.row [.slice none 0 0, .int .i64 0, .slice none 0 0, .slice none 0 0, .slice none 0 0] e) := by
      obtain ⟨e, he⟩ := hr4
      exact ⟨e, by rw [hx7 _ (by omega), upd_ne (by omega), hx6 _ (by omega) (by omega), upd_ne (by omega), hx5 _ (by omega) (by omega)]; exact he⟩
    have hxx7 : ExtT n T.bt h h7 := fun b hb hne => by rw [hx7 b hne, upd_ne (by omega), hx6 b (by omega) hne, upd_ne (by omega), hx5 b (by omega) hne]; exact hx4 b hb hne
    have hgB7 : Gro h7 (n + 2) n7 3 1 (.slice aB B.length B.length) B.length (i64s B) :=
      ((((hgB.extT hx5 (by omega) hn5).extT (bt := 3 * (n + 1) + 2) (fun b hb hne => upd_ne hne) (by omega) (Nat.le_refl _)).extT hx6 (by omega) hn6).extT (bt := 3 * (n + 1) + 2) (fun b hb hne => upd_ne hne) (by omega) (Nat.le_refl _)).extT (bt := T.bt) (fun b hb hne => hx7 b hne) (by omega) (Nat.le_refl _)
    have hgO7 : Gro h7 n4 n7 37 4 (.slice aO E.length E.length) E.length (ents E) :=
      (((hgO.extT (bt := 3 * (n + 1) + 2) (fun b hb hne => upd_ne hne) (by omega) (Nat.le_refl _)).extT hx6 (by omega) hn6).extT (bt := 3 * (n + 1) + 2) (fun b hb hne => upd_ne hne) (by omega) (Nat.le_refl _)).extT (bt := T.bt) (fun b hb hne => hx7 b hne) (by omega) (Nat.le_refl _)
    have hgF7 : Gro h7 n5 n7 9 1 (.slice aF f f) f (strs S) :=
      (hgF.extT (bt := 3 * (n + 1) + 2) (fun b hb hne => upd_ne hne) (by omega) (Nat.le_refl _)).extT (bt := T.bt) (fun b hb hne => hx7 b hne) (by omega) (Nat.le_refl _)
    have hw7' : ∀ b ∈ addW (ctx (k + 5) n (Tryz.f18).ntmps).n0 w7 (addW (ctx (k + 5) n (Tryz.f18).ntmps).n0 w6 (addW (ctx (k + 5) n (Tryz.f18).ntmps).n0 w5 w4)), b = T.bt := addW_bt hw7 (addW_bt hw6 (addW_bt hw5 hw4))
    have hfO : Fresh n4 (.slice aO E.length E.length) := hgO.fresh
    have hfF : Fresh n5 (.slice aF f f) := hgF.fresh
    refine EC_for (α := Nat × Value × List Value × List Eqn) (fun z => [(0, .pointer (some ⟨T.bt, 0, none⟩)), (6, .pointer (some ⟨3 * n + 2, 0, none⟩)), (7, .pointer (some ⟨3 * (n + 1) + 2, 0, none⟩)), (9, .int .i64 (z.1 : Int))])
      (fun z h' n' w => (∀ b ∈ w, b = T.bt) ∧ n7 ≤ n' ∧ Tp h' T ∧ ExtT n T.bt h h' ∧ (∃ e, h' (3 * n + 2) = some (.row [.slice none 0 0, .int .i64 0, .slice none 0 0, .slice none 0 0, .slice none 0 0] e)) ∧ (∃ e, h' (3 * (n + 1) + 2) = some (.row [.slice aB B.length B.length, .int .i64 (f : Int), .slice aO E.length E.length, .slice aF f f, z.2.1] e)) ∧ z.1 + z.2.2.2.length = least + i1 ∧
        Sl h' n' 1 (.slice aB B.length B.length) (i64s B) ∧ Sl h' n' 4 (.slice aO E.length E.length) (ents E) ∧ Sl h' n' 1 (.slice aF f f) (strs S) ∧ Gro h' n7 n' 35 3 z.2.1 z.2.2.2.length z.2.2.1 ∧ EqR h' n' z.2.2.1 z.2.2.2 ∧ (∀ v ∈ z.2.2.1, Pt (fun b => 3 * n7 ≤ b) v) ∧ (∀ v ∈ z.2.2.1, ∀ b o l c, z.2.1 = .slice (some ⟨b, o, none⟩) l c → Pt (fun b' => b' ≠ b) v) ∧
        (∀ q ∈ z.2.2.2, EOk B q.es B.length 0 0 ∧ q.es.length ≤ 256 ∧ q.fr.length = f ∧ (∀ s ∈ q.fr, SmallS 2 s) ∧ SmallS 4 q.rhs)) (fun z => z.1)
      (least + i1, .slice none 0 0, [], []) ⟨rfl, rfl, rfl, by show Value.int .i64 _ = Value.int .i64 _; congr 1, trivial⟩ ⟨hw7', Nat.le_refl _, ht7, hxx7, hr7, hp7, rfl, hgB7.sl, hgO7.sl, hgF7.sl, .nil, .nil, fun v hv => absurd hv List.not_mem_nil, fun v hv => absurd hv List.not_mem_nil, fun q hq => absurd hq List.not_mem_nil⟩ (by show least + i1 < LL; unfold LL; omega) ?_
    rintro ⟨i, vE, ce, qs⟩ t h8 n8 w8 ⟨hw8, hn8, ht8, hx8, hr8, ⟨e8, hp8⟩, hi8, hB8, hO8, hF8, hgE, hEq, hPt, hPt2, hq8⟩
    simp only at hp8 hi8 hgE hEq hPt hPt2 hq8
    obtain ⟨aE, rfl, hceL⟩ := hgE.shape
    have hfE : Fresh n7 (.slice aE qs.length qs.length) := hgE.fresh
    simp only [EC_seq, EC_region, EC_block, EC_scope, EC_skip, EC_exit, EC_ret, EC_label, EO_nil, ED_nil, after_normal, after_exit, after_ret, leave_normal, leave_exit, leave_ret, goesOn_exit, goesOn_ret, cut_exit, cut_ret, cutx_exit, cutx_ret, reduceIte, Nat.reduceEqDiff, reduceCtorEq, Nat.one_ne_zero, Nat.zero_ne_one]
    cases i with
    | zero =>
      repeat (first | refine st_gtT rfl rfl rfl rfl rfl rfl (by omega) ?_ | refine st_gtF rfl rfl rfl rfl rfl rfl (by omega) ?_ | refine st_add rfl rfl rfl rfl rfl rfl (by omega) ?_ | refine st_sub rfl rfl rfl rfl rfl rfl (by omega) ?_ | refine st_I rfl rfl rfl rfl rfl ?_ | refine st_P rfl rfl rfl rfl rfl ?_ | refine st_val (v := .pointer none) rfl rfl rfl rfl rfl ?_)
      simp only [EC_seq, EC_region, EC_block, EC_scope, EC_skip, EC_exit, EC_ret, EC_label, EO_nil, ED_nil, after_normal, after_exit, after_ret, leave_normal, leave_exit, leave_ret, goesOn_exit, goesOn_ret, cut_exit, cut_ret, cutx_exit, cutx_ret, reduceIte, Nat.reduceEqDiff, reduceCtorEq, Nat.one_ne_zero, Nat.zero_ne_one]
      rw [EC_cond_false rfl]
      simp only [EC_seq, EC_region, EC_block, EC_scope, EC_skip, EC_exit, EC_ret, EC_label, EO_nil, ED_nil, after_normal, after_exit, after_ret, leave_normal, leave_exit, leave_ret, goesOn_exit, goesOn_ret, cut_exit, cut_ret, cutx_exit, cutx_ret, reduceIte, Nat.reduceEqDiff, reduceCtorEq, Nat.one_ne_zero, Nat.zero_ne_one]
      refine st_load (v := .agg #[.slice aB B.length B.length, .int .i64 (f : Int), .slice aO E.length E.length, .slice aF f f, .slice aE qs.length qs.length]) rfl rfl rfl rfl rfl (loadn_eq rfl rfl hp8 rfl (Nat.le_of_ble_eq_true rfl) rfl) ?_
      obtain ⟨er, hr8⟩ := hr8
      refine st_storeW [.slice aB B.length B.length, .int .i64 (f : Int), .slice aO E.length E.length, .slice aF f f, .slice aE qs.length qs.length] rfl rfl rfl rfl rfl rfl rfl rfl hr8 rfl (by show 3 * n ≤ 3 * n + 2; omega) ?_
      simp only [EC_seq, EC_region, EC_block, EC_scope, EC_skip, EC_exit, EC_ret, EC_label, EO_nil, ED_nil, after_normal, after_exit, after_ret, leave_normal, leave_exit, leave_ret, goesOn_exit, goesOn_ret, cut_exit, cut_ret, cutx_exit, cutx_ret, reduceIte, Nat.reduceEqDiff, reduceCtorEq, Nat.one_ne_zero, Nat.zero_ne_one]
      refine retCell rfl rfl rfl rfl rfl (upd_same _ _ _) rfl ⟨⟨hw8, by show n ≤ n8; omega, ht8.upd (by omega), fun b hb hne => (upd_ne (by omega)).trans (hx8 b hb hne)⟩, ⟨B, f, E, S, qs⟩, _, _, _, _, rfl, ⟨hB8.old (m := n + 2) hfB (by omega), hO8.old (m := n4) hfO (by omega), hF8.old (m := n5) hfF (by omega), ce, hgE.sl.old (m := n7) hfE (by omega), hEq.mapS fun v hv sz c hs => hs.keep (fun a l c' e => upd_ne (by have := hPt v hv a l c' e; omega)) (Nat.le_refl _)⟩, ?_, hfB.mono (by omega), hfO.mono (by omega), hfF.mono (by omega), hfE.mono (by omega)⟩
      exact ⟨by show 1 ≤ B.length ∧ B.length ≤ 2; omega, hB3, by show f ≤ F; omega, hE, hEl, hSl, hSs, by show least ≤ qs.length ∧ qs.length ≤ 4; omega, hq8⟩
    | succ i =>
      repeat (first | refine st_gtT rfl rfl rfl rfl rfl rfl (by omega) ?_ | refine st_gtF rfl rfl rfl rfl rfl rfl (by omega) ?_ | refine st_add rfl rfl rfl rfl rfl rfl (by omega) ?_ | refine st_sub rfl rfl rfl rfl rfl rfl (by omega) ?_ | refine st_I rfl rfl rfl rfl rfl ?_ | refine st_P rfl rfl rfl rfl rfl ?_ | refine st_val (v := .pointer none) rfl rfl rfl rfl rfl ?_)
      simp only [EC_seq, EC_region, EC_block, EC_scope, EC_skip, EC_exit, EC_ret, EC_label, EO_nil, ED_nil, after_normal, after_exit, after_ret, leave_normal, leave_exit, leave_ret, goesOn_exit, goesOn_ret, cut_exit, cut_ret, cutx_exit, cutx_ret, reduceIte, Nat.reduceEqDiff, reduceCtorEq, Nat.one_ne_zero, Nat.zero_ne_one]
      rw [EC_cond_true rfl]
      simp only [EC_seq, EC_region, EC_block, EC_scope, EC_skip, EC_exit, EC_ret, EC_label, EO_nil, ED_nil, after_normal, after_exit, after_ret, leave_normal, leave_exit, leave_ret, goesOn_exit, goesOn_ret, cut_exit, cut_ret, cutx_exit, cutx_ret, reduceIte, Nat.reduceEqDiff, reduceCtorEq, Nat.one_ne_zero, Nat.zero_ne_one]
      refine EC_draw [0, 1, 0, 0, 8, 28, 0, 0, 128, 508, 0, 2044, 4092, 8188, 16380, 32767, 65535, 131071] rfl ?_
      repeat (first | refine dr_add rfl rfl rfl rfl rfl rfl (by omega) ?_ | refine dr_P rfl rfl rfl rfl rfl ?_)
      refine dr_load rfl rfl rfl rfl rfl rfl (load1_eq rfl hp8 rfl rfl) rfl rfl ?_
      repeat (first | refine dr_add rfl rfl rfl rfl rfl rfl (by omega) ?_ | refine dr_P rfl rfl rfl rfl rfl ?_)
      refine dr_load rfl rfl rfl rfl rfl rfl (load1_eq rfl hp8 rfl rfl) rfl rfl ?_
      refine dr_tape (bt := T.bt) _ rfl rfl rfl rfl rfl rfl rfl (entries_ok k ⟨by omega, fun d hd => by have := hB3 d hd; omega⟩ ht8 (by omega) hB8 (fun x hx => by subst hx; have : 3 * (n + 2) ≤ x.block := hfB; omega)) (fun v h' n' W hp => ⟨hp.1.w, hp.1.le⟩) (by simp; omega) ?_
      rintro v9 h9 n9 w9 ⟨⟨hw9, hn9, ht9, hx9⟩, E9, hE9, hEl9, hg9⟩
      obtain ⟨a9, rfl, _⟩ := hg9.shape
      repeat (first | refine dr_add rfl rfl rfl rfl rfl rfl (by omega) ?_ | refine dr_P rfl rfl rfl rfl rfl ?_)
      refine dr_load rfl rfl rfl rfl rfl rfl (load1_eq rfl hp8 rfl rfl) (okEffsF_bt (b := 3 * (n + 1) + 2) (bt := T.bt) (by omega) (by simp; exact hw9)) rfl ?_
      refine dr_tape (bt := T.bt) _ rfl rfl rfl rfl rfl rfl rfl (wholes_ok k (N := f) (by omega) ht9 (by omega)) (fun v h' n' W hp => ⟨hp.1.w, hp.1.le⟩) (by simp; omega) ?_
      rintro v10 h10 n10 w10 ⟨⟨hw10, hn10, ht10, hx10⟩, S10, hSl10, hSs10, hg10⟩
      obtain ⟨a10, rfl, _⟩ := hg10.shape
      repeat (first | refine dr_add rfl rfl rfl rfl rfl rfl (by omega) ?_ | refine dr_P rfl rfl rfl rfl rfl ?_)
      refine dr_tape (bt := T.bt) _ rfl rfl rfl rfl rfl rfl rfl (whole_ok (k + 1) (K := 4) (by omega) ht10 (by omega)) (fun v h' n' W hp => ⟨hp.1, hp.2.1⟩) (by simp; omega) ?_
      rintro _ h11 n11 w11 ⟨hw11, hn11, ht11, hx11, m1, m2, ln, y, rfl, hq11, hy0, hy1, hf11, hln⟩
      refine dr_tape (bt := T.bt) _ rfl rfl rfl rfl rfl rfl rfl (text_ok (k + 1) hq11 (by simp; omega)) (fun v h' n' W hp => ⟨by rw [hp.2.2.1]; exact fun b hb => absurd hb List.not_mem_nil, by rw [hp.2.1]; exact Nat.le_refl _⟩) (by simp; omega) ?_
      rintro _ h12 n12 w12 ⟨e12, e12', rfl, rfl⟩
      subst e12 e12'
      refine dr_val (v := .agg #[.slice a9 E9.length E9.length, .slice a10 f f, .string ⟨⟨ratT ((y : Int) : Rat)⟩⟩]) rfl rfl rfl rfl rfl ?_
      refine dr_mks (cs := [.slice a9 E9.length E9.length, .slice a10 f f, .string ⟨⟨ratT ((y : Int) : Rat)⟩⟩]) rfl rfl rfl rfl rfl ?_
      have hkk : ∀ b, b < 3 * n8 → b ≠ T.bt → upd h12 (3 * n12 + 2) (some (.row [.slice a9 E9.length E9.length, .slice a10 f f, .string ⟨⟨ratT ((y : Int) : Rat)⟩⟩] 35)) b = h8 b := fun b hb hne => by rw [upd_ne (by omega), hx11 b (by omega) hne, hx10 b (by omega) hne, hx9 b hb hne]
      have hgE2 := (((hgE.extT hx9 (by omega) hn9).extT hx10 (by omega) hn10).extT hx11 (by omega) hn11).ext (Ext.upd (b := 3 * n12 + 2) (x := some (.row [.slice a9 E9.length E9.length, .slice a10 f f, .string ⟨⟨ratT ((y : Int) : Rat)⟩⟩] 35)) (by omega)) (Nat.le_succ n12)
      refine dr_app (mm := 1) rfl rfl rfl rfl rfl rfl rfl rfl (by decide) rfl rfl rfl hgE2 (argS_of (upd_same _ _ _) rfl rfl) (Nat.le_refl _) (by omega) rfl rfl (by show n ≤ n7 ∧ _; omega) ?_
      intro v15 h15 W15 hg15 hx15 hk15 hf15
      obtain ⟨a15, rfl, _⟩ := hg15.shape
      repeat (first | refine dr_add rfl rfl rfl rfl rfl rfl (by omega) ?_ | refine dr_P rfl rfl rfl rfl rfl ?_)
      have hp15 : h15 (3 * (n + 1) + 2) = some (.row [.slice aB B.length B.length, .int .i64 (f : Int), .slice aO E.length E.length, .slice aF f f, .slice aE qs.length qs.length] e8) := by rw [hx15 _ (by omega), hkk _ (by omega) (by omega)]; exact hp8
      refine dr_storeN (cs := [.slice a15 (qs.length + 1) (qs.length + 1)]) rfl rfl rfl rfl rfl rfl rfl rfl hp15 (Nat.le_of_ble_eq_true rfl) (by show 3 * n ≤ 3 * (n + 1) + 2; omega) rfl rfl rfl ?_
      simp only [EC_seq, EC_region, EC_block, EC_scope, EC_skip, EC_exit, EC_ret, EC_label, EO_nil, ED_nil, after_normal, after_exit, after_ret, leave_normal, leave_exit, leave_ret, goesOn_exit, goesOn_ret, cut_exit, cut_ret, cutx_exit, cutx_ret, reduceIte, Nat.reduceEqDiff, reduceCtorEq, Nat.one_ne_zero, Nat.zero_ne_one]
      repeat (first | refine st_gtT rfl rfl rfl rfl rfl rfl (by omega) ?_ | refine st_gtF rfl rfl rfl rfl rfl rfl (by omega) ?_ | refine st_add rfl rfl rfl rfl rfl rfl (by omega) ?_ | refine st_sub rfl rfl rfl rfl rfl rfl (by omega) ?_ | refine st_I rfl rfl rfl rfl rfl ?_ | refine st_P rfl rfl rfl rfl rfl ?_ | refine st_val (v := .pointer none) rfl rfl rfl rfl rfl ?_)
      simp only [EC_seq, EC_region, EC_block, EC_scope, EC_skip, EC_exit, EC_ret, EC_label, EO_nil, ED_nil, after_normal, after_exit, after_ret, leave_normal, leave_exit, leave_ret, goesOn_exit, goesOn_ret, cut_exit, cut_ret, cutx_exit, cutx_ret, reduceIte, Nat.reduceEqDiff, reduceCtorEq, Nat.one_ne_zero, Nat.zero_ne_one]
      have hbE : Below n8 (.slice aE qs.length qs.length) := hgE.below
      have hbB : Below n7 (.slice aB B.length B.length) := hgB7.below
      have hbO : Below n7 (.slice aO E.length E.length) := hgO7.below
      have hbF : Below n7 (.slice aF f f) := hgF7.below
      have hb9 : Below n9 (.slice a9 E9.length E9.length) := hg9.below
      have hb10 : Below n10 (.slice a10 f f) := hg10.below
      have hf9 : Fresh n8 (.slice a9 E9.length E9.length) := hg9.fresh
      have hf10 : Fresh n9 (.slice a10 f f) := hg10.fresh
      have neE : ∀ b, (b < 3 * n7 ∨ 3 * n8 ≤ b) → ∀ o l c, Value.slice aE qs.length qs.length ≠ .slice (some ⟨b, o, none⟩) l c := fun b hb o l c e => by
        injection e with e1
        subst e1
        have h1 : b < 3 * n8 := hbE
        have h2 : 3 * n7 ≤ b := hfE
        omega
      have hlow : ∀ {x : Option BF} b, b < 3 * n7 → b ≠ T.bt → b ≠ 3 * (n + 1) + 2 → upd h15 (3 * (n + 1) + 2) x b = h8 b := fun b hb h1 h2 => (upd_ne h2).trans ((hx15 b hb).trans (hkk b (by omega) h1))
      have hold : ∀ {x : Option BF} {sz : Nat} {v : Value} {c : List Value}, Sl h8 n8 sz v c → Below n7 v → Fresh (n + 2) v → Sl (upd h15 (3 * (n + 1) + 2) x) (n12 + 1 + 1) sz v c := fun hs hb hf => hs.keep (fun a l c e => by
        subst e
        have h1 : a.block < 3 * n7 := hb
        have h2 : 3 * (n + 2) ≤ a.block := hf
        exact hlow _ h1 (by omega) (by omega)) (by omega)
      have hnew : ∀ {x : Option BF} {sz : Nat} {v : Value} {c : List Value} {hh : HF} {m m' : Nat}, Sl hh m' sz v c → Fresh m v → n8 ≤ m → m' ≤ n12 → (∀ b, 3 * m ≤ b → b < 3 * m' → h12 b = hh b) → Sl (upd h15 (3 * (n + 1) + 2) x) (n12 + 1 + 1) sz v c := fun hs hf hm hm' hk => hs.keep (fun a l c e => by
        subst e
        have h2 : 3 * _ ≤ a.block := hf
        have h1 : a.block < 3 * _ := hs.below
        refine (upd_ne (by omega)).trans ((hk15 _ (by omega) (neE _ (.inr (by omega)))).trans ((upd_ne (by omega)).trans (hk _ h2 h1)))) (by omega)
      have hs9 : ∀ {x : Option BF}, Sl (upd h15 (3 * (n + 1) + 2) x) (n12 + 1 + 1) 4 (.slice a9 E9.length E9.length) (ents E9) := hnew hg9.sl hf9 (Nat.le_refl _) (by omega) fun b h1 h2 => by rw [hx11 b (by omega) (by omega), hx10 b (by omega) (by omega)]
      have hs10 : ∀ {x : Option BF}, Sl (upd h15 (3 * (n + 1) + 2) x) (n12 + 1 + 1) 1 (.slice a10 f f) (strs S10) := hnew hg10.sl hf10 hn9 (by omega) fun b h1 h2 => by rw [hx11 b (by omega) (by omega)]
      have hceb := hEq.belows
      refine goOn (i, .slice a15 (qs.length + 1) (qs.length + 1), ce ++ [.slice a9 E9.length E9.length, .slice a10 f f, .string ⟨⟨ratT ((y : Int) : Rat)⟩⟩], qs ++ [⟨E9, S10, ratT ((y : Int) : Rat)⟩]) (by show i < i + 1; omega) ⟨rfl, rfl, rfl, by show Value.int .i64 _ = Value.int .i64 _; congr 1; omega, trivial⟩ ⟨?_, by show n7 ≤ n12 + 1 + 1; omega, ?_, ?_, ?_, ⟨e8, upd_same _ _ _⟩, by show i + (qs ++ [_]).length = _; simp; omega, hold hB8 hbB hfB, hold hO8 hbO (hfO.mono (by omega)), hold hF8 hbF (hfF.mono (by omega)), ?_, ?_, ?_, ?_, ?_⟩
      · have hw0 : ∀ b ∈ ([] : List Nat), b = T.bt := fun b hb => absurd hb List.not_mem_nil
        first | exact addW_bt hw0 (addW_bt hw11 (addW_bt hw10 (addW_bt hw9 hw8))) | exact addW_bt hw0 (addW_bt hw0 (addW_bt hw11 (addW_bt hw10 (addW_bt hw9 hw8))))
      · exact ((ht11.upd (by omega)).ext hx15 (by omega)).upd (by omega)
      · exact fun b hb hne => (hlow b (by omega) hne (by omega)).trans (hx8 b hb hne)
      · obtain ⟨er, hr8⟩ := hr8
        exact ⟨er, (hlow _ (by omega) (by omega) (by omega)).trans hr8⟩
      · show Gro _ _ _ _ _ _ (qs ++ [_]).length _
        rw [List.length_append]
        exact hg15.extT (bt := 3 * (n + 1) + 2) (fun b hb hne => upd_ne hne) (by omega) (Nat.le_refl _)
      · refine EqR.snoc (q := ⟨E9, S10, ratT ((y : Int) : Rat)⟩) (hEq.mapS fun v hv sz c hs => hs.keep (fun a l c' e => ?_) (by show n8 ≤ n12 + 1 + 1; omega)) hs9 hs10
        have h1 := hceb v hv a l c' e
        have h2 := hPt v hv a l c' e
        refine (upd_ne (by omega)).trans ((hk15 _ (by omega) fun o l2 c2 ee => ?_).trans (hkk _ h1 (by omega)))
        exact hPt2 v hv _ _ _ _ ee a l c' e rfl
      · intro v hv
        rcases List.mem_append.1 hv with hv | hv
        · exact hPt v hv
        · simp only [List.mem_cons, List.not_mem_nil, or_false] at hv
          rcases hv with rfl | rfl | rfl
          · exact fun a l c e => by have := Pt.of_fresh hf9 a l c e; omega
          · exact fun a l c e => by have := Pt.of_fresh hf10 a l c e; omega
          · exact fun a l c e => by cases e
      · intro v hv b o l c ee a l' c' e
        simp only at ee
        have hbb : 3 * (n12 + 1) ≤ b := by
          have : 3 * (n12 + 1) ≤ _ := Pt.of_fresh hf15 _ _ _ ee
          exact this
        rcases List.mem_append.1 hv with hv | hv
        · have := hceb v hv a l' c' e; omega
        · simp only [List.mem_cons, List.not_mem_nil, or_false] at hv
          rcases hv with rfl | rfl | rfl
          · have := Pt.of_below hb9 a l' c' e; omega
          · have := Pt.of_below hb10 a l' c' e; omega
          · cases e
      · intro q hq
        rcases List.mem_append.1 hq with hq | hq
        · exact hq8 q hq
        · simp at hq; subst hq
          exact ⟨hE9, hEl9, hSl10, hSs10, y, hy0, hy1, rfl⟩
end Go.Proofs.YtokfihhdllmbmaaGreatDoor
namespace Go.GL
open Go
section
variable {X : CtxF} {ops r : List Oper} {ms : List Nat} {i m : Nat} {t : TF} {h : HF} {n : Nat} {w : List Nat} {al ld : List (Nat × Nat)} {ef : List (Nat × HF × List Nat)} {Q : SV → Prop} {o : Oper} {d : Tmp} {E : Env}
theorem pv_lt {ty ty' : TypeId} {x y : Operand} {ik : IntKind} {a b : Int} (ho : o.op = .binOp .lss ty x y ty') (hx : evF t x = .int ik a) (hy : evF t y = .int ik b) : pureE E o.op (evF t) = some (.bool (decide (a < b))) := by
  rw [ho]
  show binE E .lss ty (evF t x) (evF t y) = _
  rw [hx, hy]
  simp only [binE, isSh, ikEq_self, intE, x2_eq]
  
theorem dr_ltT {ty ty' : TypeId} {x y : Operand} {ik : IntKind} {a b : Int} (hw : wantsF ops t o = true) (hd : o.dst = some d) (hn : dstOk X.nt (some d) = true) (ho : o.op = .binOp .lss ty x y ty') (hx : evF t x = .int ik a) (hy : evF t y = .int ik b) (hr : a < b)
    (k : ED X ops r ms (i + 1) ⟨⟨upd t d (.bool true), h, n, w⟩, al, ld, ef⟩ Q) : ED X ops (o :: r) (m :: ms) i ⟨⟨t, h, n, w⟩, al, ld, ef⟩ Q :=
  dr_val hw hd hn (by rw [ho]; rfl) (by rw [pv_lt ho hx hy, decide_eq_true hr]) k
theorem dr_ltF {ty ty' : TypeId} {x y : Operand} {ik : IntKind} {a b : Int} (hw : wantsF ops t o = true) (hd : o.dst = some d) (hn : dstOk X.nt (some d) = true) (ho : o.op = .binOp .lss ty x y ty') (hx : evF t x = .int ik a) (hy : evF t y = .int ik b) (hr : ¬ (a < b))
    (k : ED X ops r ms (i + 1) ⟨⟨upd t d (.bool false), h, n, w⟩, al, ld, ef⟩ Q) : ED X ops (o :: r) (m :: ms) i ⟨⟨t, h, n, w⟩, al, ld, ef⟩ Q :=
  dr_val hw hd hn (by rw [ho]; rfl) (by rw [pv_lt ho hx hy, decide_eq_false hr]) k
theorem dr_lt {ty ty' : TypeId} {x y : Operand} {ik : IntKind} {a b : Int} (hw : wantsF ops t o = true) (hd : o.dst = some d) (hn : dstOk X.nt (some d) = true) (ho : o.op = .binOp .lss ty x y ty') (hx : evF t x = .int ik a) (hy : evF t y = .int ik b)
    (k : ED X ops r ms (i + 1) ⟨⟨upd t d (.bool (decide (a < b))), h, n, w⟩, al, ld, ef⟩ Q) : ED X ops (o :: r) (m :: ms) i ⟨⟨t, h, n, w⟩, al, ld, ef⟩ Q :=
  dr_val hw hd hn (by rw [ho]; rfl) (pv_lt ho hx hy) k
theorem pv_le {ty ty' : TypeId} {x y : Operand} {ik : IntKind} {a b : Int} (ho : o.op = .binOp .leq ty x y ty') (hx : evF t x = .int ik a) (hy : evF t y = .int ik b) : pureE E o.op (evF t) = some (.bool (decide (a ≤ b))) := by
  rw [ho]
  show binE E .leq ty (evF t x) (evF t y) = _
  rw [hx, hy]
  simp only [binE, isSh, ikEq_self, intE, x3_eq]
  
theorem dr_leT {ty ty' : TypeId} {x y : Operand} {ik : IntKind} {a b : Int} (hw : wantsF ops t o = true) (hd : o.dst = some d) (hn : dstOk X.nt (some d) = true) (ho : o.op = .binOp .leq ty x y ty') (hx : evF t x = .int ik a) (hy : evF t y = .int ik b) (hr : a ≤ b)
    (k : ED X ops r ms (i + 1) ⟨⟨upd t d (.bool true), h, n, w⟩, al, ld, ef⟩ Q) : ED X ops (o :: r) (m :: ms) i ⟨⟨t, h, n, w⟩, al, ld, ef⟩ Q :=
  dr_val hw hd hn (by rw [ho]; rfl) (by rw [pv_le ho hx hy, decide_eq_true hr]) k
theorem dr_leF {ty ty' : TypeId} {x y : Operand} {ik : IntKind} {a b : Int} (hw : wantsF ops t o = true) (hd : o.dst = some d) (hn : dstOk X.nt (some d) = true) (ho : o.op = .binOp .leq ty x y ty') (hx : evF t x = .int ik a) (hy : evF t y = .int ik b) (hr : ¬ (a ≤ b))
    (k : ED X ops r ms (i + 1) ⟨⟨upd t d (.bool false), h, n, w⟩, al, ld, ef⟩ Q) : ED X ops (o :: r) (m :: ms) i ⟨⟨t, h, n, w⟩, al, ld, ef⟩ Q :=
  dr_val hw hd hn (by rw [ho]; rfl) (by rw [pv_le ho hx hy, decide_eq_false hr]) k
theorem dr_le {ty ty' : TypeId} {x y : Operand} {ik : IntKind} {a b : Int} (hw : wantsF ops t o = true) (hd : o.dst = some d) (hn : dstOk X.nt (some d) = true) (ho : o.op = .binOp .leq ty x y ty') (hx : evF t x = .int ik a) (hy : evF t y = .int ik b)
    (k : ED X ops r ms (i + 1) ⟨⟨upd t d (.bool (decide (a ≤ b))), h, n, w⟩, al, ld, ef⟩ Q) : ED X ops (o :: r) (m :: ms) i ⟨⟨t, h, n, w⟩, al, ld, ef⟩ Q :=
  dr_val hw hd hn (by rw [ho]; rfl) (pv_le ho hx hy) k
theorem pv_gt {ty ty' : TypeId} {x y : Operand} {ik : IntKind} {a b : Int} (ho : o.op = .binOp .gtr ty x y ty') (hx : evF t x = .int ik a) (hy : evF t y = .int ik b) : pureE E o.op (evF t) = some (.bool (decide (b < a))) := by
  rw [ho]
  show binE E .gtr ty (evF t x) (evF t y) = _
  rw [hx, hy]
  simp only [binE, isSh, ikEq_self, intE, x2_eq]
  
theorem dr_gtT {ty ty' : TypeId} {x y : Operand} {ik : IntKind} {a b : Int} (hw : wantsF ops t o = true) (hd : o.dst = some d) (hn : dstOk X.nt (some d) = true) (ho : o.op = .binOp .gtr ty x y ty') (hx : evF t x = .int ik a) (hy : evF t y = .int ik b) (hr : b < a)
    (k : ED X ops r ms (i + 1) ⟨⟨upd t d (.bool true), h, n, w⟩, al, ld, ef⟩ Q) : ED X ops (o :: r) (m :: ms) i ⟨⟨t, h, n, w⟩, al, ld, ef⟩ Q :=
  dr_val hw hd hn (by rw [ho]; rfl) (by rw [pv_gt ho hx hy, decide_eq_true hr]) k
theorem dr_gtF {ty ty' : TypeId} {x y : Operand} {ik : IntKind} {a b : Int} (hw : wantsF ops t o = true) (hd : o.dst = some d) (hn : dstOk X.nt (some d) = true) (ho : o.op = .binOp .gtr ty x y ty') (hx : evF t x = .int ik a) (hy : evF t y = .int ik b) (hr : ¬ (b < a))
    (k : ED X ops r ms (i + 1) ⟨⟨upd t d (.bool false), h, n, w⟩, al, ld, ef⟩ Q) : ED X ops (o :: r) (m :: ms) i ⟨⟨t, h, n, w⟩, al, ld, ef⟩ Q :=
  dr_val hw hd hn (by rw [ho]; rfl) (by rw [pv_gt ho hx hy, decide_eq_false hr]) k
theorem dr_gt {ty ty' : TypeId} {x y : Operand} {ik : IntKind} {a b : Int} (hw : wantsF ops t o = true) (hd : o.dst = some d) (hn : dstOk X.nt (some d) = true) (ho : o.op = .binOp .gtr ty x y ty') (hx : evF t x = .int ik a) (hy : evF t y = .int ik b)
    (k : ED X ops r ms (i + 1) ⟨⟨upd t d (.bool (decide (b < a))), h, n, w⟩, al, ld, ef⟩ Q) : ED X ops (o :: r) (m :: ms) i ⟨⟨t, h, n, w⟩, al, ld, ef⟩ Q :=
  dr_val hw hd hn (by rw [ho]; rfl) (pv_gt ho hx hy) k
theorem pv_ge {ty ty' : TypeId} {x y : Operand} {ik : IntKind} {a b : Int} (ho : o.op = .binOp .geq ty x y ty') (hx : evF t x = .int ik a) (hy : evF t y = .int ik b) : pureE E o.op (evF t) = some (.bool (decide (b ≤ a))) := by
  rw [ho]
  show binE E .geq ty (evF t x) (evF t y) = _
  rw [hx, hy]
  simp only [binE, isSh, ikEq_self, intE, x3_eq]
  
theorem dr_geT {ty ty' : TypeId} {x y : Operand} {ik : IntKind} {a b : Int} (hw : wantsF ops t o = true) (hd : o.dst = some d) (hn : dstOk X.nt (some d) = true) (ho : o.op = .binOp .geq ty x y ty') (hx : evF t x = .int ik a) (hy : evF t y = .int ik b) (hr : b ≤ a)
    (k : ED X ops r ms (i + 1) ⟨⟨upd t d (.bool true), h, n, w⟩, al, ld, ef⟩ Q) : ED X ops (o :: r) (m :: ms) i ⟨⟨t, h, n, w⟩, al, ld, ef⟩ Q :=
  dr_val hw hd hn (by rw [ho]; rfl) (by rw [pv_ge ho hx hy, decide_eq_true hr]) k
theorem dr_geF {ty ty' : TypeId} {x y : Operand} {ik : IntKind} {a b : Int} (hw : wantsF ops t o = true) (hd : o.dst = some d) (hn : dstOk X.nt (some d) = true) (ho : o.op = .binOp .geq ty x y ty') (hx : evF t x = .int ik a) (hy : evF t y = .int ik b) (hr : ¬ (b ≤ a))
    (k : ED X ops r ms (i + 1) ⟨⟨upd t d (.bool false), h, n, w⟩, al, ld, ef⟩ Q) : ED X ops (o :: r) (m :: ms) i ⟨⟨t, h, n, w⟩, al, ld, ef⟩ Q :=
  dr_val hw hd hn (by rw [ho]; rfl) (by rw [pv_ge ho hx hy, decide_eq_false hr]) k
theorem dr_ge {ty ty' : TypeId} {x y : Operand} {ik : IntKind} {a b : Int} (hw : wantsF ops t o = true) (hd : o.dst = some d) (hn : dstOk X.nt (some d) = true) (ho : o.op = .binOp .geq ty x y ty') (hx : evF t x = .int ik a) (hy : evF t y = .int ik b)
    (k : ED X ops r ms (i + 1) ⟨⟨upd t d (.bool (decide (b ≤ a))), h, n, w⟩, al, ld, ef⟩ Q) : ED X ops (o :: r) (m :: ms) i ⟨⟨t, h, n, w⟩, al, ld, ef⟩ Q :=
  dr_val hw hd hn (by rw [ho]; rfl) (pv_ge ho hx hy) k
theorem pv_eq {ty ty' : TypeId} {x y : Operand} {ik : IntKind} {a b : Int} (ho : o.op = .binOp .eql ty x y ty') (hx : evF t x = .int ik a) (hy : evF t y = .int ik b) : pureE E o.op (evF t) = some (.bool (decide (a = b))) := by
  rw [ho]
  show binE E .eql ty (evF t x) (evF t y) = _
  rw [hx, hy]
  simp only [binE, isSh, ikEq_self, intE, x1_eq]
  rfl
theorem dr_eqT {ty ty' : TypeId} {x y : Operand} {ik : IntKind} {a b : Int} (hw : wantsF ops t o = true) (hd : o.dst = some d) (hn : dstOk X.nt (some d) = true) (ho : o.op = .binOp .eql ty x y ty') (hx : evF t x = .int ik a) (hy : evF t y = .int ik b) (hr : a = b)
    (k : ED X ops r ms (i + 1) ⟨⟨upd t d (.bool true), h, n, w⟩, al, ld, ef⟩ Q) : ED X ops (o :: r) (m :: ms) i ⟨⟨t, h, n, w⟩, al, ld, ef⟩ Q :=
  dr_val hw hd hn (by rw [ho]; rfl) (by rw [pv_eq ho hx hy, decide_eq_true hr]) k
theorem dr_eqF {ty ty' : TypeId} {x y : Operand} {ik : IntKind} {a b : Int} (hw : wantsF ops t o = true) (hd : o.dst = some d) (hn : dstOk X.nt (some d) = true) (ho : o.op = .binOp .eql ty x y ty') (hx : evF t x = .int ik a) (hy : evF t y = .int ik b) (hr : ¬ (a = b))
    (k : ED X ops r ms (i + 1) ⟨⟨upd t d (.bool false), h, n, w⟩, al, ld, ef⟩ Q) : ED X ops (o :: r) (m :: ms) i ⟨⟨t, h, n, w⟩, al, ld, ef⟩ Q :=
  dr_val hw hd hn (by rw [ho]; rfl) (by rw [pv_eq ho hx hy, decide_eq_false hr]) k
theorem dr_eq {ty ty' : TypeId} {x y : Operand} {ik : IntKind} {a b : Int} (hw : wantsF ops t o = true) (hd : o.dst = some d) (hn : dstOk X.nt (some d) = true) (ho : o.op = .binOp .eql ty x y ty') (hx : evF t x = .int ik a) (hy : evF t y = .int ik b)
    (k : ED X ops r ms (i + 1) ⟨⟨upd t d (.bool (decide (a = b))), h, n, w⟩, al, ld, ef⟩ Q) : ED X ops (o :: r) (m :: ms) i ⟨⟨t, h, n, w⟩, al, ld, ef⟩ Q :=
  dr_val hw hd hn (by rw [ho]; rfl) (pv_eq ho hx hy) k
theorem pv_neq {ty ty' : TypeId} {x y : Operand} {ik : IntKind} {a b : Int} (ho : o.op = .binOp .neq ty x y ty') (hx : evF t x = .int ik a) (hy : evF t y = .int ik b) : pureE E o.op (evF t) = some (.bool (!decide (a = b))) := by
  rw [ho]
  show binE E .neq ty (evF t x) (evF t y) = _
  rw [hx, hy]
  simp only [binE, isSh, ikEq_self, intE, x1_eq]
  rfl
theorem dr_neqT {ty ty' : TypeId} {x y : Operand} {ik : IntKind} {a b : Int} (hw : wantsF ops t o = true) (hd : o.dst = some d) (hn : dstOk X.nt (some d) = true) (ho : o.op = .binOp .neq ty x y ty') (hx : evF t x = .int ik a) (hy : evF t y = .int ik b) (hr : ¬ (a = b))
    (k : ED X ops r ms (i + 1) ⟨⟨upd t d (.bool true), h, n, w⟩, al, ld, ef⟩ Q) : ED X ops (o :: r) (m :: ms) i ⟨⟨t, h, n, w⟩, al, ld, ef⟩ Q :=
  dr_val hw hd hn (by rw [ho]; rfl) (by rw [pv_neq ho hx hy]; simp [hr]) k
theorem dr_neqF {ty ty' : TypeId} {x y : Operand} {ik : IntKind} {a b : Int} (hw : wantsF ops t o = true) (hd : o.dst = some d) (hn : dstOk X.nt (some d) = true) (ho : o.op = .binOp .neq ty x y ty') (hx : evF t x = .int ik a) (hy : evF t y = .int ik b) (hr : a = b)
    (k : ED X ops r ms (i + 1) ⟨⟨upd t d (.bool false), h, n, w⟩, al, ld, ef⟩ Q) : ED X ops (o :: r) (m :: ms) i ⟨⟨t, h, n, w⟩, al, ld, ef⟩ Q :=
  dr_val hw hd hn (by rw [ho]; rfl) (by rw [pv_neq ho hx hy]; simp [hr]) k
theorem dr_idx {ty e : TypeId} {x ii : Operand} {b off len cap sz bt : Nat} {z : Value} {ik : IntKind} {j : Int} (hw : wantsF ops t o = true) (hd : o.dst = some d) (hn : dstOk X.nt (some d) = true) (ho : o.op = .indexAddr ty x ii) (hu : X.E.und ty = some (.slice e)) (hi : X.E.inf e = some (sz, bt, z))
    (hx : evF t x = .slice (some ⟨b, off, none⟩) len cap) (hj : evF t ii = .int ik j) (hr : 0 ≤ j ∧ j < len) (k : ED X ops r ms (i + 1) ⟨⟨upd t d (.pointer (some ⟨b, off + j.toNat * sz, none⟩)), h, n, w⟩, al, ld, ef⟩ Q) : ED X ops (o :: r) (m :: ms) i ⟨⟨t, h, n, w⟩, al, ld, ef⟩ Q := by
  refine dr_val hw hd hn (by rw [ho]; rfl) ?_ k
  rw [ho]
  show indexAddrE X.E ty (evF t x) (evF t ii) = _
  rw [hx, hj]
  simp only [indexAddrE, hu, hi, if_pos hr, addr_at]
theorem okLoads_nil : ∀ {l : List (Nat × Nat)}, okLoads m [] l = true := by
  intro l
  induction l with
  | nil => rfl
  | cons x l ih =>
    obtain ⟨i, b⟩ := x
    unfold okLoads
    rw [show memN b [] = false from rfl, Bool.not_false, Bool.or_true]
    exact ih
theorem okEffsF_nil {u b : Nat} : ∀ {l : List (Nat × HF × List Nat)}, (∀ x ∈ l, x.2.2 = []) → okEffsF u b l = true := by
  intro l
  induction l with
  | nil => intro _; rfl
  | cons x l ih =>
    intro h
    obtain ⟨e, g, W⟩ := x
    have hW : W = [] := h (e, g, W) (by simp)
    subst hW
    unfold okEffsF
    rw [show memN b [] = false from rfl, Bool.not_false, Bool.or_true]
    exact ih fun y hy => h y (by simp [hy])
/-- A call that leaves memory as it is. -/
theorem dr_vf {f : FuncId} {args : List Value} (P : Value → Prop) (hw : wantsF ops t o = true) (hd : o.dst = some d) (hn : dstOk X.nt (some d) = true) (hc : cls o.op = 3) (he : effF X.E o.op (evF t) h n = some (.enter f args)) (h1 : allEfF m ef = true) (h2 : allAl m al = true) (hcall : CF X.C f args h n fun v h' n' w => h' = h ∧ n' = n ∧ w = [] ∧ P v)
    (k : ∀ v, P v → ED X ops r ms (i + 1) ⟨⟨upd t d v, h, n, w⟩, al, ld, (i, h, []) :: ef⟩ Q) : ED X ops (o :: r) (m :: ms) i ⟨⟨t, h, n, w⟩, al, ld, ef⟩ Q := by
  refine dr_call _ hw hd hn hc he h1 h2 hcall fun v h' n' W hp => ?_
  obtain ⟨rfl, rfl, rfl, hp⟩ := hp
  exact ⟨okLoads_nil, Nat.le_refl _, k v hp⟩
end
end Go.GL
