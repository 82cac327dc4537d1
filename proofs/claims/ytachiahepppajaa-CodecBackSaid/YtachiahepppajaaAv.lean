/-
  The abstract walk, part 1: abstract values, what they say of a world, and how that is kept. It holds of any program.
-/
import Derived.Test.YtachiahepppajaaBase
namespace Go.FH
set_option linter.unusedVariables false
set_option linter.unusedSimpArgs false
open Go Go.RowKit

/-- Abstract values. sl: a slice that nobody writes any more; hs: a slice over an object of the walk's own; va: a slice over the cells of a variable of the walk's own; elt, vp, ptr: addresses into these. -/
inductive AV where
  | dead
  | bool (b : Bool)
  | int (k : IntKind) (n : Int)
  | str (s : List UInt8)
  | agg (cs : List AV)
  | sl (e : Nat) (cl : Bool) (xs : List (List AV))
  | tup (vs : List AV)
  | ptr (id off : Nat)
  | nilp
  | hs (e id off len : Nat)
  | va (e id off len : Nat)
  | elt (e : Nat) (xs : List (List AV)) (i off : Nat)
  | vp (e id i off : Nat)
  | fn (f : Fn) (caps : List AV)
  | nilf
  deriving Inhabited

/-- What one cell of memory may hold. -/
def AV.cell : AV → Bool
  | .dead | .agg _ | .tup _ => false
  | _ => true

/-- Where an object of the walk lies: its block, the first cell, the cells of the block; has: there is such a block. -/
structure Loc where
  has : Bool
  blk : Nat
  base : Nat
  rows : Nat
  deriving Inhabited

/-- What values are read against: the objects' places, the blocks that no immutable slice may name, the world. -/
structure Env where
  loc : Nat → Option Loc
  F : Nat → Prop
  w : World

mutual
def Rl (E : Env) : AV → Value → Prop
  | .dead, _ => True
  | .bool b, v => v = .bool b
  | .int k n, v => v = .int k n
  | .str s, v => v = .string ⟨s.toArray⟩
  | .agg cs, v => ∃ vs : List Value, v = .agg vs.toArray ∧ RlC E cs vs
  | .sl e cl xs, v => ∃ a n cap, v = .slice a n cap ∧ n = xs.length ∧ n ≤ cap ∧ cap ≤ maxLen ∧ (cl = true → cap = n) ∧ (a = none → cap = 0) ∧
      (n = 0 ∨ ∃ b off vs, a = some ⟨b, off, none⟩ ∧ b < E.w.heap.size ∧ ¬ E.F b ∧ range? E.w b off (n * e) = some (List.toArray vs) ∧ RlE E e xs vs)
  | .tup us, v => ∃ vs : List Value, v = .tuple vs.toArray ∧ RlS E us vs
  | .ptr id off, v => ∃ L, E.loc id = some L ∧ L.has = true ∧ v = .pointer (some ⟨L.blk, L.base + off, none⟩)
  | .nilp, v => v = .pointer none
  | .hs e id off len, v => ∃ a cap L, v = .slice a len cap ∧ len ≤ cap ∧ cap ≤ maxLen ∧ (a = none → cap = 0) ∧ E.loc id = some L ∧
      (cap = 0 ∨ (L.has = true ∧ a = some ⟨L.blk, L.base + off * e, none⟩ ∧ L.base + (off + cap) * e ≤ L.rows))
  | .va e id off len, v => ∃ a cap L, v = .slice a len cap ∧ len ≤ cap ∧ cap ≤ maxLen ∧ (a = none → cap = 0) ∧ E.loc id = some L ∧ L.has = true ∧
      (cap = 0 ∨ a = some ⟨L.blk, L.base + off, none⟩)
  | .elt e xs i off, v => ∃ b o vs, v = .pointer (some ⟨b, o + i * e + off, none⟩) ∧ b < E.w.heap.size ∧ ¬ E.F b ∧ range? E.w b o (xs.length * e) = some (List.toArray vs) ∧ RlE E e xs vs
  | .vp e id i off, v => ∃ L, E.loc id = some L ∧ L.has = true ∧ v = .pointer (some ⟨L.blk, L.base + i * e + off, none⟩)
  | .fn f caps, v => ∃ vs : List Value, v = .func f #[] vs.toArray ∧ RlS E caps vs
  | .nilf, v => v = .nilFunc
/-- Cell by cell. -/
def RlC (E : Env) : List AV → List Value → Prop
  | [], vs => vs = []
  | c :: cs, vs => ∃ u us, vs = u :: us ∧ c.cell = true ∧ Rl E c u ∧ RlC E cs us
/-- Value by value. -/
def RlS (E : Env) : List AV → List Value → Prop
  | [], vs => vs = []
  | c :: cs, vs => ∃ u us, vs = u :: us ∧ Rl E c u ∧ RlS E cs us
/-- Element by element, e cells each. -/
def RlE (E : Env) (e : Nat) : List (List AV) → List Value → Prop
  | [], vs => vs = []
  | x :: xs, vs => ∃ us ws, vs = us ++ ws ∧ us.length = e ∧ RlC E x us ∧ RlE E e xs ws
end

structure EnvLe (E E' : Env) : Prop where
  loc : ∀ id L, E.loc id = some L → E'.loc id = some L
  size : E.w.heap.size ≤ E'.w.heap.size
  blk : ∀ b, b < E.w.heap.size → ¬ E.F b → ¬ E'.F b ∧ E'.w.heap[b]? = E.w.heap[b]?
theorem EnvLe.refl (E : Env) : EnvLe E E := ⟨fun _ _ h => h, Nat.le_refl _, fun _ _ h => ⟨h, rfl⟩⟩

mutual
theorem Rl.mono {E E' : Env} (h : EnvLe E E') : ∀ (av : AV) (v : Value), Rl E av v → Rl E' av v
  | .dead, _, _ => trivial
  | .bool b, v, hv => hv
  | .int k n, v, hv => hv
  | .str s, v, hv => hv
  | .agg cs, v, hv => by
    obtain ⟨vs, e, hc⟩ := hv
    exact ⟨vs, e, RlC.mono h cs vs hc⟩
  | .sl e cl xs, v, hv => by
    obtain ⟨a, n, cap, h1, h2, h3, h4, h5, h6, h7⟩ := hv
    refine ⟨a, n, cap, h1, h2, h3, h4, h5, h6, h7.imp id ?_⟩
    rintro ⟨b, off, vs, g1, g2, g3, g4, g5⟩
    obtain ⟨k1, k2⟩ := h.blk b g2 g3
    exact ⟨b, off, vs, g1, Nat.lt_of_lt_of_le g2 h.size, k1, by rw [range?_block k2]; exact g4, RlE.mono h e xs vs g5⟩
  | .tup us, v, hv => by
    obtain ⟨vs, e, hc⟩ := hv
    exact ⟨vs, e, RlS.mono h us vs hc⟩
  | .ptr id off, v, hv => by
    obtain ⟨L, h1, h2⟩ := hv
    exact ⟨L, h.loc _ _ h1, h2⟩
  | .nilp, v, hv => hv
  | .hs e id off len, v, hv => by
    obtain ⟨a, cap, L, h1, h2, h3, h4, h5, h6⟩ := hv
    exact ⟨a, cap, L, h1, h2, h3, h4, h.loc _ _ h5, h6⟩
  | .va e id off len, v, hv => by
    obtain ⟨a, cap, L, h1, h2, h3, h4, h5, h6⟩ := hv
    exact ⟨a, cap, L, h1, h2, h3, h4, h.loc _ _ h5, h6⟩
  | .elt e xs i off, v, hv => by
    obtain ⟨b, o, vs, g1, g2, g3, g4, g5⟩ := hv
    obtain ⟨k1, k2⟩ := h.blk b g2 g3
    exact ⟨b, o, vs, g1, Nat.lt_of_lt_of_le g2 h.size, k1, by rw [range?_block k2]; exact g4, RlE.mono h e xs vs g5⟩
  | .vp e id i off, v, hv => by
    obtain ⟨L, h1, h2⟩ := hv
    exact ⟨L, h.loc _ _ h1, h2⟩
  | .fn f caps, v, hv => by
    obtain ⟨vs, e, hc⟩ := hv
    exact ⟨vs, e, RlS.mono h caps vs hc⟩
  | .nilf, v, hv => hv
theorem RlC.mono {E E' : Env} (h : EnvLe E E') : ∀ (cs : List AV) (vs : List Value), RlC E cs vs → RlC E' cs vs
  | [], _, hv => hv
  | c :: cs, _, hv => by
    obtain ⟨u, us, h1, h2, h3, h4⟩ := hv
    exact ⟨u, us, h1, h2, Rl.mono h c u h3, RlC.mono h cs us h4⟩
theorem RlS.mono {E E' : Env} (h : EnvLe E E') : ∀ (cs : List AV) (vs : List Value), RlS E cs vs → RlS E' cs vs
  | [], _, hv => hv
  | c :: cs, _, hv => by
    obtain ⟨u, us, h1, h3, h4⟩ := hv
    exact ⟨u, us, h1, Rl.mono h c u h3, RlS.mono h cs us h4⟩
theorem RlE.mono {E E' : Env} (h : EnvLe E E') (e : Nat) : ∀ (xs : List (List AV)) (vs : List Value), RlE E e xs vs → RlE E' e xs vs
  | [], _, hv => hv
  | x :: xs, _, hv => by
    obtain ⟨us, ws, h1, h2, h3, h4⟩ := hv
    exact ⟨us, ws, h1, h2, RlC.mono h x us h3, RlE.mono h e xs ws h4⟩
end

mutual
/-- Other numbers for the objects. -/
def ren (r : Nat → Nat) : AV → AV
  | .dead => .dead
  | .bool b => .bool b
  | .int k n => .int k n
  | .str s => .str s
  | .agg cs => .agg (renL r cs)
  | .sl e cl xs => .sl e cl (renLL r xs)
  | .tup us => .tup (renL r us)
  | .ptr id off => .ptr (r id) off
  | .nilp => .nilp
  | .hs e id off len => .hs e (r id) off len
  | .va e id off len => .va e (r id) off len
  | .elt e xs i off => .elt e (renLL r xs) i off
  | .vp e id i off => .vp e (r id) i off
  | .fn f caps => .fn f (renL r caps)
  | .nilf => .nilf
def renL (r : Nat → Nat) : List AV → List AV
  | [] => []
  | c :: cs => ren r c :: renL r cs
def renLL (r : Nat → Nat) : List (List AV) → List (List AV)
  | [] => []
  | x :: xs => renL r x :: renLL r xs
end
theorem renL_map (r : Nat → Nat) : ∀ cs, renL r cs = cs.map (ren r)
  | [] => rfl
  | c :: cs => by rw [renL, renL_map r cs]; rfl
theorem renLL_map (r : Nat → Nat) : ∀ xs, renLL r xs = xs.map (renL r)
  | [] => rfl
  | c :: cs => by rw [renLL, renLL_map r cs]; rfl
@[simp] theorem length_renL (r : Nat → Nat) (cs : List AV) : (renL r cs).length = cs.length := by simp [renL_map]
@[simp] theorem length_renLL (r : Nat → Nat) (cs : List (List AV)) : (renLL r cs).length = cs.length := by simp [renLL_map]
theorem cell_ren (r : Nat → Nat) (c : AV) : (ren r c).cell = c.cell := by cases c <;> rfl

mutual
theorem Rl_ren {E E' : Env} {r : Nat → Nat} (h : ∀ id, E'.loc id = E.loc (r id)) (hw : E'.w = E.w) (hF : E'.F = E.F) : ∀ (av : AV) (v : Value), Rl E' av v ↔ Rl E (ren r av) v
  | .dead, _ => Iff.rfl
  | .bool b, v => Iff.rfl
  | .int k n, v => Iff.rfl
  | .str s, v => Iff.rfl
  | .agg cs, v => by
    simp only [Rl, ren, RlC_ren h hw hF cs]
  | .sl e cl xs, v => by
    simp only [Rl, ren, RlE_ren h hw hF e xs, length_renLL, hw, hF]
  | .tup us, v => by
    simp only [Rl, ren, RlS_ren h hw hF us]
  | .ptr id off, v => by simp only [Rl, ren, h]
  | .nilp, v => Iff.rfl
  | .hs e id off len, v => by simp only [Rl, ren, h]
  | .va e id off len, v => by simp only [Rl, ren, h]
  | .elt e xs i off, v => by
    simp only [Rl, ren, RlE_ren h hw hF e xs, length_renLL, hw, hF]
  | .vp e id i off, v => by simp only [Rl, ren, h]
  | .fn f caps, v => by
    simp only [Rl, ren, RlS_ren h hw hF caps]
  | .nilf, v => Iff.rfl
theorem RlC_ren {E E' : Env} {r : Nat → Nat} (h : ∀ id, E'.loc id = E.loc (r id)) (hw : E'.w = E.w) (hF : E'.F = E.F) : ∀ (cs : List AV) (vs : List Value), RlC E' cs vs ↔ RlC E (renL r cs) vs
  | [], _ => Iff.rfl
  | c :: cs, vs => by
    simp only [RlC, renL, Rl_ren h hw hF c, RlC_ren h hw hF cs, cell_ren]
theorem RlS_ren {E E' : Env} {r : Nat → Nat} (h : ∀ id, E'.loc id = E.loc (r id)) (hw : E'.w = E.w) (hF : E'.F = E.F) : ∀ (cs : List AV) (vs : List Value), RlS E' cs vs ↔ RlS E (renL r cs) vs
  | [], _ => Iff.rfl
  | c :: cs, vs => by
    simp only [RlS, renL, Rl_ren h hw hF c, RlS_ren h hw hF cs]
theorem RlE_ren {E E' : Env} {r : Nat → Nat} (h : ∀ id, E'.loc id = E.loc (r id)) (hw : E'.w = E.w) (hF : E'.F = E.F) (e : Nat) : ∀ (xs : List (List AV)) (vs : List Value), RlE E' e xs vs ↔ RlE E e (renLL r xs) vs
  | [], _ => Iff.rfl
  | x :: xs, vs => by
    simp only [RlE, renLL, RlC_ren h hw hF x, RlE_ren h hw hF e xs]
end

/-! ### Lists of cells -/
theorem RlC.length {E : Env} : ∀ {cs : List AV} {vs : List Value}, RlC E cs vs → vs.length = cs.length
  | [], _, h => by simp only [RlC] at h; simp [h]
  | c :: cs, _, h => by
    obtain ⟨u, us, rfl, _, _, h4⟩ := h
    simp [RlC.length h4]
theorem RlC.app {E : Env} : ∀ {a b : List AV} {va vb : List Value}, RlC E a va → RlC E b vb → RlC E (a ++ b) (va ++ vb)
  | [], _, _, _, h, hb => by simp only [RlC] at h; subst h; simpa using hb
  | c :: cs, _, _, _, h, hb => by
    obtain ⟨u, us, rfl, h2, h3, h4⟩ := h
    exact ⟨u, us ++ _, rfl, h2, h3, RlC.app h4 hb⟩
theorem RlC.take {E : Env} : ∀ {a : List AV} {va : List Value} (n : Nat), RlC E a va → RlC E (a.take n) (va.take n)
  | [], _, n, h => by simp only [RlC] at h; subst h; simp [RlC]
  | c :: cs, _, 0, h => by simp [RlC]
  | c :: cs, _, n + 1, h => by
    obtain ⟨u, us, rfl, h2, h3, h4⟩ := h
    exact ⟨u, us.take n, rfl, h2, h3, RlC.take n h4⟩
theorem RlC.drop {E : Env} : ∀ {a : List AV} {va : List Value} (n : Nat), RlC E a va → RlC E (a.drop n) (va.drop n)
  | [], _, n, h => by simp only [RlC] at h; subst h; simp [RlC]
  | c :: cs, _, 0, h => h
  | c :: cs, _, n + 1, h => by
    obtain ⟨u, us, rfl, h2, h3, h4⟩ := h
    exact RlC.drop n h4
theorem RlC.get {E : Env} : ∀ {a : List AV} {va : List Value} (n : Nat) (hn : n < a.length), RlC E a va → ∃ u, va[n]? = some u ∧ a[n].cell = true ∧ Rl E a[n] u
  | [], _, n, hn, h => by simp at hn
  | c :: cs, _, 0, hn, h => by
    obtain ⟨u, us, rfl, h2, h3, h4⟩ := h
    exact ⟨u, rfl, h2, h3⟩
  | c :: cs, _, n + 1, hn, h => by
    obtain ⟨u, us, rfl, h2, h3, h4⟩ := h
    obtain ⟨u', g⟩ := RlC.get n (by simpa using hn) h4
    exact ⟨u', by simpa using g⟩
theorem oneCell_of {E : Env} {c : AV} {u : Value} (h : Rl E c u) (hc : c.cell = true) : u.oneCell' = true := by
  cases c <;> simp only [AV.cell] at hc <;> simp only [Rl] at h
  all_goals first
    | contradiction
    | (subst h; rfl)
    | (obtain ⟨_, _, _, rfl, _⟩ := h; rfl)
    | (obtain ⟨_, _, _, rfl⟩ := h; rfl)
    | (obtain ⟨_, rfl, _⟩ := h; rfl)
theorem RlC.one {E : Env} : ∀ {a : List AV} {va : List Value}, RlC E a va → ∀ u ∈ va, u.oneCell' = true
  | [], _, h, u, hu => by simp only [RlC] at h; subst h; cases hu
  | c :: cs, _, h, u, hu => by
    obtain ⟨u', us, rfl, h2, h3, h4⟩ := h
    rcases List.mem_cons.1 hu with rfl | h5
    · exact oneCell_of h3 h2
    · exact RlC.one h4 u h5
theorem RlS.length {E : Env} : ∀ {cs : List AV} {vs : List Value}, RlS E cs vs → vs.length = cs.length
  | [], _, h => by simp only [RlS] at h; simp [h]
  | c :: cs, _, h => by
    obtain ⟨u, us, rfl, _, h4⟩ := h
    simp [RlS.length h4]
theorem RlS.app {E : Env} : ∀ {a b : List AV} {va vb : List Value}, RlS E a va → RlS E b vb → RlS E (a ++ b) (va ++ vb)
  | [], _, _, _, h, hb => by simp only [RlS] at h; subst h; simpa using hb
  | c :: cs, _, _, _, h, hb => by
    obtain ⟨u, us, rfl, h3, h4⟩ := h
    exact ⟨u, us ++ _, rfl, h3, RlS.app h4 hb⟩
theorem RlS.get {E : Env} : ∀ {a : List AV} {va : List Value} (n : Nat) (hn : n < a.length), RlS E a va → ∃ u, va[n]? = some u ∧ Rl E a[n] u
  | [], _, n, hn, h => by simp at hn
  | c :: cs, _, 0, hn, h => by
    obtain ⟨u, us, rfl, h3, h4⟩ := h
    exact ⟨u, rfl, h3⟩
  | c :: cs, _, n + 1, hn, h => by
    obtain ⟨u, us, rfl, h3, h4⟩ := h
    obtain ⟨u', g⟩ := RlS.get n (by simpa using hn) h4
    exact ⟨u', by simpa using g⟩
theorem RlS.of_map {E : Env} {α : Type} (f : α → AV) (g : α → Value) : ∀ (l : List α), (∀ x ∈ l, Rl E (f x) (g x)) → RlS E (l.map f) (l.map g)
  | [], _ => rfl
  | x :: l, h => ⟨g x, l.map g, rfl, h x (List.mem_cons_self ..), RlS.of_map f g l fun y hy => h y (List.mem_cons_of_mem _ hy)⟩
theorem RlE.length {E : Env} {e : Nat} : ∀ {xs : List (List AV)} {vs : List Value}, RlE E e xs vs → vs.length = xs.length * e
  | [], _, h => by simp only [RlE] at h; simp [h]
  | x :: xs, _, h => by
    obtain ⟨us, ws, rfl, h2, h3, h4⟩ := h
    simp [RlE.length h4, h2, Nat.add_mul, Nat.add_comm]
theorem RlE.app {E : Env} {e : Nat} : ∀ {a b : List (List AV)} {va vb : List Value}, RlE E e a va → RlE E e b vb → RlE E e (a ++ b) (va ++ vb)
  | [], _, _, _, h, hb => by simp only [RlE] at h; subst h; simpa using hb
  | c :: cs, _, _, _, h, hb => by
    obtain ⟨us, ws, rfl, h2, h3, h4⟩ := h
    exact ⟨us, ws ++ _, by simp, h2, h3, RlE.app h4 hb⟩
theorem RlE.drop {E : Env} {e : Nat} : ∀ {a : List (List AV)} {va : List Value} (n : Nat), RlE E e a va → RlE E e (a.drop n) (va.drop (n * e))
  | [], _, n, h => by simp only [RlE] at h; subst h; simp [RlE]
  | c :: cs, _, 0, h => by simpa using h
  | c :: cs, _, n + 1, h => by
    obtain ⟨us, ws, rfl, h2, h3, h4⟩ := h
    have := RlE.drop n h4
    have e1 : (n + 1) * e = us.length + n * e := by rw [h2, Nat.add_mul]; omega
    rw [e1, List.drop_append, List.drop_of_length_le (Nat.le_add_right us.length (n * e)), List.nil_append, Nat.add_sub_cancel_left]
    exact this
theorem RlE.take {E : Env} {e : Nat} : ∀ {a : List (List AV)} {va : List Value} (n : Nat), RlE E e a va → RlE E e (a.take n) (va.take (n * e))
  | [], _, n, h => by simp only [RlE] at h; subst h; simp [RlE]
  | c :: cs, _, 0, h => by simp [RlE]
  | c :: cs, _, n + 1, h => by
    obtain ⟨us, ws, rfl, h2, h3, h4⟩ := h
    have := RlE.take n h4
    have e1 : (n + 1) * e = us.length + n * e := by rw [h2, Nat.add_mul]; omega
    rw [e1, List.take_append, List.take_of_length_le (Nat.le_add_right us.length (n * e)), Nat.add_sub_cancel_left]
    exact ⟨us, _, rfl, h2, h3, this⟩
theorem RlE.get {E : Env} {e : Nat} : ∀ {a : List (List AV)} {va : List Value} (n : Nat) (hn : n < a.length), RlE E e a va → RlC E a[n] ((va.drop (n * e)).take e)
  | [], _, n, hn, h => by simp at hn
  | c :: cs, _, 0, hn, h => by
    obtain ⟨us, ws, rfl, h2, h3, h4⟩ := h
    simp only [Nat.zero_mul, List.drop_zero]
    rw [List.take_append, List.take_of_length_le (by omega), h2]
    simpa using h3
  | c :: cs, _, n + 1, hn, h => by
    obtain ⟨us, ws, rfl, h2, h3, h4⟩ := h
    have := RlE.get n (by simpa using hn) h4
    have e1 : (n + 1) * e = us.length + n * e := by rw [h2, Nat.add_mul]; omega
    rw [e1, List.drop_append, List.drop_of_length_le (Nat.le_add_right us.length (n * e)), List.nil_append, Nat.add_sub_cancel_left]
    exact this
theorem RlE.one {E : Env} {e : Nat} : ∀ {a : List (List AV)} {va : List Value}, RlE E e a va → ∀ u ∈ va, u.oneCell' = true
  | [], _, h, u, hu => by simp only [RlE] at h; subst h; cases hu
  | c :: cs, _, h, u, hu => by
    obtain ⟨us, ws, rfl, h2, h3, h4⟩ := h
    rcases List.mem_append.1 hu with h5 | h5
    · exact h3.one u h5
    · exact RlE.one h4 u h5
theorem RlE.elen {E : Env} {e : Nat} : ∀ {a : List (List AV)} {va : List Value}, RlE E e a va → ∀ x ∈ a, x.length = e
  | [], _, h, u, hu => by cases hu
  | c :: cs, _, h, u, hu => by
    obtain ⟨us, ws, rfl, h2, h3, h4⟩ := h
    rcases List.mem_cons.1 hu with rfl | h5
    · rw [← h3.length, h2]
    · exact RlE.elen h4 u h5
end Go.FH
