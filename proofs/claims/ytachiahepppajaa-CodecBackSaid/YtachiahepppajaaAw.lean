/-
  The abstract walk, part 2: the objects of a walk, the state, and what a step must leave. It holds of any program.
-/
import Derived.Test.YtachiahepppajaaAv
namespace Go.FH
set_option linter.unusedVariables false
set_option linter.unusedSimpArgs false
open Go Go.RowKit

/-- An object of the walk: gone; a variable with its cells; the elements behind slices of its own. -/
inductive AObj where
  | gone
  | var (cs : List AV)
  | vec (e : Nat) (xs : List (List AV))
  deriving Inhabited
def AObj.live : AObj → Bool
  | .gone => false
  | _ => true
abbrev St := List AObj

def ObjR (E : Env) (L : Loc) : AObj → Prop
  | .gone => True
  | .var cs => L.has = true ∧ L.base = 0 ∧ ∃ (vs : List Value) (t : TypeId), E.w.heap[L.blk]? = some (.cells vs.toArray t (0, 0)) ∧ RlC E cs vs
  | .vec e xs => (L.has = false ∧ xs = []) ∨ (L.has = true ∧ ∃ (cs vs ws : List Value) (t : TypeId), E.w.heap[L.blk]? = some (.cells (cs ++ vs ++ ws).toArray t (0, 0)) ∧ cs.length = L.base ∧ (cs ++ vs ++ ws).length = L.rows ∧ RlE E e xs vs)

def liveB (σ : St) (loc : Nat → Option Loc) (b : Nat) : Prop := ∃ id o L, σ[id]? = some o ∧ o.live = true ∧ loc id = some L ∧ L.has = true ∧ L.blk = b
def forb (X : Nat → Prop) (σ : St) (loc : Nat → Option Loc) (b : Nat) : Prop := X b ∨ liveB σ loc b
abbrev envOf (X : Nat → Prop) (loc : Nat → Option Loc) (σ : St) (w : World) : Env := ⟨loc, forb X σ loc, w⟩

structure Rel (X : Nat → Prop) (loc : Nat → Option Loc) (σ : St) (w : World) : Prop where
  obj : ∀ (id : Nat) (o : AObj), σ[id]? = some o → o.live = true → ∃ L, loc id = some L ∧ ObjR (envOf X loc σ w) L o
  apart : ∀ (i j : Nat) (a b : AObj) (La Lb : Loc), i ≠ j → σ[i]? = some a → σ[j]? = some b → a.live = true → b.live = true → loc i = some La → loc j = some Lb → La.has = true → Lb.has = true → La.blk ≠ Lb.blk
  out : ∀ b, X b → b < w.heap.size ∧ ¬ liveB σ loc b
  beyond : ∀ id, σ.length ≤ id → loc id = none

/-- What has become of a world: only the blocks of D and new ones have turned. -/
structure Ev (D : Nat → Prop) (w w' : World) : Prop where
  size : w.heap.size ≤ w'.heap.size
  blk : ∀ b, b < w.heap.size → ¬ D b → w'.heap[b]? = w.heap[b]?
  os : w'.os = w.os
  tape : w'.tape = w.tape
  output : w'.output = w.output
theorem Ev.refl (D : Nat → Prop) (w : World) : Ev D w w := ⟨Nat.le_refl _, fun _ _ _ => rfl, rfl, rfl, rfl⟩
theorem Ev.trans {D D' : Nat → Prop} {w w1 w2 : World} (h : Ev D w w1) (h' : Ev D' w1 w2) (hD : ∀ b, b < w.heap.size → D' b → D b) : Ev D w w2 :=
  ⟨Nat.le_trans h.size h'.size, fun b hb hn => (h'.blk b (Nat.lt_of_lt_of_le hb h.size) fun hd => hn (hD b hb hd)).trans (h.blk b hb hn), h'.os.trans h.os, h'.tape.trans h.tape, h'.output.trans h.output⟩
theorem Ev.alloc (D : Nat → Prop) (w : World) (o : Obj) : Ev D w (w.alloc o) :=
  ⟨by simp, fun b hb _ => Below.heap_alloc w o b hb, rfl, rfl, rfl⟩
theorem Ev.drew (D : Nat → Prop) (w : World) : Ev D w w.drew := ⟨Nat.le_refl _, fun _ _ _ => rfl, rfl, rfl, rfl⟩
theorem Ev.setRow {D : Nat → Prop} {w : World} {b : Nat} (h : D b) (c : Array Value) : Ev D w (w.setRow b c) :=
  ⟨by simp, fun k _ hk => setRow_other w b k c (by rintro rfl; exact hk h), rfl, rfl, rfl⟩
theorem Ev.below {D : Nat → Prop} {w w' : World} (h : Ev D w w') (hD : ∀ b, b < w.heap.size → ¬ D b) : Below w.heap.size w w' :=
  ⟨h.os, h.tape, h.output, h.size, fun b hb => h.blk b hb (hD b hb)⟩

theorem liveB.lt {X : Nat → Prop} {loc : Nat → Option Loc} {σ : St} {w : World} (h : Rel X loc σ w) {b : Nat} (hb : liveB σ loc b) : b < w.heap.size := by
  obtain ⟨id, o, L, h1, h2, h3, h4, rfl⟩ := hb
  obtain ⟨L', h5, h6⟩ := h.obj id o h1 h2
  rw [h3] at h5
  cases h5
  cases o with
  | gone => cases h2
  | var cs =>
    obtain ⟨_, _, vs, t, hg, _⟩ := h6
    exact (Array.getElem?_eq_some_iff.1 hg).1
  | vec e xs =>
    rcases h6 with ⟨h7, _⟩ | ⟨_, cs, vs, ws, t, hg, _⟩
    · rw [h4] at h7; cases h7
    · exact (Array.getElem?_eq_some_iff.1 hg).1

/-- What a step leaves: the value, the objects, the world. -/
structure Out (X : Nat → Prop) (loc : Nat → Option Loc) (σ : St) (w : World) (av : AV) (σ' : St) (v : Value) (w' : World) (loc' : Nat → Option Loc) : Prop where
  locs : ∀ id L, loc id = some L → loc' id = some L
  rel : Rel X loc' σ' w'
  val : Rl (envOf X loc' σ' w') av v
  ev : Ev (liveB σ loc) w w'
  old : ∀ b, liveB σ' loc' b → liveB σ loc b ∨ w.heap.size ≤ b
theorem envLe_of {X : Nat → Prop} {loc loc' : Nat → Option Loc} {σ σ' : St} {w w' : World} (hX : Rel X loc σ w) (locs : ∀ id L, loc id = some L → loc' id = some L) (ev : Ev (liveB σ loc) w w') (old : ∀ b, liveB σ' loc' b → liveB σ loc b ∨ w.heap.size ≤ b) :
    EnvLe (envOf X loc σ w) (envOf X loc' σ' w') :=
  ⟨locs, ev.size, fun b hb hn => ⟨fun hf => hf.elim (fun hx => hn (.inl hx)) (fun hl => (old b hl).elim (fun h1 => hn (.inr h1)) (fun h2 => absurd hb (Nat.not_lt.2 h2))), ev.blk b hb fun hd => hn (.inr hd)⟩⟩
theorem Out.envLe {X : Nat → Prop} {loc loc' : Nat → Option Loc} {σ σ' : St} {w w' : World} {av : AV} {v : Value} (hX : Rel X loc σ w) (h : Out X loc σ w av σ' v w' loc') : EnvLe (envOf X loc σ w) (envOf X loc' σ' w') :=
  envLe_of hX h.locs h.ev h.old

/-- The frame: the first nv slots, and the others, the last written first. -/
structure Fr where
  nv : Nat
  vs : List AV
  ts : List (Nat × AV)
def look : List (Nat × AV) → Nat → AV
  | [], _ => .dead
  | (k, v) :: r, t => if t = k then v else look r t
def Fr.get (f : Fr) (t : Nat) : AV := if t < f.nv then f.vs.getD t .dead else look f.ts t
def Fr.put (f : Fr) (t : Nat) (v : AV) : Fr := if t < f.nv then { f with vs := f.vs.set t v } else { f with ts := (t, v) :: f.ts }
def Fr.putO (f : Fr) : Option Nat → AV → Fr
  | some t, v => f.put t v
  | none, _ => f
theorem Fr.get_put_ne (f : Fr) {t u : Nat} (v : AV) (h : t ≠ u) : (f.put t v).get u = f.get u := by
  unfold Fr.put Fr.get
  by_cases h1 : t < f.nv
  · simp only [h1, if_true]
    by_cases h2 : u < f.nv
    · simp [h2, List.getD, List.getElem?_set, h]
    · simp [h2]
  · simp only [h1, if_false]
    by_cases h2 : u < f.nv
    · simp [h2]
    · simp [h2, look, Ne.symm h]
theorem Fr.get_put_same (f : Fr) (t : Nat) (v : AV) : (f.put t v).get t = v ∨ (f.put t v).get t = .dead := by
  unfold Fr.put Fr.get
  by_cases h1 : t < f.nv
  · simp only [h1, if_true]
    by_cases h4 : t < f.vs.length
    · left; simp [h4]
    · right; simp [List.getD, h4]
  · left; simp [h1, look]

/-- What a walk of a body is set in: blocks that nothing may name, the first world, the blocks that may turn, the first places. -/
structure Cx where
  X : Nat → Prop
  w0 : World
  D0 : Nat → Prop
  loc0 : Nat → Option Loc
structure SR (C : Cx) (nt k : Nat) (fr : Fr) (σ : St) (loc : Nat → Option Loc) (a : Act) (w : World) : Prop where
  rel : Rel C.X loc σ w
  frm : ∀ t, Rl (envOf C.X loc σ w) (fr.get t) (a.tmps.getD t undef)
  size : a.tmps.size = nt
  dfr : a.defers = []
  ev : Ev C.D0 C.w0 w
  old : ∀ b, liveB σ loc b → C.D0 b ∨ C.w0.heap.size ≤ b
  pre : ∀ id, id < k → loc id = C.loc0 id
  klen : k ≤ σ.length

theorem SR.step {C : Cx} {nt k : Nat} {fr : Fr} {σ σ' : St} {loc loc' : Nat → Option Loc} {a : Act} {w w' : World} {av : AV} {v : Value} (h : SR C nt k fr σ loc a w) (o : Out C.X loc σ w av σ' v w' loc')
    (hk : ∀ id, id < k → loc' id = loc id) (hl : σ.length ≤ σ'.length) (dst : Option Nat) (hd : ∀ t, dst = some t → t < nt) : SR C nt k (fr.putO dst av) σ' loc' (a.put dst v) w' := by
  have hle := o.envLe h.rel
  refine ⟨o.rel, fun t => ?_, ?_, ?_, h.ev.trans o.ev ?_, ?_, ?_, Nat.le_trans h.klen hl⟩
  · cases dst with
    | none => exact Rl.mono hle _ _ (h.frm t)
    | some d =>
      have hds := hd d rfl
      simp only [Fr.putO, Act.put]
      by_cases hdt : d = t
      · subst hdt
        have hv : (a.tmps.setIfInBounds d v).getD d undef = v := by
          simp [Array.getD, h.size, hds]
        rw [hv]
        rcases Fr.get_put_same fr d av with h1 | h1
        · rw [h1]; exact o.val
        · rw [h1]; trivial
      · have hv : (a.tmps.setIfInBounds d v).getD t undef = a.tmps.getD t undef := by
          simp only [Array.getD_eq_getD_getElem?, Array.getElem?_setIfInBounds_ne hdt]
        rw [hv]
        rw [Fr.get_put_ne fr av hdt]
        exact Rl.mono hle _ _ (h.frm t)
  · cases dst <;> simp [Act.put, h.size]
  · cases dst <;> simp [Act.put, h.dfr]
  · intro b hb hd
    rcases h.old b hd with h1 | h1
    · exact h1
    · exact absurd hb (Nat.not_lt.2 h1)
  · intro b hb
    rcases o.old b hb with h1 | h1
    · exact h.old b h1
    · exact .inr (Nat.le_trans h.ev.size h1)
  · intro id hid
    rw [hk id hid, h.pre id hid]
end Go.FH
