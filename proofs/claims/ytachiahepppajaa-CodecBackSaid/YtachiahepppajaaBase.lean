/-
  Laws on the model that are used by all proofs of this seat: loads and stores of whole aggregates, equality of byte arrays. They hold of any program.
-/
import Derived.WalkKit
import Derived.WalkSpells
import Derived.WalkLawsBesides
import Derived.ChangeKeysEq
import Derived.Lib.Hide
import Derived.Laws.AppendOwnNone
import Derived.Handy
namespace Go.FH
set_option linter.unusedVariables false
set_option linter.unusedSimpArgs false
open Go Go.RowKit

/-- The cells of a byte list. -/
def u8c (r : List UInt8) : Array Value := (r.map fun b => Value.int .u8 b.toNat).toArray
@[simp, go_sem] theorem size_u8c (r : List UInt8) : (u8c r).size = r.length := by simp [u8c]
theorem u8c_get (r : List UInt8) (i : Nat) : (u8c r)[i]? = (r[i]?).map fun b => Value.int .u8 b.toNat := by simp [u8c]

/-- n cells of a block from an offset on. -/
def range? (w : World) (b off n : Nat) : Option (Array Value) :=
  match w.heap[b]? with
  | some (.cells c _ _) => if off + n ≤ c.size then some (c.extract off (off + n)) else none
  | _ => none

theorem range?_cells {w : World} {b off n : Nat} {cs : Array Value} (h : range? w b off n = some cs) :
    cs.size = n ∧ ∀ j v, cs[j]? = some v → w.cell? ⟨b, off + j, none⟩ = some v := by
  unfold range? at h
  split at h
  · rename_i c _ _ hb
    split at h
    · rename_i hle
      simp only [Option.some.injEq] at h
      subst h
      refine ⟨by simp; omega, fun j v hj => ?_⟩
      rw [Array.getElem?_extract] at hj
      split at hj
      · simp [World.cell?, hb, hj]
      · cases hj
    · cases h
  · cases h

@[go_sem] theorem range?_alloc_at (w : World) (c : Array Value) (t : TypeId) (n off k : Nat) (hn : n = w.heap.size) :
    range? (w.alloc (.cells c t)) n off k = if off + k ≤ c.size then some (c.extract off (off + k)) else none := by
  subst hn
  unfold range?
  rw [_root_.Go.heap_alloc_new]
@[go_sem] theorem range?_alloc_past (w : World) (o : Obj) (n off k : Nat) (hn : n < w.heap.size) : range? (w.alloc o) n off k = range? w n off k := by
  unfold range?
  rw [Below.heap_alloc w o n hn]
@[go_sem] theorem range?_drew (w : World) (n off k : Nat) : range? w.drew n off k = range? w n off k := rfl
theorem range?_block {w w' : World} {b : Nat} (h : w'.heap[b]? = w.heap[b]?) (off k : Nat) : range? w' b off k = range? w b off k := by
  unfold range?; rw [h]
theorem range?_of {w : World} {b : Nat} {c : Array Value} {t : TypeId} {f : Nat × Nat} (h : w.heap[b]? = some (.cells c t f)) (off k : Nat) (hk : off + k ≤ c.size) : range? w b off k = some (c.extract off (off + k)) := by
  unfold range?; rw [h]; simp [hk]
@[go_sem] theorem range?_setCell_other (w : World) (a : Addr) (v : Value) (n off k : Nat) (hn : n ≠ a.block) : range? (w.setCell a v) n off k = range? w n off k := by
  unfold range?
  rw [heap_setCell_other w a n v hn]

/-- What a walk is told of a later world. -/
theorem bfacts {B : Nat} {W w1 : World} (hb : Below B W w1) :
    (∀ b o, b < B → w1.cell? ⟨b, o, none⟩ = W.cell? ⟨b, o, none⟩) ∧ (∀ b o, b < B → w1.frozen? ⟨b, o, none⟩ = W.frozen? ⟨b, o, none⟩) ∧ (∀ b o k, b < B → range? w1 b o k = range? W b o k) ∧ W.heap.size ≤ w1.heap.size :=
  ⟨fun b o h => hb.cell (p := ⟨b, o, none⟩) h, fun b o h => hb.frozen (p := ⟨b, o, none⟩) h, fun b o k h => range?_block (hb.block b h) o k, hb.size⟩

def slowLoad (P : Program) (t : TypeId) (v : Value) (w : World) : Result Next := (do pure (Next.value (← Instr.loadAt t v)) : Sem Next).run P w

/-- The type's variables are aggregates. -/
def aggB (P : Program) (t : TypeId) : Bool := (match P.underlying t with | some (.struct _) | some (.array _ _) => true | _ => false) && (P.info? t).isSome
def sizeB (P : Program) (t : TypeId) : Nat := match P.info? t with | some i => i.size | none => 0

@[go_sem] def loadAgg (P : Program) (t : TypeId) (w : World) : Value → Result Next
  | .pointer (some ⟨b, off, none⟩) =>
    match range? w b off (sizeB P t) with
    | some cs => .ok (.value (.agg cs)) w
    | none => slowLoad P t (.pointer (some ⟨b, off, none⟩)) w
  | v => slowLoad P t v w

theorem run_loadVar_range (P : Program) (w : World) (b off : Nat) (t : TypeId) (cs : Array Value) (ha : aggB P t = true) (h : range? w b off (sizeB P t) = some cs) :
    (loadVar t ⟨b, off, none⟩).run P w = .ok (.agg cs) w := by
  obtain ⟨hs, hc⟩ := range?_cells h
  unfold aggB at ha
  rw [Bool.and_eq_true] at ha
  obtain ⟨ha1, ha2⟩ := ha
  obtain ⟨i, hi⟩ := Option.isSome_iff_exists.1 ha2
  have hl : (loadCells ⟨b, off, none⟩ cs.toList.length).run P w = .ok cs.toList.toArray w :=
    run_loadCells_list (P := P) w ⟨b, off, none⟩ cs.toList (fun j v hv => by
      have hadd : (⟨b, off, none⟩ : Addr).add j = ⟨b, off + j, none⟩ := by unfold Addr.add; split <;> simp_all
      rw [hadd]
      exact hc j v (by simpa using hv))
  have hsz : i.size = cs.size := by rw [hs]; simp [sizeB, hi]
  cases hu : P.underlying t with
  | none => simp [hu] at ha1
  | some d =>
    have hagg : (isAgg t).run P w = .ok true w := by
      unfold isAgg
      rw [Sem.run_bind, run_underlying hu w]
      cases d <;> simp_all
    simp only [Array.length_toList, Array.toArray_toList] at hl
    simp [loadVar, Sem.run_bind, hagg, sizeOf, typeInfo, hi, hsz, hl]

/-- A load of a whole aggregate, at the operation. -/
theorem exec_load (P : Program) (ρ : Operand → Value) (dst : Option Tmp) (t : TypeId) (x : Operand) (ty : TypeId) (pos : String) (aft : Array Edge) (g : Option (Nat × Bool)) (w : World)
    (ha : aggB P t = true) : (execOp ρ ⟨dst, .load t x, ty, pos, aft, g⟩).run P w = loadAgg P t w (ρ x) := by
  have e : execOp ρ ⟨dst, .load t x, ty, pos, aft, g⟩ = (do pure (Next.value (← Instr.loadAt t (ρ x))) : Sem Next) := rfl
  rw [e]
  unfold loadAgg
  split
  · rename_i b off hx
    split
    · rename_i cs hcs
      rw [hx]
      simp [Instr.loadAt, Instr.sureAddr, run_loadVar_range P w b off t cs ha hcs]
    · rw [hx]; rfl
  · rfl

/-- The cells of a block with some of them replaced. -/
def putRange (c : Array Value) (off : Nat) (vs : List Value) : Array Value := (c.toList.take off ++ vs ++ c.toList.drop (off + vs.length)).toArray

theorem size_putRange (c : Array Value) (off : Nat) (vs : List Value) (h : off + vs.length ≤ c.size) : (putRange c off vs).size = c.size := by
  simp [putRange]; omega

theorem putRange_get (c : Array Value) (off : Nat) (vs : List Value) (h : off + vs.length ≤ c.size) (i : Nat) :
    (putRange c off vs)[i]? = if off ≤ i ∧ i < off + vs.length then vs[i - off]? else c[i]? := by
  simp only [putRange, List.getElem?_toArray, List.append_assoc]
  by_cases h1 : i < off
  · rw [List.getElem?_append_left (by simp; omega), List.getElem?_take, if_pos h1, if_neg (by omega)]; simp
  · rw [List.getElem?_append_right (by simp; omega)]
    have hl : (List.take off c.toList).length = off := by simp; omega
    rw [hl]
    by_cases h2 : i < off + vs.length
    · rw [List.getElem?_append_left (by omega), if_pos ⟨by omega, h2⟩]
    · rw [List.getElem?_append_right (by omega), if_neg (by omega), List.getElem?_drop]
      simp only [Array.getElem?_toList]
      congr 1; omega

/-- The cells of a block that is a row of cells of which none is frozen. -/
def rowOf? (w : World) (b : Nat) : Option (Array Value × TypeId) :=
  match w.heap[b]? with
  | some (.cells c e (0, 0)) => some (c, e)
  | _ => none
theorem rowOf?_eq {w : World} {b : Nat} {c : Array Value} {e : TypeId} (h : rowOf? w b = some (c, e)) : w.heap[b]? = some (.cells c e (0, 0)) := by
  unfold rowOf? at h
  split at h
  · rename_i hb
    simp only [Option.some.injEq, Prod.mk.injEq] at h
    obtain ⟨rfl, rfl⟩ := h
    exact hb
  · cases h
theorem rowOf?_of {w : World} {b : Nat} {c : Array Value} {e : TypeId} (h : w.heap[b]? = some (.cells c e (0, 0))) : rowOf? w b = some (c, e) := by
  unfold rowOf?; rw [h]; rfl
@[go_sem] theorem rowOf?_alloc_at (w : World) (c : Array Value) (t : TypeId) (n : Nat) (hn : n = w.heap.size) : rowOf? (w.alloc (.cells c t)) n = some (c, t) := by
  subst hn
  exact rowOf?_of (_root_.Go.heap_alloc_new w _)
@[go_sem] theorem rowOf?_alloc_past (w : World) (o : Obj) (n : Nat) (hn : n < w.heap.size) : rowOf? (w.alloc o) n = rowOf? w n := by
  unfold rowOf?
  rw [Below.heap_alloc w o n hn]
@[go_sem] theorem rowOf?_drew (w : World) (n : Nat) : rowOf? w.drew n = rowOf? w n := rfl
@[go_sem] theorem rowOf?_drewN (w : World) (q n : Nat) : rowOf? (w.drewN q) n = rowOf? w n := rfl
theorem rowOf?_block {w w' : World} {b : Nat} (h : w'.heap[b]? = w.heap[b]?) : rowOf? w' b = rowOf? w b := by
  unfold rowOf?; rw [h]
@[go_sem] theorem rowOf?_setRow_other (w : World) (g : Nat) (c : Array Value) (n : Nat) (hn : n ≠ g) : rowOf? (w.setRow g c) n = rowOf? w n := rowOf?_block (setRow_other w g n c hn)
@[go_sem] theorem rowOf?_setRow_same (w : World) (g : Nat) (c : Array Value) : rowOf? (w.setRow g c) g = (rowOf? w g).map fun x => (c, x.2) := by
  cases h : rowOf? w g with
  | some x => obtain ⟨c0, e⟩ := x; exact rowOf?_of (setRow_heap w g c0 c e (0, 0) (rowOf?_eq h))
  | none =>
    cases h2 : rowOf? (w.setRow g c) g with
    | none => rfl
    | some y =>
      exfalso
      have h3 := rowOf?_eq h2
      simp only [World.setRow, Array.getElem?_modify, if_pos] at h3
      cases h4 : w.heap[g]? with
      | none => simp [h4] at h3
      | some o =>
        cases o with
        | cells c1 e1 f1 =>
          simp only [h4, Option.map_some, Option.some.injEq, Obj.cells.injEq] at h3
          obtain ⟨_, _, rfl⟩ := h3
          rw [rowOf?_of h4] at h
          cases h
        | _ => simp [h4] at h3
@[go_sem] theorem rowOf?_setCell_other (w : World) (a : Addr) (v : Value) (n : Nat) (hn : n ≠ a.block) : rowOf? (w.setCell a v) n = rowOf? w n := rowOf?_block (heap_setCell_other w a n v hn)
@[go_sem] theorem rowOf?_setCell_same (w : World) (b i : Nat) (v : Value) : rowOf? (w.setCell ⟨b, i, none⟩ v) b = (rowOf? w b).map fun x => (x.1.setIfInBounds i v, x.2) := by
  cases h : rowOf? w b with
  | some x =>
    obtain ⟨c, e⟩ := x
    have hb := rowOf?_eq h
    rw [setCell_eq_setRow w b i c e (0, 0) v hb]
    exact rowOf?_of (setRow_heap w b c _ e (0, 0) hb)
  | none =>
    cases h2 : rowOf? (w.setCell ⟨b, i, none⟩ v) b with
    | none => rfl
    | some y =>
      exfalso
      have h3 := rowOf?_eq h2
      simp only [World.setCell, Array.getElem?_modify, if_pos] at h3
      cases h4 : w.heap[b]? with
      | none => simp [h4] at h3
      | some o =>
        cases o with
        | cells c1 e1 f1 =>
          simp only [h4, Option.map_some, Option.some.injEq, Obj.cells.injEq] at h3
          obtain ⟨_, _, rfl⟩ := h3
          rw [rowOf?_of h4] at h
          cases h
        | _ => simp [h4] at h3
/-- A row is read by cells. -/
theorem rowOf?_cell {w : World} {b : Nat} {c : Array Value} {e : TypeId} (h : rowOf? w b = some (c, e)) (off : Nat) : w.cell? ⟨b, off, none⟩ = c[off]? := cell_of_row w b off c e (0, 0) (rowOf?_eq h)
theorem rowOf?_frozen {w : World} {b : Nat} {c : Array Value} {e : TypeId} (h : rowOf? w b = some (c, e)) (off : Nat) : w.frozen? ⟨b, off, none⟩ = false := frozen_of_row w b off c e (rowOf?_eq h)
theorem rowOf?_range {w : World} {b : Nat} {c : Array Value} {e : TypeId} (h : rowOf? w b = some (c, e)) (off k : Nat) : range? w b off k = if off + k ≤ c.size then some (c.extract off (off + k)) else none := by
  unfold range?; rw [rowOf?_eq h]
theorem rowOf?_lt {w : World} {b : Nat} {c : Array Value} {e : TypeId} (h : rowOf? w b = some (c, e)) : b < w.heap.size := (Array.getElem?_eq_some_iff.1 (rowOf?_eq h)).1
/-- All that a walk is told of a row of the call's own. -/
theorem rfacts {w : World} {b : Nat} {c : Array Value} {e : TypeId} (h : rowOf? w b = some (c, e)) :
    (∀ off, w.cell? ⟨b, off, none⟩ = c[off]?) ∧ (∀ off, w.frozen? ⟨b, off, none⟩ = false) ∧ (∀ off k, range? w b off k = if off + k ≤ c.size then some (c.extract off (off + k)) else none) ∧ b < w.heap.size :=
  ⟨rowOf?_cell h, rowOf?_frozen h, rowOf?_range h, rowOf?_lt h⟩

@[go_sem] theorem setRow_alloc_at (w : World) (c c' : Array Value) (t : TypeId) (n : Nat) (hn : n = w.heap.size) : (w.alloc (.cells c t)).setRow n c' = w.alloc (.cells c' t) := by
  subst hn
  have h := setRow_heap (w.alloc (.cells c t)) w.heap.size c c' t (0, 0) (_root_.Go.heap_alloc_new w _)
  simp only [World.setRow, World.alloc, World.mk.injEq, and_true]
  apply Array.ext_getElem?
  intro i
  simp only [Array.getElem?_modify, Array.getElem?_push]
  by_cases h1 : i = w.heap.size
  · subst h1; simp
  · rw [if_neg (fun e => h1 e.symm), if_neg h1, if_neg h1]
@[go_sem] theorem setRow_alloc_past (w : World) (o : Obj) (n : Nat) (c : Array Value) (hn : n < w.heap.size) : (w.alloc o).setRow n c = (w.setRow n c).alloc o := by
  simp only [World.setRow, World.alloc, World.mk.injEq, and_true]
  apply Array.ext_getElem?
  intro i
  simp only [Array.getElem?_modify, Array.getElem?_push, Array.size_modify]
  by_cases h1 : i = w.heap.size
  · subst h1; rw [if_neg (by omega), if_pos rfl, if_pos rfl]
  · rw [if_neg h1, if_neg h1]
@[go_sem] theorem cell_setRow_same' (w : World) (b : Nat) (c : Array Value) (off : Nat) (h : (rowOf? w b).isSome = true) : (w.setRow b c).cell? ⟨b, off, none⟩ = c[off]? := by
  obtain ⟨⟨c0, e⟩, hx⟩ := Option.isSome_iff_exists.1 h
  exact cell_setRow_same w b off c0 c e (0, 0) (rowOf?_eq hx)
@[go_sem] theorem cell_setRow_other' (w : World) (b : Nat) (c : Array Value) (n off : Nat) (h : n ≠ b) : (w.setRow b c).cell? ⟨n, off, none⟩ = w.cell? ⟨n, off, none⟩ := cell_setRow_other w b c ⟨n, off, none⟩ h
@[go_sem] theorem range_setRow_same (w : World) (b : Nat) (c : Array Value) (off k : Nat) (h : (rowOf? w b).isSome = true) : range? (w.setRow b c) b off k = if off + k ≤ c.size then some (c.extract off (off + k)) else none := by
  obtain ⟨⟨c0, e⟩, hx⟩ := Option.isSome_iff_exists.1 h
  exact rowOf?_range (e := e) (by rw [rowOf?_setRow_same, hx]; rfl) off k
@[go_sem] theorem range_setRow_other (w : World) (b : Nat) (c : Array Value) (n off k : Nat) (h : n ≠ b) : range? (w.setRow b c) n off k = range? w n off k := range?_block (setRow_other w b n c h) off k
@[go_sem] theorem range?_drewN (w : World) (q n off k : Nat) : range? (w.drewN q) n off k = range? w n off k := rfl
theorem Below.setRow {B : Nat} {a w : World} (h : Below B a w) {b : Nat} (hb : B ≤ b) (c : Array Value) : Below B a (w.setRow b c) :=
  h.trans ⟨rfl, rfl, rfl, by simp, fun k hk => setRow_other w b k c (by omega)⟩

/-- Every one of the cells is one cell's value. -/
def plain (vs : Array Value) : Bool := vs.all (·.oneCell')
theorem plain_mem {vs : Array Value} (h : plain vs = true) : ∀ v ∈ vs, v.oneCell' = true := fun v hv => Array.all_eq_true_iff_forall_mem.1 h v hv
theorem plain_app (a b : Array Value) : plain (a ++ b) = (plain a && plain b) := by simp [plain]

def slowStore (P : Program) (t : TypeId) (x v : Value) (w : World) : Result Next := (do Instr.storeAt t x v; pure Next.skip : Sem Next).run P w

@[go_sem] def storeAgg (P : Program) (t : TypeId) (w : World) : Value → Value → Result Next
  | .pointer (some ⟨b, off, none⟩), .agg vs =>
    match rowOf? w b with
    | some (c, _) => if off + vs.size ≤ c.size ∧ vs.size = sizeB P t ∧ plain vs = true then .ok .skip (w.setRow b (putRange c off vs.toList)) else slowStore P t (.pointer (some ⟨b, off, none⟩)) (.agg vs) w
    | none => slowStore P t (.pointer (some ⟨b, off, none⟩)) (.agg vs) w
  | x, v => slowStore P t x v w

theorem exec_store (P : Program) (ρ : Operand → Value) (dst : Option Tmp) (t : TypeId) (x y : Operand) (ty : TypeId) (pos : String) (aft : Array Edge) (g : Option (Nat × Bool)) (w : World)
    (ha : aggB P t = true) : (execOp ρ ⟨dst, .store t x y, ty, pos, aft, g⟩).run P w = storeAgg P t w (ρ x) (ρ y) := by
  have e : execOp ρ ⟨dst, .store t x y, ty, pos, aft, g⟩ = (do Instr.storeAt t (ρ x) (ρ y); pure Next.skip : Sem Next) := rfl
  rw [e]
  unfold storeAgg
  split
  · rename_i b off vs hx hy
    rw [hx, hy]
    split
    · rename_i c et hr
      split
      · rename_i hcond
        obtain ⟨h1, h2, h3⟩ := hcond
        have hb := rowOf?_eq hr
        have hst := run_storeCells_at P b off et vs.toList 0 c w hb (by simpa using h1) (fun v hv => by
          exact plain_mem h3 v (by simpa using hv))
        obtain ⟨i, hi⟩ : ∃ i, P.info? t = some i := Option.isSome_iff_exists.1 (by unfold aggB at ha; rw [Bool.and_eq_true] at ha; exact ha.2)
        have hsz : i.size = vs.size := by rw [h2]; simp [sizeB, hi]
        simp only [Nat.add_zero] at hst
        simp [Instr.storeAt, Instr.sureAddr, storeVar, sizeOf, typeInfo, hi, hsz, Value.cells, hst, putRange]
      · rfl
    · rfl
  · rfl
theorem putRange_all (c : Array Value) (vs : List Value) (h : c.size = vs.length) : putRange c 0 vs = vs.toArray := by
  simp [putRange, h]
@[go_sem] theorem putRange_whole (c d : Array Value) (h : c.size = d.size) : putRange c 0 d.toList = d := by
  rw [putRange_all c d.toList (by simpa using h)]
@[simp, go_sem] theorem plain_u8c (r : List UInt8) : plain (u8c r) = true := by
  simp [plain, u8c, Value.oneCell']

/-- Equality of two byte arrays. -/
theorem run_eqItems_u8 (P : Program) (w : World) (d : Nat) {e : TypeId} (he : P.underlying e = some (.int .u8)) (hs : P.cellsOf e = 1) (xs ys : List UInt8) :
    ∀ (m s : Nat), s + m ≤ xs.length → s + m ≤ ys.length →
    (Op.eqItems (d + 1) e (P.cellsOf e) (u8c xs) (u8c ys) (List.range' s m)).run P w = .ok (decide ((xs.drop s).take m = (ys.drop s).take m)) w := by
  intro m
  induction m with
  | zero => intro s _ _; simp [Op.eqItems]
  | succ m ih =>
    intro s hx hy
    have hx' : s < xs.length := by omega
    have hy' : s < ys.length := by omega
    have hag : (isAgg e).run P w = .ok false w := by
      unfold isAgg
      rw [Sem.run_bind, run_underlying he w]
      simp
    have px : (part e (u8c xs) (s * 1)).run P w = .ok (.int .u8 (xs[s]'hx').toNat) w := by
      simp [part, hag, u8c_get, List.getElem?_eq_getElem hx']
    have py : (part e (u8c ys) (s * 1)).run P w = .ok (.int .u8 (ys[s]'hy').toNat) w := by
      simp [part, hag, u8c_get, List.getElem?_eq_getElem hy']
    have he' : (Op.equalIn (d + 1) e (.int .u8 (xs[s]'hx').toNat) (.int .u8 (ys[s]'hy').toNat)).run P w = .ok (decide (xs[s]'hx' = ys[s]'hy')) w := by
      rw [run_equalIn_int w d e .u8 .u8 _ _ he]
      congr 1
      rw [Bool.eq_iff_iff]
      simp only [beq_iff_eq, decide_eq_true_eq]
      constructor
      · intro h; exact UInt8.toNat_inj.1 (by exact_mod_cast h)
      · intro h; rw [h]
    rw [List.range'_succ, Op.eqItems, hs, Sem.run_bind, px, Result.andThen_ok, Sem.run_bind, py, Result.andThen_ok, Sem.run_bind, he', Result.andThen_ok]
    have dx : (xs.drop s).take (m + 1) = xs[s]'hx' :: (xs.drop (s + 1)).take m := by
      rw [List.drop_eq_getElem_cons hx', List.take_succ_cons]
    have dy : (ys.drop s).take (m + 1) = ys[s]'hy' :: (ys.drop (s + 1)).take m := by
      rw [List.drop_eq_getElem_cons hy', List.take_succ_cons]
    rw [dx, dy]
    by_cases hxy : xs[s]'hx' = ys[s]'hy'
    · have := ih (s + 1) (by omega) (by omega)
      rw [hs] at this
      simp [hxy, this]
    · simp [hxy]

theorem run_equalIn_u8 (P : Program) (w : World) (d : Nat) {t e : TypeId} {n : Nat} (i : TypeInfo) (ht : P.underlying t = some (.array n e)) (he : P.underlying e = some (.int .u8)) (hi : P.info? e = some i)
    (hs : P.cellsOf e = 1) (xs ys : List UInt8) (hx : xs.length = n) (hy : ys.length = n) :
    (Op.equalIn (d + 2) t (.agg (u8c xs)) (.agg (u8c ys))).run P w = .ok (decide (xs = ys)) w := by
  rw [run_equalIn_array w (d + 1) (u8c xs) (u8c ys) ht hi, List.range_eq_range', run_eqItems_u8 P w d he hs xs ys n 0 (by omega) (by omega)]
  simp [List.take_of_length_le (Nat.le_of_eq hx), List.take_of_length_le (Nat.le_of_eq hy)]

/-- The n cells of a slice value with one-cell elements hold cs; its block is one of S. -/
structure Sl (w : World) (S : Nat → Prop) (a : Option Addr) (n cap : Nat) (cs : List Value) : Prop where
  len : cs.length = n
  le : n ≤ cap
  cmax : cap ≤ maxLen
  nocap : a = none → cap = 0
  addr : cap = 0 ∨ ∃ b off, a = some ⟨b, off, none⟩ ∧ S b ∧ b < w.heap.size ∧ ∀ j u, cs[j]? = some u → w.cell? ⟨b, off + j, none⟩ = some u

theorem Sl.nil (w : World) (S : Nat → Prop) : Sl w S none 0 0 [] := ⟨rfl, Nat.le_refl _, by simp [maxLen], fun _ => rfl, .inl rfl⟩
theorem Sl.frame {w w' : World} {S : Nat → Prop} {a : Option Addr} {n cap : Nat} {cs : List Value} (h : Sl w S a n cap cs) (hz : w.heap.size ≤ w'.heap.size) (hf : ∀ b, S b → b < w.heap.size → w'.heap[b]? = w.heap[b]?) : Sl w' S a n cap cs :=
  ⟨h.len, h.le, h.cmax, h.nocap, h.addr.imp id fun ⟨b, off, e, hS, hlt, hc⟩ => ⟨b, off, e, hS, Nat.lt_of_lt_of_le hlt hz, fun j u hj => (World.cell?_of_block (a := ⟨b, off + j, none⟩) (hf b hS hlt)).trans (hc j u hj)⟩⟩
/-- All that was there is kept. -/
theorem Sl.below {w w' : World} {S : Nat → Prop} {B : Nat} {a : Option Addr} {n cap : Nat} {cs : List Value} (h : Sl w S a n cap cs) (hb : Below B w w') (hB : w.heap.size ≤ B) : Sl w' S a n cap cs :=
  h.frame hb.size fun b _ hlt => hb.block b (by omega)
/-- What lies below B is kept. -/
theorem Sl.under {w w' : World} {S : Nat → Prop} {B : Nat} {a : Option Addr} {n cap : Nat} {cs : List Value} (h : Sl w S a n cap cs) (hb : Below B w w') (hB : ∀ b, S b → b < B) : Sl w' S a n cap cs :=
  h.frame hb.size fun b hS _ => hb.block b (hB b hS)
theorem Sl.mono {w : World} {S S' : Nat → Prop} {a : Option Addr} {n cap : Nat} {cs : List Value} (h : Sl w S a n cap cs) (hS : ∀ b, S b → b < w.heap.size → S' b) : Sl w S' a n cap cs :=
  ⟨h.len, h.le, h.cmax, h.nocap, h.addr.imp id fun ⟨b, off, e, h1, hlt, hc⟩ => ⟨b, off, e, hS b h1 hlt, hlt, hc⟩⟩
theorem Sl.drewN {w : World} {S : Nat → Prop} {a : Option Addr} {n cap : Nat} {cs : List Value} (h : Sl w S a n cap cs) (q : Nat) : Sl (w.drewN q) S a n cap cs := h.frame (Nat.le_refl _) fun _ _ _ => rfl
theorem Sl.max {w : World} {S : Nat → Prop} {a : Option Addr} {n cap : Nat} {cs : List Value} (h : Sl w S a n cap cs) : n ≤ 9223372036854775807 := by
  have := h.le; have := h.cmax; simp only [maxLen] at *; omega
theorem Sl.cmax' {w : World} {S : Nat → Prop} {a : Option Addr} {n cap : Nat} {cs : List Value} (h : Sl w S a n cap cs) : cap ≤ 9223372036854775807 := by
  have := h.cmax; simp only [maxLen] at *; omega
/-- A slice with an element has an address. -/
theorem Sl.get {w : World} {S : Nat → Prop} {a : Option Addr} {n cap : Nat} {cs : List Value} (h : Sl w S a n cap cs) (hn : 0 < n) :
    ∃ b off, a = some ⟨b, off, none⟩ ∧ S b ∧ ∀ j u, cs[j]? = some u → w.cell? ⟨b, off + j, none⟩ = some u := by
  rcases h.addr with h0 | ⟨b, off, h1, h2, _, h3⟩
  · have := h.le; omega
  · exact ⟨b, off, h1, h2, h3⟩

/-- The slice value v owns a row of its own, in a block from B on, that holds cs. -/
def Own (w : World) (B : Nat) (e : TypeId) (v : Value) (cs : List Value) : Prop := w.ownsRow B e 1 v cs.length cs

theorem Own.nil (w : World) (B : Nat) (e : TypeId) : Own w B e (.slice none 0 0) [] := World.ownsRow_nil w B e 1
theorem Own.sl {w : World} {B : Nat} {e : TypeId} {v : Value} {cs : List Value} (h : Own w B e v cs) :
    ∃ a n cap, v = .slice a n cap ∧ n = cs.length ∧ Sl w (fun b => B ≤ b) a n cap cs := by
  have h0 : w.ownsRow B e 1 v cs.length cs := h
  rcases h0.2 with ⟨rfl, h1⟩ | ⟨g, cap, cur, rfl, hb, hg, hn, hm, hs, ht⟩
  · have : cs = [] := List.eq_nil_of_length_eq_zero h1
    subst this
    exact ⟨none, 0, 0, rfl, rfl, Sl.nil _ _⟩
  · refine ⟨some ⟨g, 0, none⟩, cs.length, cap, rfl, rfl, ⟨rfl, hn, hm, by simp, .inr ⟨g, 0, rfl, hb, (Array.getElem?_eq_some_iff.1 hg).1, fun j u hj => ?_⟩⟩⟩
    have := h0.cells (g := g) rfl j u hj
    have hadd : (⟨g, 0, none⟩ : Addr).add j = ⟨g, 0 + j, none⟩ := by unfold Addr.add; split <;> simp_all
    rwa [hadd] at this
theorem Own.mono {w : World} {B B' : Nat} {e : TypeId} {v : Value} {cs : List Value} (h : Own w B e v cs) (hB : B' ≤ B) : Own w B' e v cs :=
  ⟨h.1, h.2.imp id fun ⟨g, cap, cur, h1, h2, h3⟩ => ⟨g, cap, cur, h1, Nat.le_trans hB h2, h3⟩⟩
theorem Own.lt {w : World} {B : Nat} {e : TypeId} {v : Value} {cs : List Value} (h : Own w B e v cs) : ∀ k, v.ownBlock = some k → B ≤ k ∧ k < w.heap.size := World.ownsRow.lt h
/-- What is owned stays so where everything from before is kept. -/
theorem Own.below {w w' : World} {B C : Nat} {e : TypeId} {v : Value} {cs : List Value} (h : Own w B e v cs) (hb : Below C w w') (hC : w.heap.size ≤ C) : Own w' B e v cs := by
  have h0 : w.ownsRow B e 1 v cs.length cs := h
  refine ⟨h0.1, ?_⟩
  rcases h0.2 with h1 | ⟨g, cap, cur, rfl, hbb, hg, r⟩
  · exact .inl h1
  · have hlt : g < w.heap.size := (Array.getElem?_eq_some_iff.1 hg).1
    exact .inr ⟨g, cap, cur, rfl, hbb, (hb.block g (by omega)).trans hg, r⟩
theorem Own.alloc {w : World} {B : Nat} {e : TypeId} {v : Value} {cs : List Value} (h : Own w B e v cs) (o : Obj) : Own (w.alloc o) B e v cs := World.ownsRow.alloc h o

/-- What the tables say of an element type of one cell. -/
structure Elem (P : Program) (t e : TypeId) (bytes : Nat) : Prop where
  slice : P.underlying t = some (.slice e)
  info : (P.info? e).map (fun i => (i.zero.map (·.cells.size), i.size, i.bytes)) = some (some 1, 1, bytes)

theorem Elem.parts {P : Program} {t e : TypeId} {bytes : Nat} (h : Elem P t e bytes) :
    ∃ i z, P.info? e = some i ∧ i.zero = some z ∧ z.cells.size = 1 ∧ i.size = 1 ∧ i.bytes = bytes := by
  obtain ⟨i, hi, h2⟩ := Option.map_eq_some_iff.1 h.info
  simp only [Prod.mk.injEq] at h2
  obtain ⟨h3, h4, h5⟩ := h2
  obtain ⟨z, hz, hzs⟩ := Option.map_eq_some_iff.1 h3
  exact ⟨i, z, hi, hz, hzs, h4, h5⟩

/-- An append to a slice that is nil or the call's own, as a run. -/
theorem run_append_sl {P : Program} {w : World} (ty : TypeId) (t : TypeId) {e bytes : Nat} (E : Elem P t e bytes)
    {B : Nat} {v : Value} {cs : List Value} (hown : Own w B e v cs) {S' : Nat → Prop} {m c : Nat} {ad : Option Addr} {news : List Value}
    (hnews : Sl w S' ad m c news) (h1 : ∀ u ∈ news, u.oneCell' = true) (hbytes : (cs.length + m) * bytes ≤ 140737488355328) (hmax : cs.length + m ≤ 9223372036854775807) (hB : B ≤ w.heap.size) :
    ∃ v' w', (Builtin.append_ #[t, t] ty #[v, .slice ad m c]).run P w = .ok v' w' ∧ Own w' B e v' (cs ++ news) ∧ Below B w w' ∧ w.grownBy w' v.ownBlock := by
  obtain ⟨i, z, hi, hz, hzs, hsz, hby⟩ := E.parts
  cases ad with
  | none =>
    have hc := hnews.nocap rfl
    have hm0 : m = 0 := by have := hnews.le; omega
    subst hm0
    subst hc
    have hn0 : news = [] := List.eq_nil_of_length_eq_zero hnews.len
    subst hn0
    have hrun := run_append_owned_none (P := P) (w := w) B t ty e i 1 E.slice hi v cs.length cs hown
    exact ⟨v, w, hrun, by rw [List.append_nil]; exact hown, Below.refl _ _, ⟨rfl, rfl, rfl, Nat.le_refl _, fun _ _ _ => rfl⟩⟩
  | some ad =>
    obtain ⟨v', w', hr, hown', hg, _⟩ := run_append_own (P := P) w B t ty e i z 1 bytes E.slice hi hz hsz hby hzs (by decide) v cs.length cs hown ad m c news (by rw [hnews.len, Nat.mul_one])
      (fun j u hj => by
        have hjl : j < news.length := (List.getElem?_eq_some_iff.1 hj).1
        have hln := hnews.len
        rcases hnews.addr with h0 | ⟨b, off, he, _, hlt, hc⟩
        · have := hnews.le; omega
        · simp only [Option.some.injEq] at he
          subst he
          have hadd : (⟨b, off, none⟩ : Addr).add j = ⟨b, off + j, none⟩ := by unfold Addr.add; split <;> simp_all
          rw [hadd]; exact hc j u hj) h1 (by simp only [maxLen]; omega) hbytes hB
    refine ⟨v', w', hr, ?_, (Below.refl B w).grown hg hB fun k hk => (hown.lt k hk).1, hg⟩
    unfold Own
    rw [List.length_append, hnews.len]
    exact hown'

theorem wp_append_sl {P : Program} {w : World} {o : Oper} {a : Act} {K : Act → World → Prop} {Q : Exit → Act → World → Prop} (s x : Operand) (t : TypeId)
    (ho : o.op = .call { callee := .builtin .append, args := #[s, x], argTypes := #[t, t] }) {e bytes : Nat} (E : Elem P t e bytes)
    {B : Nat} {v : Value} {cs : List Value} (hs : a.eval s = v) (hown : Own w B e v cs) {S' : Nat → Prop} {m c : Nat} {ad : Option Addr} {news : List Value}
    (hx : a.eval x = .slice ad m c) (hnews : Sl w S' ad m c news) (h1 : ∀ u ∈ news, u.oneCell' = true) (hbytes : (cs.length + m) * bytes ≤ 140737488355328) (hmax : cs.length + m ≤ 9223372036854775807) (hB : B ≤ w.heap.size)
    (h : ∀ v' w', Own w' B e v' (cs ++ news) → Below B w w' → Hid (w.grownBy w' v.ownBlock) → K (a.put o.dst v') w') : o.wp P a w K Q := by
  obtain ⟨v', w', hr, h2, h3, h4⟩ := run_append_sl (P := P) o.type t E hown hnews h1 hbytes hmax hB
  unfold Oper.wp execOp
  simp only [ho, resolve, invoke, builtin, Sem.run_bind, Sem.run_pure, Result.andThen_ok, List.map_toArray, List.map_cons, List.map_nil, hs, hx, hr]
  exact h v' w' h2 h3 h4

/-- An append to a slice that is nil or the call's own. -/
theorem wl_append {P : Program} {w : World} {ops : Array Oper} {rest : List Oper} {o : Oper} {a : Act} {Q : Exit → Act → World → Prop} (hgd : o.guard = none) (s x : Operand) (t : TypeId)
    (ho : o.op = .call { callee := .builtin .append, args := #[s, x], argTypes := #[t, t] }) {e bytes : Nat} (E : Elem P t e bytes)
    {B : Nat} {v : Value} {cs : List Value} (hs : a.eval s = v) (hown : Own w B e v cs) {S' : Nat → Prop} {m c : Nat} {ad : Option Addr} {news : List Value}
    (hx : a.eval x = .slice ad m c) (hnews : Sl w S' ad m c news) (h1 : ∀ u ∈ news, u.oneCell' = true) (hbytes : (cs.length + m) * bytes ≤ 140737488355328) (hmax : cs.length + m ≤ 9223372036854775807) (hB : B ≤ w.heap.size)
    (h : ∀ v' w', Own w' B e v' (cs ++ news) → Below B w w' → Hid (w.grownBy w' v.ownBlock) → wpList P ops Q rest (a.put o.dst v') w') : wpList P ops Q (o :: rest) a w :=
  wpList_plain hgd fun _ hK => wp_append_sl s x t ho E hs hown hx hnews h1 hbytes hmax hB fun v' w' h2 h3 h4 => hK _ _ (h v' w' h2 h3 h4)

/-- The same as one step of a region that draws its order (go_region_law). -/
theorem st_append {P : Program} {w : World} {ops : Array Oper} {o : Oper} {a : Act} {K : Act → World → Prop} {Q : Exit → Act → World → Prop} {F : Prop} (hgd : o.guard = none) (s x : Operand) (t : TypeId)
    (ho : o.op = .call { callee := .builtin .append, args := #[s, x], argTypes := #[t, t] }) {e bytes : Nat} (E : Elem P t e bytes)
    {B : Nat} {v : Value} {cs : List Value} (hs : a.eval s = v) (hown : Own w B e v cs) {S' : Nat → Prop} {m c : Nat} {ad : Option Addr} {news : List Value}
    (hx : a.eval x = .slice ad m c) (hnews : Sl w S' ad m c news) (h1 : ∀ u ∈ news, u.oneCell' = true) (hbytes : (cs.length + m) * bytes ≤ 140737488355328) (hmax : cs.length + m ≤ 9223372036854775807) (hB : B ≤ w.heap.size)
    (h : ∀ v' w', Own w' B e v' (cs ++ news) → Below B w w' → Hid (w.grownBy w' v.ownBlock) → K (a.put o.dst v') w') : if Region.wanted o (yielded ops a.tmps) = true then Oper.wp P o a w K Q else F := by
  rw [if_pos (by simp [Region.wanted, hgd])]
  exact wp_append_sl s x t ho E hs hown hx hnews h1 hbytes hmax hB h

/-- A part of a slice: x[lo:hi]. -/
theorem Sl.part {w : World} {S : Nat → Prop} {b off n cap : Nat} {cs : List Value} (h : Sl w S (some ⟨b, off, none⟩) n cap cs) (lo hi : Nat) (h1 : lo ≤ hi) (h2 : hi ≤ n) :
    Sl w S (some ⟨b, off + lo, none⟩) (hi - lo) (cap - lo) ((cs.drop lo).take (hi - lo)) := by
  have hl := h.len
  have hle := h.le
  refine ⟨by simp; omega, by omega, by have := h.cmax; omega, by simp, ?_⟩
  rcases h.addr with h0 | ⟨b', off', e, hS, hlt, hc⟩
  · exact .inl (by omega)
  · simp only [Option.some.injEq, Addr.mk.injEq] at e
    obtain ⟨rfl, rfl, _⟩ := e
    refine .inr ⟨b, off + lo, rfl, hS, hlt, fun j u hj => ?_⟩
    rw [List.getElem?_take] at hj
    split at hj
    · rw [List.getElem?_drop] at hj
      have := hc (lo + j) u hj
      rwa [← Nat.add_assoc] at this
    · cases hj

/-- A new slice of one element (what 'append(s, x)' lays for x). -/
theorem Sl.one (w : World) (e : TypeId) (u : Value) : Sl (w.alloc (.cells #[u] e)) (fun b => b = w.heap.size) (some ⟨w.heap.size, 0, none⟩) 1 1 [u] :=
  ⟨rfl, Nat.le_refl _, by simp [maxLen], by simp, .inr ⟨w.heap.size, 0, rfl, rfl, by simp, fun j v hj => by
    rw [Nat.zero_add, World.cell?_alloc_new]
    cases j with
    | zero => simpa using hj
    | succ j => simp at hj⟩⟩

theorem Below.step {B C : Nat} {a W w' : World} (h : Below B a W) (hb : Below C W w') (hC : B ≤ C) : Below B a w' := h.trans (hb.mono hC)

/-- The call returned a slice in new memory that holds cs; whatever was there is as it was. -/
def RetOwn (W : World) (t : TypeId) (cs : List Value) (e : Ending) (w' : World) : Prop :=
  ∃ v, e = .returned v ∧ Own w' W.heap.size t v cs ∧ Below W.heap.size W w'

def ints (xs : List Int) : List Value := xs.map (Value.int .i64)
@[simp] theorem length_ints (xs : List Int) : (ints xs).length = xs.length := by simp [ints]
theorem ints_get (xs : List Int) (j : Nat) (h : j < xs.length) : (ints xs)[j]? = some (.int .i64 xs[j]) := by simp [ints, h]
theorem ints_app (xs ys : List Int) : ints (xs ++ ys) = ints xs ++ ints ys := by simp [ints]
theorem ints_one (xs : List Int) : ∀ u ∈ ints xs, u.oneCell' = true := by
  intro u hu
  simp only [ints, List.mem_map] at hu
  obtain ⟨x, _, rfl⟩ := hu
  rfl
/-- Every element is an int. -/
def I64 (xs : List Int) : Prop := ∀ x ∈ xs, -9223372036854775808 ≤ x ∧ x ≤ 9223372036854775807
theorem I64.get {xs : List Int} (h : I64 xs) (j : Nat) (hj : j < xs.length) : -9223372036854775808 ≤ xs[j] ∧ xs[j] ≤ 9223372036854775807 := h _ (List.getElem_mem hj)

/-- The address of a slice cut at lo. -/
def cutA (a : Option Addr) (lo cap size : Nat) : Option Addr := if cap = lo then a else a.map (·.add (lo * size))
def intV : Value → Int
  | .int _ n => n
  | _ => 0
def isInt : Value → Bool
  | .int _ _ => true
  | _ => false
def slowSlice (t : TypeId) (x : Value) (lo hi : Option Value) (P : Program) (w : World) : Result Next := (do pure (Next.value (← Instr.sliceAt t x lo hi none)) : Sem Next).run P w
/-- A slice's cut, where its bounds hold. -/
@[go_sem] def sliceRes (P : Program) (t : TypeId) (size : Nat) (w : World) (x : Value) (lo hi : Option Value) (l : Int) (h : Nat → Int) : Result Next :=
  match x with
  | .slice a n cap => if 0 ≤ l ∧ l ≤ h n ∧ h n ≤ cap then .ok (.value (.slice (cutA a l.toNat cap size) ((h n).toNat - l.toNat) (cap - l.toNat))) w else slowSlice t x lo hi P w
  | _ => slowSlice t x lo hi P w

theorem run_slice_bounds {P : Program} (w : World) {t e : TypeId} {i : TypeInfo} (ht : P.underlying t = some (.slice e)) (hi : P.info? e = some i) (a : Option Addr) (n cap : Nat) (lo hi' : Option Value) (l h : Nat)
    (hlo : (lo = none ∧ l = 0) ∨ ∃ k, lo = some (.int k l)) (hhi : (hi' = none ∧ h = n) ∨ ∃ k, hi' = some (.int k h)) (h1 : l ≤ h) (h2 : h ≤ cap) :
    (Instr.sliceAt t (.slice a n cap) lo hi' none).run P w = .ok (.slice (cutA a l cap i.size) (h - l) (cap - l)) w := by
  have c1 : (l : Int) ≤ (h : Int) := by omega
  have c2 : (h : Int) ≤ (cap : Int) := by omega
  rcases hlo with ⟨rfl, rfl⟩ | ⟨k, rfl⟩ <;> rcases hhi with ⟨rfl, rfl⟩ | ⟨k', rfl⟩ <;>
    simp [Instr.sliceAt, Instr.slice, Instr.sliceBounds, Instr.sliceBound, asIntOf, run_underlying ht, sizeOf, typeInfo, hi, cutA, h1, h2, c1, c2]

theorem exec_slice_lo (P : Program) {t e : TypeId} {i : TypeInfo} (ht : P.underlying t = some (.slice e)) (hi : P.info? e = some i) (ρ : Operand → Value) (dst : Option Tmp) (x l : Operand) (ty : TypeId) (pos : String) (aft : Array Edge) (g : Option (Nat × Bool)) (w : World)
    (hl : isInt (ρ l) = true) : (execOp ρ ⟨dst, .slice t x (some l) none none, ty, pos, aft, g⟩).run P w = sliceRes P t i.size w (ρ x) (some (ρ l)) none (intV (ρ l)) (fun n => (n : Int)) := by
  have e0 : execOp ρ ⟨dst, .slice t x (some l) none none, ty, pos, aft, g⟩ = (do pure (Next.value (← Instr.sliceAt t (ρ x) (some (ρ l)) none none)) : Sem Next) := rfl
  rw [e0]
  unfold sliceRes
  split
  · rename_i a n cap hx
    split
    · rename_i hc
      obtain ⟨h0, h1, h2⟩ := hc
      cases hv : ρ l with
      | int k z =>
        simp only [hv, intV] at h0 h1 h2 ⊢
        obtain ⟨z', rfl⟩ := Int.eq_ofNat_of_zero_le h0
        have hr := run_slice_bounds w ht hi a n cap (some (.int k (z' : Int))) none z' n (.inr ⟨k, rfl⟩) (.inl ⟨rfl, rfl⟩) (by omega) (by omega)
        rw [hx]
        simp only [Sem.run_bind, hr, Result.andThen_ok, Int.toNat_natCast]
        rfl
      | _ => simp [hv, isInt] at hl
    · rename_i hx _ ; rw [hx]; rfl
  · rfl
theorem exec_slice_hi (P : Program) {t e : TypeId} {i : TypeInfo} (ht : P.underlying t = some (.slice e)) (hi : P.info? e = some i) (ρ : Operand → Value) (dst : Option Tmp) (x h : Operand) (ty : TypeId) (pos : String) (aft : Array Edge) (g : Option (Nat × Bool)) (w : World)
    (hl : isInt (ρ h) = true) : (execOp ρ ⟨dst, .slice t x none (some h) none, ty, pos, aft, g⟩).run P w = sliceRes P t i.size w (ρ x) none (some (ρ h)) 0 (fun _ => intV (ρ h)) := by
  have e0 : execOp ρ ⟨dst, .slice t x none (some h) none, ty, pos, aft, g⟩ = (do pure (Next.value (← Instr.sliceAt t (ρ x) none (some (ρ h)) none)) : Sem Next) := rfl
  rw [e0]
  unfold sliceRes
  split
  · rename_i a n cap hx
    split
    · rename_i hc
      obtain ⟨h0, h1, h2⟩ := hc
      cases hv : ρ h with
      | int k z =>
        simp only [hv, intV] at h1 h2 ⊢
        obtain ⟨z', rfl⟩ := Int.eq_ofNat_of_zero_le h1
        have hr := run_slice_bounds w ht hi a n cap none (some (.int k (z' : Int))) 0 z' (.inl ⟨rfl, rfl⟩) (.inr ⟨k, rfl⟩) (by omega) (by omega)
        rw [hx]
        simp only [Sem.run_bind, hr, Result.andThen_ok, Int.toNat_natCast]
        rfl
      | _ => simp [hv, isInt] at hl
    · rename_i hx _ ; rw [hx]; rfl
  · rfl
theorem exec_slice_lh (P : Program) {t e : TypeId} {i : TypeInfo} (ht : P.underlying t = some (.slice e)) (hi : P.info? e = some i) (ρ : Operand → Value) (dst : Option Tmp) (x l h : Operand) (ty : TypeId) (pos : String) (aft : Array Edge) (g : Option (Nat × Bool)) (w : World)
    (hl : isInt (ρ l) = true) (hh : isInt (ρ h) = true) : (execOp ρ ⟨dst, .slice t x (some l) (some h) none, ty, pos, aft, g⟩).run P w = sliceRes P t i.size w (ρ x) (some (ρ l)) (some (ρ h)) (intV (ρ l)) (fun _ => intV (ρ h)) := by
  have e0 : execOp ρ ⟨dst, .slice t x (some l) (some h) none, ty, pos, aft, g⟩ = (do pure (Next.value (← Instr.sliceAt t (ρ x) (some (ρ l)) (some (ρ h)) none)) : Sem Next) := rfl
  rw [e0]
  unfold sliceRes
  split
  · rename_i a n cap hx
    split
    · rename_i hc
      obtain ⟨h0, h1, h2⟩ := hc
      cases hv : ρ l with
      | int k z =>
        cases hv2 : ρ h with
        | int k2 z2 =>
          simp only [hv, hv2, intV] at h0 h1 h2 ⊢
          obtain ⟨z', rfl⟩ := Int.eq_ofNat_of_zero_le h0
          obtain ⟨z2', rfl⟩ := Int.eq_ofNat_of_zero_le (show 0 ≤ z2 by omega)
          have hr := run_slice_bounds w ht hi a n cap (some (.int k (z' : Int))) (some (.int k2 (z2' : Int))) z' z2' (.inr ⟨k, rfl⟩) (.inr ⟨k2, rfl⟩) (by omega) (by omega)
          rw [hx]
          simp only [Sem.run_bind, hr, Result.andThen_ok, Int.toNat_natCast]
          rfl
        | _ => simp [hv2, isInt] at hh
      | _ => simp [hv, isInt] at hl
    · rename_i hx _ ; rw [hx]; rfl
  · rfl

/-- A part of a slice of one-cell elements: x[lo:hi]. -/
theorem Sl.cut {w : World} {S : Nat → Prop} {a : Option Addr} {n cap : Nat} {cs : List Value} (h : Sl w S a n cap cs) (lo hi : Nat) (h1 : lo ≤ hi) (h2 : hi ≤ n) :
    Sl w S (cutA a lo cap 1) (hi - lo) (cap - lo) ((cs.drop lo).take (hi - lo)) := by
  have hl := h.len
  have hle := h.le
  refine ⟨by simp; omega, by omega, by have := h.cmax; omega, fun h0 => ?_, ?_⟩
  · unfold cutA at h0
    split at h0
    · omega
    · have := h.nocap (by simpa using h0); omega
  rcases h.addr with h0 | ⟨b, off, rfl, hS, hlt, hc⟩
  · exact .inl (by omega)
  · by_cases hc0 : cap = lo
    · exact .inl (by omega)
    · refine .inr ⟨b, off + lo, ?_, hS, hlt, fun j u hj => ?_⟩
      · unfold cutA
        rw [if_neg hc0]
        simp only [Option.map_some, Nat.mul_one, Option.some.injEq]
        unfold Addr.add; split <;> simp_all
      · rw [List.getElem?_take] at hj
        split at hj
        · rw [List.getElem?_drop] at hj
          have := hc (lo + j) u hj
          rwa [← Nat.add_assoc] at this
        · cases hj

def slowMake (P : Program) (t : TypeId) (l c : Value) (w : World) : Result Next := (do pure (Next.value (← Instr.makeSlice t l c)) : Sem Next).run P w
/-- make([]T, n): a new row of zeros. -/
@[go_sem] def makeRes (P : Program) (t e : TypeId) (z : Value) (bytes : Nat) (w : World) (l c : Value) : Result Next :=
  match l, c with
  | .int k n, .int k' m => if 0 ≤ n ∧ n = m ∧ (bytes : Int) * n ≤ 281474976710656 ∧ n ≤ 9223372036854775807 then .ok (.value (.slice (some ⟨w.heap.size, 0, none⟩) n.toNat n.toNat)) (w.alloc (.cells (Array.replicate n.toNat z) e)) else slowMake P t (.int k n) (.int k' m) w
  | l, c => slowMake P t l c w
theorem madeCells_one (z : Value) (n : Nat) : madeCells #[z] n = Array.replicate n z := by
  apply Array.ext_getElem?
  intro i
  simp only [madeCells, Array.getElem?_map, Array.getElem?_replicate]
  by_cases h : i < n
  · simp [h, Nat.mod_one]
  · simp [h]
theorem exec_make (P : Program) {t e : TypeId} {i : TypeInfo} (ht : P.underlying t = some (.slice e)) (hi : P.info? e = some i) (z : Value) (hz : i.zero = some z) (hz1 : z.cells = #[z]) (hs : i.size = 1) (ρ : Operand → Value) (dst : Option Tmp) (l c : Operand) (ty : TypeId) (pos : String) (aft : Array Edge) (g : Option (Nat × Bool)) (w : World) :
    (execOp ρ ⟨dst, .makeSlice t l c, ty, pos, aft, g⟩).run P w = makeRes P t e z i.bytes w (ρ l) (ρ c) := by
  have e0 : execOp ρ ⟨dst, .makeSlice t l c, ty, pos, aft, g⟩ = (do pure (Next.value (← Instr.makeSlice t (ρ l) (ρ c))) : Sem Next) := rfl
  rw [e0]
  unfold makeRes
  split
  · rename_i k n k' m h1 h2
    split
    · rename_i hc
      obtain ⟨h0, rfl, h3, h4⟩ := hc
      have hr := run_make (P := P) w t e i z ht hi hz k k' n n h0 (Int.le_refl _) h3 h4
      rw [h1, h2]
      simp only [Sem.run_bind, hr, Result.andThen_ok, hz1, hs, Nat.mul_one, madeCells_one]
      rfl
    · rw [h1, h2]; rfl
  · rfl

theorem Sl.hi {w : World} {S : Nat → Prop} {b off n cap : Nat} {cs : List Value} (h : Sl w S (some ⟨b, off, none⟩) n cap cs) (j : Nat) (hj : j ≤ n) : Sl w S (some ⟨b, off, none⟩) j cap (cs.take j) := by
  have := h.part 0 j (Nat.zero_le _) hj
  simpa using this
theorem Sl.lo {w : World} {S : Nat → Prop} {b off n cap : Nat} {cs : List Value} (h : Sl w S (some ⟨b, off, none⟩) n cap cs) (j : Nat) (hj : j ≤ n) :
    Sl w S (if cap = j then some ⟨b, off, none⟩ else some ⟨b, off + j, none⟩) (n - j) (cap - j) (cs.drop j) := by
  have hl := h.len
  have hle := h.le
  by_cases hc : cap = j
  · rw [if_pos hc]
    exact ⟨by simp; omega, by omega, by have := h.cmax; omega, by simp, .inl (by omega)⟩
  · rw [if_neg hc]
    have := h.part j n hj (Nat.le_refl _)
    rwa [List.take_of_length_le (by simp; omega)] at this
/-- No capacity: any address serves. -/
theorem Sl.zero (w : World) (S : Nat → Prop) (a : Option Addr) : Sl w S a 0 0 [] := ⟨rfl, Nat.le_refl _, by simp [maxLen], fun _ => rfl, .inl rfl⟩

theorem Own.parts {w : World} {B : Nat} {e : TypeId} {v : Value} {cs : List Value} (h : Own w B e v cs) (h0 : cs ≠ []) :
    ∃ g cap cur, v = .slice (some ⟨g, 0, none⟩) cs.length cap ∧ B ≤ g ∧ rowOf? w g = some (cur, e) ∧ cs.length ≤ cap ∧ cur.size = cap ∧ cur.toList.take cs.length = cs := by
  have h1 : w.ownsRow B e 1 v cs.length cs := h
  rcases h1.2 with ⟨_, hn⟩ | ⟨g, cap, cur, rfl, hb, hg, hc, hm, hs, ht⟩
  · exact absurd (List.eq_nil_of_length_eq_zero hn) h0
  · exact ⟨g, cap, cur, rfl, hb, rowOf?_of hg, hc, by simpa using hs, by simpa using ht⟩
theorem Own.none {w : World} {B : Nat} {e : TypeId} {v : Value} (h : Own w B e v []) : ∃ a cap, v = .slice a 0 cap := by
  obtain ⟨a, n, cap, rfl, hn, _⟩ := h.sl
  simp at hn
  subst hn
  exact ⟨a, cap, rfl⟩


theorem bits_mask (x : Int) (j : Nat) (hj : j < 63) : bits .and .i64 x (((2 ^ j - 1 : Nat)) : Int) = x % ((2 ^ j : Nat) : Int) := by
  have hp : 2 ^ j < 2 ^ 63 := Nat.pow_lt_pow_right (by omega) hj
  have hp0 : 0 < 2 ^ j := Nat.two_pow_pos j
  have h1 : (BitVec.ofInt 64 x &&& BitVec.ofInt 64 (((2 ^ j - 1 : Nat)) : Int)).toNat = (x % ((2 ^ j : Nat) : Int)).toNat := by
    rw [BitVec.toNat_and]
    have hb : (BitVec.ofInt 64 (((2 ^ j - 1 : Nat)) : Int)).toNat = 2 ^ j - 1 := by
      rw [BitVec.toNat_ofInt]
      have : (((2 ^ j - 1 : Nat)) : Int) % ((2 ^ 64 : Nat) : Int) = ((2 ^ j - 1 : Nat) : Int) := by omega
      rw [this]; simp
    rw [hb, Nat.and_two_pow_sub_one_eq_mod, BitVec.toNat_ofInt]
    have hd : ((2 ^ j : Nat) : Int) ∣ ((2 ^ 64 : Nat) : Int) := by
      exact_mod_cast Nat.pow_dvd_pow 2 (by omega)
    rw [← Int.emod_emod_of_dvd x hd]
    have hnn : 0 ≤ x % ((2 ^ 64 : Nat) : Int) := Int.emod_nonneg _ (by omega)
    generalize x % ((2 ^ 64 : Nat) : Int) = y at *
    obtain ⟨z, rfl⟩ := Int.eq_ofNat_of_zero_le hnn
    simp only [Int.toNat_natCast]
    omega
  have h2 : bits .and .i64 x (((2 ^ j - 1 : Nat)) : Int) = IntKind.i64.wrap (((BitVec.ofInt 64 x &&& BitVec.ofInt 64 (((2 ^ j - 1 : Nat)) : Int)).toNat : Nat) : Int) := rfl
  rw [h2, h1]
  have hn : 0 ≤ x % ((2 ^ j : Nat) : Int) := Int.emod_nonneg _ (by omega)
  have hl : x % ((2 ^ j : Nat) : Int) < ((2 ^ j : Nat) : Int) := Int.emod_lt_of_pos _ (by omega)
  rw [Int.toNat_of_nonneg hn]
  refine IntWalk.i64_in _ ?_
  omega
@[go_sem] theorem bits_7 (x : Int) : bits .and .i64 x 7 = x % 8 := bits_mask x 3 (by omega)
@[go_sem] theorem bits_1 (x : Int) : bits .and .i64 x 1 = x % 2 := bits_mask x 1 (by omega)
@[go_sem] theorem bits_3 (x : Int) : bits .and .i64 x 3 = x % 4 := bits_mask x 2 (by omega)
@[go_sem] theorem bits_15 (x : Int) : bits .and .i64 x 15 = x % 16 := bits_mask x 4 (by omega)
@[go_sem] theorem bits_63 (x : Int) : bits .and .i64 x 63 = x % 64 := bits_mask x 6 (by omega)
@[go_sem] theorem bits_255 (x : Int) : bits .and .i64 x 255 = x % 256 := bits_mask x 8 (by omega)
@[go_sem] theorem bits_24 (x : Int) : bits .and .i64 x 16777215 = x % 16777216 := bits_mask x 24 (by omega)
end Go.FH
