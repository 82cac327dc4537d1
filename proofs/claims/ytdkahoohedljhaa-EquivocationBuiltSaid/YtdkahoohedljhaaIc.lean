/-
  Numbers of one's own, sorted by the library.
-/
import Derived.Test.YtdkahoohedljhaaBy
import Derived.Test.YtdkahoohedljhaaChecked
import Derived.Test.YtdkahoohedljhaaKs
import Derived.KernelRfl
namespace Go.Proofs.Ytdkahoohedljhaa
open Go Go.FH Go.RowKit Go.Shelf Go.Sort
set_option linter.unusedVariables false
set_option linter.unusedSimpArgs false

theorem sort_call (blk off cap : Nat) (zs : List Int) (w : World) (hH : Holds (Value.int .i64) w blk off zs.toArray) (hblk : blk < w.heap.size) (hsz : zs.length < 4611686018427387904) :
    Calls Try.prog 43 #[.slice (some ⟨blk, off, none⟩) zs.length cap] w fun e w' =>
      e = .returned (.tuple #[]) ∧ ∃ n os, w' = grow (putRow (Value.int .i64) (Sort.ahead w n) blk off (zs.mergeSort fun x y => decide (x ≤ y)).toArray) os := by
  have hcon := AnyM.slices_Sort_int Try.mSort blk off cap zs w hH hblk hsz
  change Calls Try.prog 43 _ _ _ at hcon
  exact hcon
theorem sort_none (a : Option Addr) (cap : Nat) (w : World) : Calls Try.prog 43 #[.slice a 0 cap] w fun e w' => e = .returned (.tuple #[]) ∧ w' = w := by
  have hcon := AnyM.slices_Sort_int_none Try.mSort a cap w
  change Calls Try.prog 43 _ _ _ at hcon
  exact hcon
theorem RlE_nums {E : Env} {k : IntKind} : ∀ {zs : List Int} {us : List Value}, RlE E 1 (nums k zs) us → us = zs.map (Value.int k)
  | [], _, h => by simpa [nums, RlE] using h
  | z :: zs, _, h => by
    obtain ⟨us, ws, rfl, h2, h3, h4⟩ := h
    obtain ⟨u, r, rfl, _, h5, h6⟩ := h3
    simp only [RlC] at h6
    subst h6
    simp only [Rl] at h5
    subst h5
    rw [RlE_nums h4]
    rfl
theorem RlE_of_nums (E : Env) (k : IntKind) : ∀ zs : List Int, RlE E 1 (nums k zs) (zs.map (Value.int k))
  | [] => rfl
  | z :: zs => ⟨[.int k z], _, rfl, rfl, ⟨_, [], rfl, rfl, rfl, rfl⟩, RlE_of_nums E k zs⟩
theorem heap_grown (w : World) (n blk off : Nat) (d : Array Int) (os : Array Obj) {b : Nat} (hb : b < w.heap.size) : (grow (putRow (Value.int .i64) (Sort.ahead w n) blk off d) os).heap[b]? = (w.heap.modify blk (onCells (putCells (Value.int .i64) off d)))[b]? := by
  unfold grow putRow mapBlock
  simp only [Array.getElem?_append, heap_ahead, Array.size_modify, hb, if_true]
theorem put_mid (cs vs ws : List Value) (d : List Int) (h : vs.length = d.length) : (putCells (Value.int .i64) cs.length d.toArray (cs ++ vs ++ ws).toArray) = (cs ++ d.map (Value.int .i64) ++ ws).toArray := by
  apply Array.toList_inj.1
  apply List.ext_getElem?
  intro j
  simp only [putCells, Array.toList_mapIdx, List.getElem?_mapIdx, List.size_toArray]
  by_cases h1 : j < cs.length
  · simp [List.getElem?_append, h1, Nat.lt_add_right, show ¬ (cs.length ≤ j) by omega]
  · by_cases h2 : j < cs.length + d.length
    · simp [List.getElem?_append, h1, h2, h, show cs.length ≤ j by omega, show j - cs.length < d.length by omega]
    · simp [List.getElem?_append, h1, h2, h]
      rw [if_neg (by omega), if_neg (by omega)]
theorem sort_walk (zs : List Int) (hz : zs.length < 4611686018427387904) : ACall Try.prog 43 [.hs 1 0 0 zs.length] [.vec 1 (nums .i64 zs)] (.tup []) [.vec 1 (nums .i64 (zs.mergeSort fun x y => decide (x ≤ y)))] := by
  refine ⟨by kernel_rfl, by simp, ?_⟩
  intro X loc w vs hr hv
  obtain ⟨v, us, rfl, h1, h2⟩ := hv
  simp only [RlS] at h2
  subst h2
  obtain ⟨a, cap, L, rfl, g1, g2, g3, g4, g5⟩ := h1
  have hσ : ([AObj.vec 1 (nums .i64 zs)] : St)[0]? = some (.vec 1 (nums .i64 zs)) := rfl
  by_cases h0 : zs = []
  · subst h0
    refine (sort_none a cap w).mono fun e w' ⟨he, hw⟩ => ?_
    subst he hw
    exact ⟨_, loc, rfl, ⟨fun _ _ h => h, by simpa using hr, ⟨[], rfl, rfl⟩, Ev.refl _ _, fun b hb => .inl (by simpa using hb)⟩, fun _ _ => rfl⟩
  have hpos : 0 < zs.length := List.length_pos_iff.2 h0
  rcases hr.vec hσ g4 with ⟨q1, q2⟩ | ⟨q1, cs, ms, ws, t, k2, k3, k4, k5⟩
  · exact absurd (by simpa [nums] using q2) h0
  rcases g5 with g5 | ⟨_, rfl, _⟩
  · omega
  have hms := RlE_nums k5
  subst hms
  have hlt : L.blk < w.heap.size := (Array.getElem?_eq_some_iff.1 k2).1
  have hH : Holds (Value.int .i64) w L.blk L.base zs.toArray := by
    intro j hj
    have hj' : j < zs.length := by simpa using hj
    refine ⟨?_, ?_⟩
    · rw [cell_at k2, ← k3]
      simp [List.getElem?_append, hj', show ¬ (cs.length + j < cs.length) by omega]
    · simp [World.frozen?, k2]
  have hc := sort_call L.blk L.base cap zs w hH hlt hz
  simp only [Nat.zero_mul, Nat.add_zero]
  refine hc.mono fun e w' ⟨he, n, os, hw⟩ => ?_
  subst he hw
  have hget : (grow (putRow (Value.int .i64) (Sort.ahead w n) L.blk L.base (zs.mergeSort fun x y => decide (x ≤ y)).toArray) os).heap[L.blk]? = some (.cells (cs ++ (zs.mergeSort fun x y => decide (x ≤ y)).map (Value.int .i64) ++ ws).toArray t (0, 0)) := by
    rw [heap_grown _ _ _ _ _ _ hlt, Array.getElem?_modify, if_pos rfl, k2]
    simp only [Option.map_some, onCells]
    rw [← k3, put_mid _ _ _ _ (by simp)]
  have hev : Ev (fun b => b = L.blk) w (grow (putRow (Value.int .i64) (Sort.ahead w n) L.blk L.base (zs.mergeSort fun x y => decide (x ≤ y)).toArray) os) := by
    refine ⟨?_, fun b hb hn => ?_, rfl, rfl, rfl⟩
    · simp [grow]
    · rw [heap_grown _ _ _ _ _ _ hb, Array.getElem?_modify, if_neg (fun e => hn e.symm)]
  obtain ⟨m1, m2, m3⟩ := hr.turnW hσ rfl (o' := .vec 1 (nums .i64 (zs.mergeSort fun x y => decide (x ≤ y)))) rfl g4 q1 hev (fun E hE hloc hw => .inr ⟨q1, cs, _, ws, t, by rw [hw]; exact hget, k3, by simpa using k4, RlE_of_nums _ _ _⟩)
  exact ⟨_, loc, rfl, ⟨fun _ _ h => h, m1, ⟨[], rfl, rfl⟩, m3, fun b hb => .inl (m2 b hb)⟩, fun _ _ => rfl⟩
/-- Nothing to sort. -/
theorem sort_nil (cl : Bool) : PC Try.prog 43 [.sl 0 cl []] (.tup []) := by
  refine ⟨⟨by kernel_rfl, by simp, ?_⟩, ⟨trivial, trivial⟩, trivial⟩
  intro X loc w vs hr hv
  obtain ⟨v, us, rfl, h1, h2⟩ := hv
  simp only [RlS] at h2
  subst h2
  obtain ⟨a, m, cap, rfl, g1, _⟩ := h1
  have : m = 0 := by simpa using g1
  subst this
  refine (sort_none a cap w).mono fun e w' ⟨he, hw⟩ => ?_
  subst he hw
  exact ⟨_, loc, rfl, ⟨fun _ _ h => h, hr, ⟨[], rfl, rfl⟩, Ev.refl _ _, fun b hb => .inl hb⟩, fun _ _ => rfl⟩
end Go.Proofs.Ytdkahoohedljhaa
