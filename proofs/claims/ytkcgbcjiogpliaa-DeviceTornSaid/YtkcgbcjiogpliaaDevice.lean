/-
  Contracts of package device: New, Open, Sectors, Image, Crashed, Plan, Restart, Read, Write.
-/
import Derived.Test.YtkcgbcjiogpliaaBytes
namespace Go.Proofs.Ytkcgbcjiogpliaa
open Go.RowKit Go.FH
set_option linter.unusedVariables false
set_option linter.unusedSimpArgs false

/-- A device: its bytes and its plan. -/
structure Dv where
  bs : List UInt8
  crashed : Bool
  planned : Bool
  wait : Nat
  keep : Nat
def dvCells (gb cap : Nat) (d : Dv) : Array Value := #[.slice (some ⟨gb, 0, none⟩) d.bs.length cap, .bool d.crashed, .bool d.planned, .int .i64 d.wait, .int .i64 d.keep]
structure DevAt (w : World) (p gb cap : Nat) (d : Dv) : Prop where
  box : rowOf? w p = some (dvCells gb cap d, 74)
  row : ∃ cur, rowOf? w gb = some (cur, 5) ∧ cur.size = cap ∧ cur.toList.take d.bs.length = u8l d.bs
  le : d.bs.length ≤ cap
  cmax : cap ≤ 9223372036854775807
  ne : p ≠ gb
  small : d.bs.length ≤ 2097152
  wait : d.wait ≤ 1000000000
  keep : d.keep ≤ 1000000000
theorem DevAt.frame {w w' : World} {p gb cap : Nat} {d : Dv} (h : DevAt w p gb cap d) (h1 : w'.heap[p]? = w.heap[p]?) (h2 : w'.heap[gb]? = w.heap[gb]?) : DevAt w' p gb cap d :=
  ⟨(rowOf?_block h1).trans h.box, by obtain ⟨c, hc, r⟩ := h.row; exact ⟨c, (rowOf?_block h2).trans hc, r⟩, h.le, h.cmax, h.ne, h.small, h.wait, h.keep⟩
theorem DevAt.below {w w' : World} {p gb cap B : Nat} {d : Dv} (h : DevAt w p gb cap d) (hb : Below B w w') (h1 : p < B) (h2 : gb < B) : DevAt w' p gb cap d :=
  h.frame (hb.block p h1) (hb.block gb h2)
theorem DevAt.lt {w : World} {p gb cap : Nat} {d : Dv} (h : DevAt w p gb cap d) : p < w.heap.size ∧ gb < w.heap.size := by
  obtain ⟨c, hc, _⟩ := h.row
  exact ⟨rowOf?_lt h.box, rowOf?_lt hc⟩
/-- The bytes of a device as a slice. -/
theorem DevAt.sl {w : World} {p gb cap : Nat} {d : Dv} (h : DevAt w p gb cap d) : Sl w (fun b => b = gb) (some ⟨gb, 0, none⟩) d.bs.length cap (u8l d.bs) := by
  obtain ⟨cur, hr, hs, ht⟩ := h.row
  refine ⟨length_u8l _, h.le, by have := h.cmax; simp only [maxLen]; omega, by simp, .inr ⟨gb, 0, rfl, rfl, rowOf?_lt hr, fun j u hj => ?_⟩⟩
  rw [Nat.zero_add, rowOf?_cell hr]
  rw [← ht, List.getElem?_take] at hj
  split at hj
  · simpa using hj
  · cases hj
/-- What a walk is told of a device's struct. -/
theorem DevAt.cells {w : World} {p gb cap : Nat} {d : Dv} (h : DevAt w p gb cap d) :
    w.cell? ⟨p, 0, none⟩ = some (.slice (some ⟨gb, 0, none⟩) d.bs.length cap) ∧ w.cell? ⟨p, 1, none⟩ = some (.bool d.crashed) ∧ w.cell? ⟨p, 2, none⟩ = some (.bool d.planned) ∧
    w.cell? ⟨p, 3, none⟩ = some (.int .i64 d.wait) ∧ w.cell? ⟨p, 4, none⟩ = some (.int .i64 d.keep) ∧ ∀ o, w.frozen? ⟨p, o, none⟩ = false := by
  obtain ⟨pc, pf, _, _⟩ := rfacts h.box
  exact ⟨by rw [pc]; rfl, by rw [pc]; rfl, by rw [pc]; rfl, by rw [pc]; rfl, by rw [pc]; rfl, pf⟩

set_option maxHeartbeats 400000 in
theorem crashed_any (p gb cap : Nat) (d : Dv) (w : World) (h : DevAt w p gb cap d) :
    Calls Try.prog 30 #[.pointer (some ⟨p, 0, none⟩)] w fun e w' => e = .returned (.bool d.crashed) ∧ w = w' := by
  obtain ⟨c0, c1, c2, c3, c4, cf⟩ := h.cells
  clear h
  go_enter Try.func30, Try.ntmps30
  go_wp2
  go_ret
  exact ⟨rfl, rfl⟩

set_option maxHeartbeats 400000 in
theorem sectors_any (p gb cap : Nat) (d : Dv) (w : World) (h : DevAt w p gb cap d) :
    Calls Try.prog 32 #[.pointer (some ⟨p, 0, none⟩)] w fun e w' => e = .returned (.int .i64 ((d.bs.length / 64 : Nat) : Int)) ∧ w = w' := by
  obtain ⟨c0, c1, c2, c3, c4, cf⟩ := h.cells
  have hs := h.small
  clear h
  generalize d.bs.length = n at *
  go_enter Try.func32, Try.ntmps32
  go_wp2
  go_ret
  exact ⟨rfl, rfl⟩

set_option maxHeartbeats 400000 in
theorem image_any (p gb cap : Nat) (d : Dv) (w : World) (h : DevAt w p gb cap d) :
    Calls Try.prog 31 #[.pointer (some ⟨p, 0, none⟩)] w (RetOwn w 5 (u8l d.bs)) := by
  obtain ⟨c0, c1, c2, c3, c4, cf⟩ := h.cells
  have hs := h.small
  have hc := clone_any _ _ _ _ _ _ h.sl (by omega)
  have HC := Lib.hid hc
  clear h hc
  generalize d.bs.length = n at *
  go_enter Try.func31, Try.ntmps31
  go_wp2_with (go_at_call 44; refine HC.out.mono ?_; rintro e w' ⟨v, rfl, ho, hb⟩)
  go_ret
  exact ⟨v, rfl, ho, hb⟩

def existB (d : Dv) (at_ s : Int) : Bool := decide (0 ≤ at_) && decide (0 ≤ s) && decide (at_ + s ≤ ((d.bs.length / 64 : Nat) : Int))
set_option maxHeartbeats 400000 in
theorem exist_any (p gb cap : Nat) (d : Dv) (at_ s : Int) (w : World) (h : DevAt w p gb cap d) (h1 : -1000000000 ≤ at_) (h2 : at_ ≤ 1000000000) (h3 : -1000000000 ≤ s) (h4 : s ≤ 1000000000) :
    Calls Try.prog 43 #[.pointer (some ⟨p, 0, none⟩), .int .i64 at_, .int .i64 s] w fun e w' => e = .returned (.bool (existB d at_ s)) ∧ w = w' := by
  have hc := sectors_any p gb cap d w h
  have hs := h.small
  have hq : d.bs.length / 64 ≤ 32768 := by omega
  unfold existB
  generalize d.bs.length / 64 = q at *
  have HC := Lib.hid hc
  clear h hc hs
  by_cases a1 : 0 ≤ at_
  · by_cases a2 : 0 ≤ s
    · by_cases a3 : at_ ≤ q
      · go_enter Try.func43, Try.ntmps43
        go_wp2_with (go_at_call 32; refine HC.out.mono ?_; rintro e w' ⟨rfl, rfl⟩)
        go_ret
        refine ⟨congrArg (fun x => Ending.returned (Value.bool x)) ?_, rfl⟩
        rw [Bool.eq_iff_iff]; simp; omega
      · go_enter Try.func43, Try.ntmps43
        go_wp2_with (go_at_call 32; refine HC.out.mono ?_; rintro e w' ⟨rfl, rfl⟩)
        go_ret
        refine ⟨congrArg (fun x => Ending.returned (Value.bool x)) ?_, rfl⟩
        rw [Bool.eq_iff_iff]; simp; omega
    · go_enter Try.func43, Try.ntmps43
      go_wp2
      go_ret
      refine ⟨congrArg (fun x => Ending.returned (Value.bool x)) ?_, rfl⟩
      rw [Bool.eq_iff_iff]; simp; omega
  · go_enter Try.func43, Try.ntmps43
    go_wp2
    go_ret
    refine ⟨congrArg (fun x => Ending.returned (Value.bool x)) ?_, rfl⟩
    rw [Bool.eq_iff_iff]; simp; omega

theorem putRange_u8 (bs xs : List UInt8) (off : Nat) (h : off + xs.length ≤ bs.length) : putRange (u8c bs) off (u8l xs) = u8c (bs.take off ++ xs ++ bs.drop (off + xs.length)) := by
  apply Array.toList_inj.1
  simp [putRange, u8c, u8l, List.map_take, List.map_drop]

set_option maxHeartbeats 400000 in
theorem devNew_bad (n : Int) (w : World) (h : n < 1 ∨ 32768 < n) :
    Calls Try.prog 24 #[.int .i64 n] w fun e w' => e = .returned (.tuple #[.pointer none, .int .i64 3]) ∧ w = w' := by
  by_cases h0 : n < 1
  · go_enter Try.func24, Try.ntmps24
    go_wp2
    go_ret2
    exact ⟨rfl, rfl⟩
  · have h1 : 32768 < n := by omega
    go_enter Try.func24, Try.ntmps24
    go_wp2
    go_ret2
    exact ⟨rfl, rfl⟩

def freshDv (bs : List UInt8) : Dv := ⟨bs, false, false, 0, 0⟩
def DevPost (W : World) (d : Dv) (e : Ending) (w' : World) : Prop :=
  ∃ p gb cap, e = .returned (.tuple #[.pointer (some ⟨p, 0, none⟩), .int .i64 0]) ∧ DevAt w' p gb cap d ∧ W.heap.size ≤ p ∧ W.heap.size ≤ gb ∧ Below W.heap.size W w'

set_option maxHeartbeats 400000 in
theorem devNew_ok (n : Nat) (w : World) (h0 : 1 ≤ n) (h : n ≤ 32768) :
    Calls Try.prog 24 #[.int .i64 n] w (DevPost w (freshDv (List.replicate (n * 64) 0))) := by
  go_enter Try.func24, Try.ntmps24
  go_wp2
  go_ret2
  refine ⟨w.heap.size + 1, w.heap.size, n * 64, rfl, ⟨?_, ?_, by simp [freshDv], by omega, by omega, by simp [freshDv]; omega, by simp [freshDv], by simp [freshDv]⟩, by omega, by omega, by (repeat (first | (with_reducible exact Below.refl _ _) | (with_reducible assumption) | (with_reducible refine Below.alloc ?_ ?_ _) | (with_reducible refine Below.drew ?_) | (with_reducible refine Below.setCell ?_ ?_ _) | (refine Below.step ?_ (by with_reducible assumption) ?_) | go_size))⟩
  · rw [rowOf?_alloc_at _ _ _ _ (by simp)]
    simp [dvCells, freshDv]
  · refine ⟨u8c (List.replicate (n * 64) 0), ?_, by simp, ?_⟩
    · rw [rowOf?_alloc_past _ _ _ (by simp), rowOf?_alloc_at _ _ _ _ rfl]
      simp [zeros_u8]
    · simp [freshDv, u8c_toList, u8l]

set_option maxHeartbeats 400000 in
theorem devOpen_bad (a : Option Addr) (n cap : Nat) (w : World) (hmax : n ≤ 9223372036854775807) (h : n % 64 ≠ 0 ∨ n / 64 < 1 ∨ 32768 < n / 64) :
    Calls Try.prog 34 #[.slice a n cap] w fun e w' => e = .returned (.tuple #[.pointer none, .int .i64 2]) ∧ w = w' := by
  by_cases h0 : n % 64 = 0
  · have h0' : ((n : Int) % 64 != 0) = false := by simp; omega
    by_cases h1 : n / 64 < 1
    · go_enter Try.func34, Try.ntmps34
      go_wp2
      go_ret2
      exact ⟨rfl, rfl⟩
    · have h2 : 32768 < n / 64 := by omega
      go_enter Try.func34, Try.ntmps34
      go_wp2
      go_ret2
      exact ⟨rfl, rfl⟩
  · have h0' : ((n : Int) % 64 != 0) = true := by simp; omega
    go_enter Try.func34, Try.ntmps34
    go_wp2
    go_ret2
    exact ⟨rfl, rfl⟩

set_option maxHeartbeats 400000 in
theorem devOpen_ok (a : Option Addr) (n cap : Nat) (S : Nat → Prop) (bs : List UInt8) (w : World) (h : Sl w S a n cap (u8l bs)) (h0 : n % 64 = 0) (h1 : 1 ≤ n / 64) (h2 : n / 64 ≤ 32768) :
    Calls Try.prog 34 #[.slice a n cap] w (DevPost w (freshDv bs)) := by
  have h0' : ((n : Int) % 64 != 0) = false := by simp; omega
  have hmax := h.max
  have hlen := h.len
  rw [length_u8l] at hlen
  have HN := Lib.hid hlen
  have hcl := clone_any a n cap S bs w h (by omega)
  have HC := Lib.hid hcl
  clear h hlen hcl
  have HB0 := Lib.hid h0
  clear h0
  go_enter Try.func34, Try.ntmps34
  go_wp2_with (go_at_call 44; refine HC.out.mono ?_; rintro e w1 ⟨v, rfl, ho, hb⟩; obtain ⟨g, cap1, cur, rfl, hg, hrow, hle, hcs, htk⟩ := Own.parts ho (by intro hh; have h9 : (u8l bs).length = 0 := (by rw [hh]; rfl); rw [length_u8l] at h9; have := HN.out; omega))
  go_ret2
  have hz := hb.size
  have hm : cap1 ≤ 9223372036854775807 := by
    obtain ⟨_, _, _, he, _, hsl⟩ := ho.sl
    simp only [Value.slice.injEq] at he
    obtain ⟨_, _, rfl⟩ := he
    exact hsl.cmax'
  rw [length_u8l] at hle htk
  have hgl := rowOf?_lt hrow
  refine ⟨w1.heap.size, g, cap1, rfl, ⟨?_, ?_, hle, hm, by omega, by simp only [freshDv]; have := HN.out; have := HB0.out; omega, by simp [freshDv], by simp [freshDv]⟩, by omega, by omega, by (repeat (first | (with_reducible exact Below.refl _ _) | (with_reducible assumption) | (with_reducible refine Below.alloc ?_ ?_ _) | (with_reducible refine Below.drew ?_) | (with_reducible refine Below.setCell ?_ ?_ _) | (refine Below.step ?_ (by with_reducible assumption) ?_) | go_size))⟩
  · rw [rowOf?_alloc_at _ _ _ _ rfl]
    simp [dvCells, freshDv]
  · exact ⟨cur, by rw [rowOf?_alloc_past _ _ _ hgl]; exact hrow, hcs, htk⟩

set_option maxHeartbeats 400000 in
theorem plan_bad (p gb cap : Nat) (d : Dv) (a b : Int) (w : World) (h : a < 0 ∨ b < 0) :
    Calls Try.prog 25 #[.pointer (some ⟨p, 0, none⟩), .int .i64 a, .int .i64 b] w fun e w' => e = .returned (.int .i64 3) ∧ w = w' := by
  by_cases h0 : a < 0
  · go_enter Try.func25, Try.ntmps25
    go_wp2
    go_ret
    exact ⟨rfl, rfl⟩
  · have h1 : b < 0 := by omega
    go_enter Try.func25, Try.ntmps25
    go_wp2
    go_ret
    exact ⟨rfl, rfl⟩

/-- The struct has turned, nothing else. -/
def DevTurned (W : World) (p gb cap : Nat) (d : Dv) (v : Value) (e : Ending) (w' : World) : Prop :=
  e = .returned v ∧ DevAt w' p gb cap d ∧ (∀ k, k ≠ p → w'.heap[k]? = W.heap[k]?) ∧ W.heap.size = w'.heap.size ∧ w'.os = W.os ∧ w'.tape = W.tape ∧ w'.output = W.output

theorem setIf_eq {c c' : Array Value} {i : Nat} {v : Value} (h : (c.toList.set i v) = c'.toList) : c.setIfInBounds i v = c' := by
  apply Array.toList_inj.1
  simpa using h

set_option maxHeartbeats 1000000 in
theorem plan_ok (p gb cap : Nat) (d : Dv) (a b : Nat) (w : World) (h : DevAt w p gb cap d) (ha : a ≤ 1000000000) (hb : b ≤ 1000000000) :
    Calls Try.prog 25 #[.pointer (some ⟨p, 0, none⟩), .int .i64 a, .int .i64 b] w (DevTurned w p gb cap { d with planned := true, wait := a, keep := b } (.int .i64 0)) := by
  obtain ⟨c0, c1, c2, c3, c4, cf⟩ := h.cells
  have H := Lib.hid h
  clear h
  go_enter Try.func25, Try.ntmps25
  go_wp2
  go_ret
  have hd := H.out
  have hne : gb ≠ p := fun e => hd.ne e.symm
  refine ⟨rfl, ⟨?_, ?_, hd.le, hd.cmax, hd.ne, hd.small, ha, hb⟩, ?_, ?_, rfl, rfl, rfl⟩
  · simp only [rowOf?_setCell_same, hd.box, Option.map_some]
    simp [dvCells]
  · obtain ⟨cur, hr, r⟩ := hd.row
    refine ⟨cur, ?_, r⟩
    simp only [rowOf?_setCell_other _ ⟨p, _, none⟩ _ _ hne, hr]
  · intro k hk
    simp only [heap_setCell_other _ ⟨p, _, none⟩ k _ hk]
  · simp [World.setCell]

set_option maxHeartbeats 1000000 in
theorem restart_any (p gb cap : Nat) (d : Dv) (w : World) (h : DevAt w p gb cap d) :
    Calls Try.prog 26 #[.pointer (some ⟨p, 0, none⟩)] w (DevTurned w p gb cap { d with crashed := false, planned := false, wait := 0, keep := 0 } (.tuple #[])) := by
  obtain ⟨c0, c1, c2, c3, c4, cf⟩ := h.cells
  have H := Lib.hid h
  clear h
  go_enter Try.func26, Try.ntmps26
  go_wp2
  go_end0
  have hd := H.out
  have hne : gb ≠ p := fun e => hd.ne e.symm
  refine ⟨rfl, ⟨?_, ?_, hd.le, hd.cmax, hd.ne, hd.small, by simp, by simp⟩, ?_, ?_, rfl, rfl, rfl⟩
  · simp only [rowOf?_setCell_same, hd.box, Option.map_some]
    simp [dvCells]
  · obtain ⟨cur, hr, r⟩ := hd.row
    refine ⟨cur, ?_, r⟩
    simp only [rowOf?_setCell_other _ ⟨p, _, none⟩ _ _ hne, hr]
  · intro k hk
    simp only [heap_setCell_other _ ⟨p, _, none⟩ k _ hk]
  · simp [World.setCell]
end Go.Proofs.Ytkcgbcjiogpliaa
