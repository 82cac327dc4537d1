/-
  Contracts of NewSet, Members, Punish (package equivocation), of forkheadref7.Punish and of forkheadbase.Some.
-/
import Derived.Test.YtkcgbcjiogpliaaSet
namespace Go.Proofs.Ytkcgbcjiogpliaa
open Go.RowKit Go.FH
set_option linter.unusedVariables false
set_option linter.unusedSimpArgs false

@[go_sem ↓] theorem make_bools (ρ : Operand → Value) (dst : Option Tmp) (l c : Operand) (ty : TypeId) (pos : String) (aft : Array Edge) (g : Option (Nat × Bool)) (w : World) :
    (execOp ρ ⟨dst, .makeSlice 69 l c, ty, pos, aft, g⟩).run Try.prog w = makeRes Try.prog 69 4 (.bool false) 1 w (ρ l) (ρ c) := exec_make Try.prog Try.underlying69 rfl (.bool false) rfl rfl rfl _ _ _ _ _ _ _ _ _

theorem bools_replicate (n : Nat) : Array.replicate n (Value.bool false) = bools (List.replicate n false) := by
  simp [bools]

set_option maxHeartbeats 400000 in
theorem newSet_bad (n : Int) (w : World) (h : n < 0 ∨ 1024 < n) :
    Calls Try.prog 15 #[.int .i64 n] w fun e w' => e = .returned (.tuple #[.pointer none, .int .i64 3]) ∧ w = w' := by
  by_cases h0 : n < 0
  · go_enter Try.func15, Try.ntmps15
    go_wp2
    go_ret2
    exact ⟨rfl, rfl⟩
  · have h1 : 1024 < n := by omega
    go_enter Try.func15, Try.ntmps15
    go_wp2
    go_ret2
    exact ⟨rfl, rfl⟩

/-- A set in new memory. -/
def NewSetPost (W : World) (gs : List Bool) (e : Ending) (w' : World) : Prop :=
  ∃ ps gb, e = .returned (.tuple #[.pointer (some ⟨ps, 0, none⟩), .int .i64 0]) ∧ SetAt w' ps gb gs ∧ W.heap.size ≤ ps ∧ W.heap.size ≤ gb ∧ Below W.heap.size W w'

set_option maxHeartbeats 400000 in
theorem newSet_ok (n : Nat) (w : World) (h : n ≤ 1024) :
    Calls Try.prog 15 #[.int .i64 n] w (NewSetPost w (List.replicate n false)) := by
  have hb : (1 : Int) * (n : Int) ≤ 281474976710656 := by omega
  go_enter Try.func15, Try.ntmps15
  go_wp2
  go_ret2
  refine ⟨w.heap.size + 1, w.heap.size, rfl, ⟨?_, ?_, by omega, by simpa using h⟩, by omega, by omega, by (repeat (first | (with_reducible exact Below.refl _ _) | (with_reducible assumption) | (with_reducible refine Below.alloc ?_ ?_ _) | (with_reducible refine Below.drew ?_) | (with_reducible refine Below.setCell ?_ ?_ _) | (refine Below.step ?_ (by with_reducible assumption) ?_) | go_size))⟩
  · rw [rowOf?_alloc_at _ _ _ _ (by simp)]
    simp
  · rw [rowOf?_alloc_past _ _ _ (by simp), rowOf?_alloc_at _ _ _ _ rfl, bools_replicate]

set_option maxHeartbeats 400000 in
theorem members_any (ps gb : Nat) (gs : List Bool) (w : World) (h : SetAt w ps gb gs) (hlt : ps < w.heap.size) (hlt' : gb < w.heap.size) :
    Calls Try.prog 21 #[.pointer (some ⟨ps, 0, none⟩)] w (RetOwn w 3 (ints (mem gs))) := by
  have hs := h.small
  obtain ⟨pc, pf, _, _⟩ := rfacts h.box
  obtain ⟨gc, gf, _, _⟩ := rfacts h.row
  have p0 := pc 0
  have GC := Lib.hid gc
  have P0 := Lib.hid p0
  simp only [List.getElem?_toArray, List.getElem?_cons_zero] at p0
  clear pc pf gf h gc
  generalize hB : w.heap.size = B at *
  have HB := Lib.hid hB
  clear hB
  go_enter Try.func21, Try.ntmps21
  go_wp2
  go_loopw [3, 4, 5, 11] (fun o _ _ i wr => ∃ j : Nat, j ≤ gs.length ∧ i = .int .i64 j ∧ Own wr B 3 o (ints (memUpto gs j)) ∧ Below B w wr) (fun _ _ _ i _ => gs.length - (intOf i).toNat)
  case atStart => exact ⟨0, by omega, rfl, by rw [memUpto_zero]; exact Own.nil _ _ _, Below.refl _ _⟩
  case round =>
    obtain ⟨j, hj, rfl, hown, hbel⟩ := hrel
    have hml := memUpto_length gs j
    by_cases hlt2 : j < gs.length
    · have hg := GC.out j
      rw [bools_at gs j hlt2] at hg
      have hg2 : wr.cell? ⟨gb, j, none⟩ = some (.bool (gs.getD j false)) := (hbel.cell (p := ⟨gb, j, none⟩) hlt').trans hg
      clear hg
      have hstep := Lib.hid (memUpto_succ gs j)
      cases hx : gs.getD j false
      · rw [hx] at hg2
        have HX := Lib.hid hx
        clear hx
        go_wp2
        go_roundw
        case rel =>
          refine ⟨j + 1, by omega, by go_num, ?_, hbel⟩
          rw [hstep.out, HX.out]
          simpa using hown
        case measure => simp [intOf]; omega
      · rw [hx] at hg2
        have HX := Lib.hid hx
        clear hx
        have hBs := hbel.size
        rw [HB.out] at hBs
        go_wp2_with (at_builtin; refine wl_append rfl _ _ 25 rfl elemInt rfl (hown.alloc _) rfl (Sl.one _ _ _) (ints_one [(j : Int)]) ?_ ?_ ?_ ?_; (simp <;> omega); (simp <;> omega); (simp <;> omega); intro v1 w1 hown1 hb1 hg1)
        go_roundw
        case rel =>
          refine ⟨j + 1, by omega, by go_num, ?_, ?_⟩
          · rw [hstep.out, HX.out]
            simpa [ints] using hown1
          · exact (hbel.alloc hBs _).trans hb1
        case measure => simp [intOf]; omega
    · obtain rfl : j = gs.length := by omega
      go_wp2
      go_ret
      refine ⟨_, rfl, ?_, ?_⟩
      · rw [HB.out]; exact hown
      · rw [HB.out]; exact hbel

theorem vlFrom_cons (n : Int) (p : Option Int) (x : Int) (r : List Int) : vlFrom n p (x :: r) = if x < 0 ∨ n ≤ x then 3 else if (match p with | some q => decide (x ≤ q) | none => false) = true then 8 else vlFrom n (some x) r := by
  cases p <;> rfl
theorem vl_range {n : Int} {xs : List Int} : ∀ {p : Option Int}, vlFrom n p xs = 0 → ∀ v ∈ xs, 0 ≤ v ∧ v < n := by
  induction xs with
  | nil => intro p _ v hv; cases hv
  | cons x r ih =>
    intro p h v hv
    rw [vlFrom_cons] at h
    by_cases hx : x < 0 ∨ n ≤ x
    · rw [if_pos hx] at h; omega
    · rw [if_neg hx] at h
      generalize (match p with | some q => decide (x ≤ q) | none => false) = c at h
      cases c
      · rcases List.mem_cons.1 hv with rfl | hv
        · omega
        · exact ih (by simpa using h) v hv
      · simp at h
theorem vl_ok {n : Int} {xs : List Int} (h : vl n xs = 0) : ∀ v ∈ xs, 0 ≤ v ∧ v < n := by
  unfold vl at h
  split at h
  · cases h
  · exact vl_range h
theorem vlFrom_vals (n : Int) (xs : List Int) : ∀ p, vlFrom n p xs = 0 ∨ vlFrom n p xs = 3 ∨ vlFrom n p xs = 8 := by
  induction xs with
  | nil => intro p; simp [vlFrom]
  | cons x r ih =>
    intro p
    rw [vlFrom_cons]
    by_cases hx : x < 0 ∨ n ≤ x
    · rw [if_pos hx]; simp
    · rw [if_neg hx]
      generalize (match p with | some q => decide (x ≤ q) | none => false) = c
      cases c
      · simpa using ih (some x)
      · simp
theorem vl_vals (n : Int) (xs : List Int) : 0 ≤ vl n xs ∧ vl n xs ≤ 8 := by
  unfold vl
  split
  · omega
  · rcases vlFrom_vals n xs none with h | h | h <;> omega

/-- Punish where the list is refused. -/
theorem punish_bad (ps gb : Nat) (gs : List Bool) (a : Option Addr) (n cap : Nat) (S : Nat → Prop) (xs : List Int) (w : World) (h : SetAt w ps gb gs) (hl : Sl w S a n cap (ints xs)) (h64 : I64 xs) (hv : vl gs.length xs ≠ 0) :
    Calls Try.prog 17 #[.pointer (some ⟨ps, 0, none⟩), .slice a n cap] w fun e w' => e = .returned (.tuple #[.int .i64 0, .int .i64 (vl gs.length xs)]) ∧ w = w' := by
  have hs := h.small
  obtain ⟨pc, pf, _, _⟩ := rfacts h.box
  have p0 := pc 0
  simp only [List.getElem?_toArray, List.getElem?_cons_zero] at p0
  clear pc pf h
  have hne : (vl gs.length xs != 0) = true := by simpa using hv
  clear hv
  go_enter Try.func17, Try.ntmps17
  go_wp2_with (go_at_call 41; refine (validateList_any _ _ _ _ xs _ _ hl h64).mono ?_; rintro e w' ⟨rfl, rfl⟩)
  go_ret2
  exact ⟨rfl, rfl⟩

def PunishPost (W : World) (ps gb : Nat) (gs : List Bool) (added : Nat) (e : Ending) (w' : World) : Prop :=
  e = .returned (.tuple #[.int .i64 added, .int .i64 0]) ∧ SetAt w' ps gb gs ∧ W.grownBy w' (some gb)

set_option maxHeartbeats 1000000 in
theorem punish_ok (ps gb : Nat) (gs : List Bool) (a : Option Addr) (n cap : Nat) (S : Nat → Prop) (xs : List Int) (w : World) (h : SetAt w ps gb gs) (hl : Sl w S a n cap (ints xs)) (h64 : I64 xs) (hS : ∀ b, S b → b ≠ gb) (hlen : n ≤ 100000) (hv : vl gs.length xs = 0) :
    Calls Try.prog 17 #[.pointer (some ⟨ps, 0, none⟩), .slice a n cap] w (PunishPost w ps gb (markAll gs xs) (fresh gs xs)) := by
  have hs := h.small
  have hrange := vl_ok hv
  obtain ⟨pc, pf, _, _⟩ := rfacts h.box
  have p0 := pc 0
  simp only [List.getElem?_toArray, List.getElem?_cons_zero] at p0
  clear pc pf
  have HS := Lib.hid h
  have HLen := Lib.hid (show xs.length = n by have := hl.len; rwa [length_ints] at this)
  have HL := Lib.hid hl
  have hvl := validateList_any _ _ _ _ xs (gs.length : Int) w hl h64
  rw [hv] at hvl
  have HV := Lib.hid hvl
  have HR := Lib.hid hrange
  have hmax := hl.max
  clear hv hvl hrange h hl
  go_enter Try.func17, Try.ntmps17
  go_wp2_with (go_at_call 41; refine (HV.out).mono ?_; rintro e w' ⟨rfl, rfl⟩)
  go_loopw [4, 8, 21] (fun ad _ i wr => ∃ j : Nat, j ≤ n ∧ i = .int .i64 j ∧ ad = .int .i64 (fresh gs (xs.take j)) ∧ SetAt wr ps gb (markAll gs (xs.take j)) ∧ w.grownBy wr (some gb)) (fun _ _ i _ => n - (intOf i).toNat)
  case atStart => exact ⟨0, by omega, rfl, by simp [fresh], by simpa [markAll] using HS.out, ⟨rfl, rfl, rfl, Nat.le_refl _, fun _ _ _ => rfl⟩⟩
  case round =>
    obtain ⟨j, hj, rfl, rfl, hset, hgr⟩ := hrel
    have hfl := fresh_le gs (xs.take j)
    have htl : (xs.take j).length ≤ j := List.length_take_le _ _
    by_cases hlt : j < n
    · obtain ⟨b, off, rfl, hb, hc⟩ := HL.out.get (by omega)
      have hj' : j < xs.length := by have := HLen.out; omega
      have hcell := hc j _ (ints_get xs j hj')
      clear hc
      have hr := HR.out xs[j] (List.getElem_mem hj')
      have htake := Lib.hid (List.take_succ_eq_append_getElem hj')
      obtain ⟨m, hm⟩ := Int.eq_ofNat_of_zero_le hr.1
      rw [hm] at hcell hr
      have HM := Lib.hid hm
      clear hm
      have hcell2 : wr.cell? ⟨b, off + j, none⟩ = some (.int .i64 (m : Int)) := (World.cell?_of_block (a := ⟨b, off + j, none⟩) (hgr.block b (World.block_lt_of_cell? w _ hcell) (by have := hS b hb; simpa using this))).trans hcell
      clear hcell
      have hlen' := mark_length gs (xs.take j)
      have HLE := Lib.hid hlen'
      obtain ⟨qc, qf, _, _⟩ := rfacts hset.box
      obtain ⟨gc, gf, _, _⟩ := rfacts hset.row
      have q0 := qc 0
      simp only [List.getElem?_toArray, List.getElem?_cons_zero, hlen'] at q0
      have g0 := gc m
      rw [bools_at _ m (by rw [hlen']; omega)] at g0
      have gf0 := gf m
      clear qc qf gc gf hlen'
      have hfs := Lib.hid (fresh_snoc gs (xs.take j) xs[j])
      have hms := Lib.hid (mark_snoc gs (xs.take j) xs[j])
      have hm2 : m < gs.length := by omega
      have HSET := Lib.hid hset
      have HGR := Lib.hid hgr
      clear hset hgr
      generalize hx : (markAll gs (xs.take j)).getD m false = x at g0
      have HX := Lib.hid hx
      clear hx
      cases x
      · go_wp2
        go_roundw
        case rel =>
          refine ⟨j + 1, by omega, by go_num, ?_, ?_, ?_⟩
          · rw [htake.out, hfs.out, HM.out, Int.toNat_natCast, HX.out]
            go_num
          · rw [htake.out, hms.out, HM.out, Int.toNat_natCast]
            have hs2 := HSET.out
            refine ⟨?_, ?_, hs2.ne, by rw [List.length_set]; exact hs2.small⟩
            · rw [rowOf?_setCell_other _ _ _ _ hs2.ne, List.length_set]; exact hs2.box
            · rw [rowOf?_setCell_same, hs2.row, Option.map_some, bools_set]
          · have hg := HGR.out
            exact ⟨hg.os, hg.tape, hg.output, by simpa [World.setCell] using hg.size, fun k hk hne => (heap_setCell_other _ _ k _ (by intro e; exact hne (by simp [e]))).trans (hg.block k hk hne)⟩
        case measure => simp [intOf]; omega
      · go_wp2
        go_roundw
        case rel =>
          refine ⟨j + 1, by omega, by go_num, ?_, ?_, HGR.out⟩
          · rw [htake.out, hfs.out, HM.out, Int.toNat_natCast, HX.out]
            rfl
          · rw [htake.out, hms.out, HM.out, Int.toNat_natCast, set_same _ _ HX.out]
            exact HSET.out
        case measure => simp [intOf]; omega
    · obtain rfl : j = n := by omega
      go_wp2
      go_ret2
      have e : xs.take j = xs := List.take_of_length_le (by have := HLen.out; omega)
      rw [e] at hset
      refine ⟨?_, hset, hgr⟩
      rw [e]; rfl
end Go.Proofs.Ytkcgbcjiogpliaa
