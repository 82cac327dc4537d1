/-
  Contracts of package device: Read, Write.
-/
import Derived.Test.YtkcgbcjiogpliaaDevice
namespace Go.Proofs.Ytkcgbcjiogpliaa
open Go.RowKit Go.FH
set_option linter.unusedVariables false
set_option linter.unusedSimpArgs false

@[go_sem] def sliceLo (P : Program) (t : TypeId) (size : Nat) (w : World) (x : Value) : Value → Result Next
  | .int k z => sliceRes P t size w x (some (.int k z)) none z (fun n => (n : Int))
  | v => slowSlice t x (some v) none P w
@[go_sem] def sliceHi (P : Program) (t : TypeId) (size : Nat) (w : World) (x : Value) : Value → Result Next
  | .int k z => sliceRes P t size w x none (some (.int k z)) 0 (fun _ => z)
  | v => slowSlice t x none (some v) P w
@[go_sem] def sliceLh (P : Program) (t : TypeId) (size : Nat) (w : World) (x : Value) : Value → Value → Result Next
  | .int k z, .int k' z' => sliceRes P t size w x (some (.int k z)) (some (.int k' z')) z (fun _ => z')
  | v, v' => slowSlice t x (some v) (some v') P w
@[go_sem ↓] theorem slice_lo_u8 (ρ : Operand → Value) (dst : Option Tmp) (x l : Operand) (ty : TypeId) (pos : String) (aft : Array Edge) (g : Option (Nat × Bool)) (w : World) :
    (execOp ρ ⟨dst, .slice 48 x (some l) none none, ty, pos, aft, g⟩).run Try.prog w = sliceLo Try.prog 48 1 w (ρ x) (ρ l) := by
  unfold sliceLo
  split
  · rename_i k z hl
    rw [exec_slice_lo Try.prog Try.underlying48 (i := (Try.prog.info? 5).get rfl) rfl _ _ _ _ _ _ _ _ _ (by rw [hl]; rfl), hl]; rfl
  · rfl
@[go_sem ↓] theorem slice_hi_u8 (ρ : Operand → Value) (dst : Option Tmp) (x l : Operand) (ty : TypeId) (pos : String) (aft : Array Edge) (g : Option (Nat × Bool)) (w : World) :
    (execOp ρ ⟨dst, .slice 48 x none (some l) none, ty, pos, aft, g⟩).run Try.prog w = sliceHi Try.prog 48 1 w (ρ x) (ρ l) := by
  unfold sliceHi
  split
  · rename_i k z hl
    rw [exec_slice_hi Try.prog Try.underlying48 (i := (Try.prog.info? 5).get rfl) rfl _ _ _ _ _ _ _ _ _ (by rw [hl]; rfl), hl]; rfl
  · rfl
@[go_sem ↓] theorem slice_lh_u8 (ρ : Operand → Value) (dst : Option Tmp) (x l h : Operand) (ty : TypeId) (pos : String) (aft : Array Edge) (g : Option (Nat × Bool)) (w : World) :
    (execOp ρ ⟨dst, .slice 48 x (some l) (some h) none, ty, pos, aft, g⟩).run Try.prog w = sliceLh Try.prog 48 1 w (ρ x) (ρ l) (ρ h) := by
  unfold sliceLh
  split
  · rename_i k z k' z' hl hh
    rw [exec_slice_lh Try.prog Try.underlying48 (i := (Try.prog.info? 5).get rfl) rfl _ _ _ _ _ _ _ _ _ _ (by rw [hl]; rfl) (by rw [hh]; rfl), hl, hh]; rfl
  · rfl

set_option maxHeartbeats 400000 in
theorem read_crashed (p gb cap : Nat) (d : Dv) (at_ s : Int) (w : World) (h : DevAt w p gb cap d) (hc : d.crashed = true) :
    Calls Try.prog 27 #[.pointer (some ⟨p, 0, none⟩), .int .i64 at_, .int .i64 s] w fun e w' => e = .returned (.tuple #[.slice none 0 0, .int .i64 24]) ∧ w = w' := by
  obtain ⟨c0, c1, c2, c3, c4, cf⟩ := h.cells
  rw [hc] at c1
  clear h hc
  go_enter Try.func27, Try.ntmps27
  go_wp2
  go_ret2
  exact ⟨rfl, rfl⟩

set_option maxHeartbeats 400000 in
theorem read_bad (p gb cap : Nat) (d : Dv) (at_ s : Int) (w : World) (h : DevAt w p gb cap d) (hc : d.crashed = false) (h1 : -1000000000 ≤ at_) (h2 : at_ ≤ 1000000000) (h3 : -1000000000 ≤ s) (h4 : s ≤ 1000000000) (he : existB d at_ s = false) :
    Calls Try.prog 27 #[.pointer (some ⟨p, 0, none⟩), .int .i64 at_, .int .i64 s] w fun e w' => e = .returned (.tuple #[.slice none 0 0, .int .i64 3]) ∧ w = w' := by
  obtain ⟨c0, c1, c2, c3, c4, cf⟩ := h.cells
  rw [hc] at c1
  have hx := exist_any p gb cap d at_ s w h h1 h2 h3 h4
  rw [he] at hx
  have HX := Lib.hid hx
  clear h hc hx
  go_enter Try.func27, Try.ntmps27
  go_wp2_with (go_at_call 43; refine HX.out.mono ?_; rintro e w' ⟨rfl, rfl⟩)
  go_ret2
  exact ⟨rfl, rfl⟩

set_option maxHeartbeats 400000 in
theorem read_ok (p gb cap : Nat) (d : Dv) (a s : Nat) (w : World) (h : DevAt w p gb cap d) (hc : d.crashed = false) (hs : a + s ≤ d.bs.length / 64) :
    Calls Try.prog 27 #[.pointer (some ⟨p, 0, none⟩), .int .i64 a, .int .i64 s] w fun e w' => ∃ v, e = .returned (.tuple #[v, .int .i64 0]) ∧ Own w' w.heap.size 5 v (u8l ((d.bs.drop (a * 64)).take (s * 64))) ∧ Below w.heap.size w w' := by
  obtain ⟨c0, c1, c2, c3, c4, cf⟩ := h.cells
  rw [hc] at c1
  have hsm := h.small
  have hle := h.le
  have hx := exist_any p gb cap d a s w h (by omega) (by omega) (by omega) (by omega)
  have he : existB d (a : Int) (s : Int) = true := by simp [existB]; omega
  rw [he] at hx
  have HX := Lib.hid hx
  have hsl := h.sl.cut (a * 64) ((a + s) * 64) (by omega) (by omega)
  have hk : (a + s) * 64 - a * 64 = s * 64 := by omega
  rw [hk, u8l_drop, u8l_take] at hsl
  have hcl := clone_any _ _ _ _ _ w hsl (by omega)
  have HC := Lib.hid hcl
  clear h hc hx hsl hcl he
  generalize d.bs.length = n at *
  go_enter Try.func27, Try.ntmps27
  go_wp2_with (first | (go_at_call 43; refine HX.out.mono ?_; rintro e w' ⟨rfl, rfl⟩) | (go_at_call 44; refine HC.out.mono ?_; rintro e w' ⟨v, rfl, ho, hb⟩))
  go_ret2
  exact ⟨v, rfl, ho, hb⟩
end Go.Proofs.Ytkcgbcjiogpliaa
