/-
  Laws of string(b).
-/
import Derived.Test.YtkcgbcjiogpliaaDev5
import Derived.Test.YtkcgbcjiogpliaaOpen
import Derived.Deep.RegionLaw
namespace Go.Proofs.Ytkcgbcjiogpliaa
open Go.RowKit Go.FH
set_option linter.unusedVariables false
set_option linter.unusedSimpArgs false

theorem u8_of_ints (xs : List Int) (h : ∀ z ∈ xs, (Lit.int .u8 z).wf = true) : ∃ bs : List UInt8, xs.map (Value.int .u8) = u8l bs := by
  induction xs with
  | nil => exact ⟨[], rfl⟩
  | cons z xs ih =>
    obtain ⟨bs, hb⟩ := ih fun y hy => h y (List.mem_cons_of_mem _ hy)
    have hz := h z (List.mem_cons_self)
    have hr : 0 ≤ z ∧ z ≤ 255 := by
      simp [Lit.wf, IntKind.min, IntKind.max, IntKind.signed, IntKind.bits] at hz
      omega
    refine ⟨UInt8.ofNat z.toNat :: bs, ?_⟩
    simp only [List.map_cons, hb, u8l]
    congr 2
    simp only [UInt8.toNat_ofNat']
    omega

@[go_sem] theorem readBytes_alloc (w : World) (o : Obj) (g off n cap : Nat) (h : g < w.heap.size) : readBytes (w.alloc o) (.slice (some ⟨g, off, none⟩) n cap) = readBytes w (.slice (some ⟨g, off, none⟩) n cap) := by
  simp only [readBytes]
  congr 1
  funext i
  rw [addr_add, World.cell?_alloc_past _ _ _ (by exact h)]
@[go_sem] theorem readBytes_drewN (w : World) (q : Nat) (v : Value) : readBytes (w.drewN q) v = readBytes w v := rfl
@[go_sem] theorem readBytes_drew (w : World) (v : Value) : readBytes w.drew v = readBytes w v := rfl
theorem readBytes_zeros (w : World) (n : Nat) (hm : n ≤ 4000000) (k : Nat) (hk : k = w.heap.size) : readBytes (w.alloc (.cells (Array.replicate n (Value.int .u8 0)) 5)) (.slice (some ⟨k, 0, none⟩) n n) = some (List.replicate n 0) := by
  rw [zeros_u8]
  exact readBytes_sl (Sl.fresh w 5 (List.replicate n 0) n (by simp) hm rfl k hk)
theorem Own.read {w : World} {B : Nat} {e : TypeId} {v : Value} {xs : List UInt8} (h : Own w B e v (u8l xs)) : readBytes w v = some xs := by
  obtain ⟨a, n, cap, rfl, _, hs⟩ := h.sl
  exact readBytes_sl hs

end Go.Proofs.Ytkcgbcjiogpliaa
