/-
  Sums of bytes: what they are, and that one turned byte, or two that change places, turn them.
-/
import Derived.Test.YtachiahepppajaaCb
namespace Go.Proofs.Ytachiahepppajaa
open Go Go.FH
set_option linter.unusedVariables false
set_option linter.unusedSimpArgs false

def s1 : List UInt8 → Int
  | [] => 0
  | x :: xs => (x.toNat : Int) + 1 + s1 xs
def s2 : List UInt8 → Int → Int
  | [], _ => 0
  | x :: xs, a => (a + x.toNat + 1) + s2 xs (a + x.toNat + 1)
theorem s1_bound : ∀ xs : List UInt8, 0 ≤ s1 xs ∧ s1 xs ≤ 256 * xs.length
  | [] => by simp [s1]
  | x :: xs => by
    have := s1_bound xs
    have hx : x.toNat < 256 := x.toNat_lt
    simp only [s1, List.length_cons]; omega
theorem s2_bound : ∀ (xs : List UInt8) (a : Int), 0 ≤ a → 0 ≤ s2 xs a ∧ s2 xs a ≤ xs.length * (a + 256 * xs.length)
  | [], a, _ => by simp [s2]
  | x :: xs, a, h => by
    have hx : x.toNat < 256 := x.toNat_lt
    have := s2_bound xs (a + x.toNat + 1) (by omega)
    simp only [s2, List.length_cons]
    refine ⟨by omega, ?_⟩
    have h1 : (xs.length : Int) * (a + x.toNat + 1 + 256 * xs.length) ≤ xs.length * (a + 256 * (xs.length + 1)) := Int.mul_le_mul_of_nonneg_left (by omega) (by omega)
    have h2 : ((xs.length + 1 : Nat) : Int) * (a + 256 * ((xs.length + 1 : Nat) : Int)) = xs.length * (a + 256 * (xs.length + 1)) + (a + 256 * (xs.length + 1)) := by
      simp only [Int.natCast_add, Int.natCast_one]
      rw [Int.add_mul, Int.one_mul]
    rw [h2]; omega
theorem sums_exact : ∀ (xs : List UInt8) (a b : Int), 0 ≤ a → 0 ≤ b → a + 256 * xs.length < 4294967295 → b + xs.length * (a + 256 * xs.length) < 4294967295 → sums xs a b = (a + s1 xs, b + s2 xs a)
  | [], a, b, _, _, _, _ => by simp [sums, s1, s2]
  | x :: xs, a, b, h1, h2, h3, h4 => by
    have hx : x.toNat < 256 := x.toNat_lt
    simp only [List.length_cons] at h3 h4
    have e1 : sumA a x.toNat = a + x.toNat + 1 := by
      unfold sumA
      rw [wrap_u64_in (n := (x.toNat : Int)) (by omega) (by omega), wrap_u64_in (n := a + (x.toNat : Int)) (by omega) (by omega), wrap_u64_in (n := a + (x.toNat : Int) + 1) (by omega) (by omega)]
      rw [Int.tmod_eq_emod_of_nonneg (by omega)]; omega
    have h5 : ((xs.length + 1 : Nat) : Int) * (a + 256 * ((xs.length + 1 : Nat) : Int)) = xs.length * (a + 256 * (xs.length + 1)) + (a + 256 * (xs.length + 1)) := by
      simp only [Int.natCast_add, Int.natCast_one]
      rw [Int.add_mul, Int.one_mul]
    rw [h5] at h4
    have h6 : (xs.length : Int) * (a + x.toNat + 1 + 256 * xs.length) ≤ xs.length * (a + 256 * (xs.length + 1)) := Int.mul_le_mul_of_nonneg_left (by omega) (by omega)
    have h7 : 0 ≤ (xs.length : Int) * (a + 256 * (xs.length + 1)) := Int.mul_nonneg (by omega) (by omega)
    have e2 : sumB b (a + x.toNat + 1) = b + (a + x.toNat + 1) := by
      unfold sumB
      rw [wrap_u64_in (by omega) (by omega), Int.tmod_eq_emod_of_nonneg (by omega)]; omega
    rw [sums, e1, e2, sums_exact xs _ _ (by omega) (by omega) (by omega) (by omega)]
    simp only [s1, s2, Prod.mk.injEq]
    omega
theorem sumV_eq {bs : List UInt8} (h : bs.length ≤ 3000) : sumV bs = s2 bs 1 * 4294967296 + (1 + s1 bs) := by
  have hb1 := s1_bound bs
  have hb2 := s2_bound bs 1 (by omega)
  have h1 : (bs.length : Int) * (1 + 256 * bs.length) ≤ 3000 * 768001 := by
    have := Int.mul_le_mul (a := (bs.length : Int)) (b := 1 + 256 * bs.length) (c := 3000) (d := 768001) (by omega) (by omega) (by omega) (by omega)
    exact this
  unfold sumV ishl
  rw [sums_exact bs 1 0 (by omega) (by omega) (by omega) (by omega)]
  simp only
  have e0 : (2 : Int) ^ (min 32 IntKind.u64.bits) = 4294967296 := by decide
  rw [e0, wrap_u64_in (n := (0 + s2 bs 1) * 4294967296) (by omega) (by omega), wrap_u64_in (by omega) (by omega)]
  omega
theorem sumV_inj {bs cs : List UInt8} (hb : bs.length ≤ 3000) (hc : cs.length ≤ 3000) (h : sumV bs = sumV cs) : s1 bs = s1 cs ∧ s2 bs 1 = s2 cs 1 := by
  rw [sumV_eq hb, sumV_eq hc] at h
  have h1 := s1_bound bs
  have h2 := s1_bound cs
  omega
theorem s1_set : ∀ (bs : List UInt8) (i : Nat) (h : i < bs.length) (y : UInt8), s1 (bs.set i y) = s1 bs - bs[i].toNat + y.toNat
  | x :: xs, 0, _, y => by simp only [List.set_cons_zero, s1, List.getElem_cons_zero]; omega
  | x :: xs, i + 1, h, y => by
    simp only [List.set_cons_succ, s1, List.getElem_cons_succ]
    rw [s1_set xs i (by simpa using h) y]; omega
theorem s2_swap : ∀ (bs : List UInt8) (i : Nat) (h : i + 1 < bs.length) (a : Int), s2 ((bs.set i bs[i + 1]).set (i + 1) bs[i]) a = s2 bs a - bs[i].toNat + bs[i + 1].toNat
  | x :: y :: xs, 0, _, a => by
    simp only [List.set_cons_zero, List.set_cons_succ, s2, List.getElem_cons_zero, List.getElem_cons_succ]
    rw [show a + (y.toNat : Int) + 1 + x.toNat + 1 = a + x.toNat + 1 + y.toNat + 1 by omega]; omega
  | x :: xs, i + 1, h, a => by
    simp only [List.set_cons_succ, s2, List.getElem_cons_succ]
    rw [s2_swap xs i (by simpa using h) _]; omega
theorem sumV_turned {bs : List UInt8} (h : bs.length ≤ 3000) {i : Nat} (hi : i < bs.length) {y : UInt8} (hy : y ≠ bs[i]) : sumV (bs.set i y) ≠ sumV bs := by
  intro hh
  have := (sumV_inj (by simpa using h) h hh).1
  rw [s1_set bs i hi y] at this
  exact hy (UInt8.toNat_inj.1 (by omega))
theorem sumV_swapped {bs : List UInt8} (h : bs.length ≤ 3000) {i : Nat} (hi : i + 1 < bs.length) (hy : bs[i] ≠ bs[i + 1]) : sumV ((bs.set i bs[i + 1]).set (i + 1) bs[i]) ≠ sumV bs := by
  intro hh
  have := (sumV_inj (by simpa using h) h hh).2
  rw [s2_swap bs i hi 1] at this
  exact hy (UInt8.toNat_inj.1 (by omega))
end Go.Proofs.Ytachiahepppajaa
