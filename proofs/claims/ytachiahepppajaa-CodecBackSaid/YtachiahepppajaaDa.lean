/-
  Plain laws of numbers as bytes: what was written is read back.
-/
import Derived.Test.YtachiahepppajaaCd
namespace Go.Proofs.Ytachiahepppajaa
open Go Go.FH
set_option linter.unusedVariables false
set_option linter.unusedSimpArgs false

theorem uenc_len : ∀ (k n : Nat), n < 128 ^ (k + 1) → (uenc n).length ≤ k + 1
  | 0, n, h => by rw [uenc_small (by simpa using h)]; simp
  | k + 1, n, h => by
    by_cases hn : n < 128
    · rw [uenc_small hn]; simp
    · rw [uenc_big (by omega), List.length_cons]
      have : n / 128 < 128 ^ (k + 1) := by
        rw [Nat.div_lt_iff_lt_mul (by omega)]
        rw [Nat.pow_succ] at h; exact h
      have := uenc_len k (n / 128) this
      omega
theorem uenc_len10 {n : Nat} (h : n < 18446744073709551616) : (uenc n).length ≤ 10 := uenc_len 9 n (by omega)
theorem uenc_pos (n : Nat) : 0 < (uenc n).length := by
  by_cases hn : n < 128
  · rw [uenc_small hn]; simp
  · rw [uenc_big (by omega)]; simp

theorem mask127 : ∀ k : Fin 256, iand .u8 ((k.val : Nat) : Int) 127 = ((k.val % 128 : Nat) : Int) := by decide +kernel
theorem or_add {v c k : Nat} (hv : v < 2 ^ k) (hc : v + c * 2 ^ k < 18446744073709551616) :
    ior .u64 (v : Int) ((c * 2 ^ k : Nat) : Int) = ((v + c * 2 ^ k : Nat) : Int) := by
  have e : (BitVec.ofInt IntKind.u64.bits (v : Int) ||| BitVec.ofInt IntKind.u64.bits ((c * 2 ^ k : Nat) : Int)).toNat = v + c * 2 ^ k := by
    rw [BitVec.toNat_or, BitVec.ofInt_natCast, BitVec.ofInt_natCast, BitVec.toNat_ofNat, BitVec.toNat_ofNat]
    rw [Nat.mod_eq_of_lt (show v < 2 ^ IntKind.u64.bits from Nat.lt_of_le_of_lt (Nat.le_add_right _ _) hc), Nat.mod_eq_of_lt (show c * 2 ^ k < 2 ^ IntKind.u64.bits from Nat.lt_of_le_of_lt (Nat.le_add_left _ _) hc)]
    rw [Nat.or_comm, Nat.mul_comm c, ← Nat.two_pow_add_eq_or_of_lt hv]
    omega
  unfold ior
  rw [e, wrap_u64_in (by omega) (by omega)]
theorem rstep_eq {v i : Nat} {b : UInt8} (hi : i ≤ 9) (hv : v < 2 ^ (7 * i)) (hb : v + b.toNat % 128 * 2 ^ (7 * i) < 18446744073709551616) : rstep v b i = ((v + b.toNat % 128 * 2 ^ (7 * i) : Nat) : Int) := by
  unfold rstep
  have h1 := mask127 ⟨b.toNat, b.toNat_lt⟩
  simp only at h1
  rw [h1, wrap_u64_in (n := ((b.toNat % 128 : Nat) : Int)) (by omega) (by omega)]
  unfold ishl
  have h2 : min (7 * i) IntKind.u64.bits = 7 * i := by simp only [IntKind.bits]; omega
  rw [h2, show (((b.toNat % 128 : Nat) : Int) * 2 ^ (7 * i)) = ((b.toNat % 128 * 2 ^ (7 * i) : Nat) : Int) by push_cast; rfl]
  rw [wrap_u64_in (n := ((b.toNat % 128 * 2 ^ (7 * i) : Nat) : Int)) (by omega) (by omega)]
  exact or_add hv hb

theorem rnumF_uenc (tail : List UInt8) : ∀ (m i v : Nat), i + (uenc m).length ≤ 10 → v < 2 ^ (7 * i) → v + m * 2 ^ (7 * i) < 18446744073709551616 → (0 < m ∨ i = 0) →
    rnumF ((uenc m ++ tail).take (10 - i)) i v = (((v + m * 2 ^ (7 * i) : Nat) : Int), i + (uenc m).length, 0) := by
  intro m
  induction m using Nat.strongRecOn with
  | _ m ih =>
    intro i v hl hv hs hp
    by_cases hm : m < 128
    · rw [uenc_small hm] at hl ⊢
      simp only [List.length_cons, List.length_nil] at hl ⊢
      have hb : (UInt8.ofNat m).toNat = m := by simp only [UInt8.toNat_ofNat']; omega
      rw [show 10 - i = (9 - i) + 1 by omega, List.cons_append, List.take_succ_cons, rnumF, hb]
      rw [if_neg, if_pos hm, if_neg (by omega), rstep_eq (by omega) hv (by rw [hb, Nat.mod_eq_of_lt hm]; exact hs), hb, Nat.mod_eq_of_lt hm]
      rintro ⟨rfl, h1⟩
      have : 2 * 2 ^ (7 * 9) ≤ m * 2 ^ (7 * 9) := Nat.mul_le_mul_right _ h1
      omega
    · rw [uenc_big (by omega)] at hl ⊢
      simp only [List.length_cons] at hl ⊢
      have hb : (UInt8.ofNat (m % 128 + 128)).toNat = m % 128 + 128 := by simp only [UInt8.toNat_ofNat']; omega
      have hpos := uenc_pos (m / 128)
      rw [show 10 - i = (10 - (i + 1)) + 1 by omega, List.cons_append, List.take_succ_cons, rnumF, hb]
      have e : 2 ^ (7 * (i + 1)) = 128 * 2 ^ (7 * i) := by rw [Nat.mul_add, Nat.pow_add, Nat.mul_comm]
      have em : m * 2 ^ (7 * i) = m % 128 * 2 ^ (7 * i) + m / 128 * 2 ^ (7 * (i + 1)) := by
        rw [e, ← Nat.mul_assoc, ← Nat.add_mul]
        congr 1; omega
      have h2 : m % 128 * 2 ^ (7 * i) ≤ 127 * 2 ^ (7 * i) := Nat.mul_le_mul_right _ (by omega)
      rw [if_neg (by omega), if_neg (by omega), rstep_eq (by omega) hv (by rw [hb, show (m % 128 + 128) % 128 = m % 128 by omega]; omega), hb, show (m % 128 + 128) % 128 = m % 128 by omega]
      rw [ih (m / 128) (by omega) (i + 1) _ (by omega) (by rw [e]; omega) (by omega) (by omega)]
      simp only [Prod.mk.injEq, and_true]
      exact ⟨by omega, by omega⟩
theorem rnum_uenc {n : Nat} (h : n < 18446744073709551616) (tail : List UInt8) : rnum (uenc n ++ tail) = ((n : Int), (uenc n).length, 0) := by
  have := rnumF_uenc tail n 0 0 (by have := uenc_len10 h; omega) (by simp) (by simpa using h) (.inr rfl)
  simpa [rnum] using this
/-- What is cut off before its end. -/
theorem rnumF_cut : ∀ (m i : Nat) (v : Int) (k : Nat), i + (uenc m).length ≤ 10 → k < (uenc m).length → rnumF ((uenc m).take k) i v = (0, 0, 5) := by
  intro m
  induction m using Nat.strongRecOn with
  | _ m ih =>
    intro i v k hl hk
    by_cases hm : m < 128
    · rw [uenc_small hm] at hl hk ⊢
      simp only [List.length_cons, List.length_nil] at hk
      rw [show k = 0 by omega]; rfl
    · rw [uenc_big (by omega)] at hl hk ⊢
      simp only [List.length_cons] at hk hl
      cases k with
      | zero => rfl
      | succ k =>
        have hb : (UInt8.ofNat (m % 128 + 128)).toNat = m % 128 + 128 := by simp only [UInt8.toNat_ofNat']; omega
        have hpos := uenc_pos (m / 128)
        rw [List.take_succ_cons, rnumF, hb, if_neg (by omega), if_neg (by omega)]
        exact ih (m / 128) (by omega) (i + 1) _ k (by omega) (by omega)
theorem rnum_cut {n k : Nat} (h : n < 18446744073709551616) (hk : k < (uenc n).length) : rnum ((uenc n).take k) = (0, 0, 5) := by
  have := uenc_len10 h
  unfold rnum
  rw [List.take_take, show min 10 k = k by omega]
  exact rnumF_cut n 0 0 k (by omega) hk
end Go.Proofs.Ytachiahepppajaa
