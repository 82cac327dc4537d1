/-
  DeviceTorn: the walk.
-/
import Derived.Test.YtkcgbcjiogpliaaDev7
namespace Go.Proofs.Ytkcgbcjiogpliaa
open Go.RowKit Go.FH
set_option linter.unusedVariables false
set_option linter.unusedSimpArgs false

theorem or1_u8 (a : Int) (h0 : 0 ≤ a) (h1 : a ≤ 255) : ∃ V : UInt8, bits .or .u8 a 1 = ((V.toNat : Nat) : Int) := by
  have key : ∀ x : Fin 256, 0 ≤ bits .or .u8 ((x.val : Nat) : Int) 1 ∧ bits .or .u8 ((x.val : Nat) : Int) 1 ≤ 255 := by decide +kernel
  obtain ⟨k, rfl⟩ := Int.eq_ofNat_of_zero_le h0
  have h := key ⟨k, by omega⟩
  refine ⟨UInt8.ofNat (bits .or .u8 (k : Int) 1).toNat, ?_⟩
  simp only [UInt8.toNat_ofNat']
  have h2 : 0 ≤ bits .or .u8 (k : Int) 1 ∧ bits .or .u8 (k : Int) 1 ≤ 255 := h
  omega

def tornBs (V : UInt8) (A m K : Nat) : List UInt8 := putAt (List.replicate (8 * 64) 0) (A * 64) ((fullOf (fillL V m m)).take (min K (secs m) * 64))
theorem length_fillL' (V : UInt8) (m : Nat) : (fillL V m m).length = m := length_fillL V m m (Nat.le_refl _)
theorem tornBs_len (V : UInt8) (A m K : Nat) (hA : A ≤ 3) (hm : m ≤ 256) : (tornBs V A m K).length = 512 := by
  unfold tornBs
  have h1 : secs m ≤ 4 := by unfold secs; omega
  have h2 := length_fullOf (fillL V m m)
  rw [length_fillL'] at h2
  rw [length_putAt]
  · rw [List.length_replicate]
  · simp only [List.length_take, List.length_replicate, h2]; omega
theorem tornBs_get (V : UInt8) (A m K i : Nat) (hA : A ≤ 3) (hm : m ≤ 256) (hi : i < 512) :
    (tornBs V A m K)[i]? = some (if A * 64 ≤ i ∧ i - A * 64 < m ∧ (i - A * 64) / 64 < min K (secs m) then V else 0) := by
  unfold tornBs putAt
  have h1 : secs m ≤ 4 := by unfold secs; omega
  have hms := secs_ge m
  have h2 := length_fullOf (fillL V m m)
  rw [length_fillL'] at h2
  have h3 : (List.take (A * 64) (List.replicate (8 * 64) (0 : UInt8))).length = A * 64 := by rw [List.length_take, List.length_replicate]; omega
  have h4 : ((fullOf (fillL V m m)).take (min K (secs m) * 64)).length = min K (secs m) * 64 := by rw [List.length_take, h2]; omega
  rw [List.append_assoc]
  by_cases c1 : A * 64 ≤ i
  · rw [List.getElem?_append_right (by rw [h3]; exact c1), h3]
    by_cases c2 : i - A * 64 < min K (secs m) * 64
    · rw [List.getElem?_append_left (by rw [h4]; exact c2), List.getElem?_take, if_pos c2]
      have c3 : (i - A * 64) / 64 < min K (secs m) := by omega
      unfold fullOf
      rw [fill_full]
      by_cases c4 : i - A * 64 < m
      · rw [List.getElem?_append_left (by simpa using c4), if_pos ⟨c1, c4, c3⟩]
        simp [c4]
      · rw [List.getElem?_append_right (by simpa using c4), if_neg (fun h => c4 h.2.1)]
        simp only [List.length_replicate, List.getElem?_replicate]
        rw [if_pos (by omega)]
    · have c3 : ¬ (i - A * 64) / 64 < min K (secs m) := by omega
      rw [List.getElem?_append_right (by rw [h4]; omega), h4, if_neg (fun h => c3 h.2.2), List.getElem?_drop]
      simp only [List.getElem?_replicate]
      rw [if_pos (by omega)]
  · rw [List.getElem?_append_left (by rw [h3]; omega), if_neg (fun h => c1 h.1), List.getElem?_take, if_pos (by omega)]
    simp only [List.getElem?_replicate]
    rw [if_pos (by omega)]
def tornDv (V : UInt8) (A m K : Nat) : Dv := { bs := tornBs V A m K, crashed := true, planned := true, wait := 0, keep := K }
end Go.Proofs.Ytkcgbcjiogpliaa
