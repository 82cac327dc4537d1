/-
  The sanity check of law 31.
-/
import Derived.Test.YtkcgbcjiogpliaaDev4
namespace Go.Proofs.Ytkcgbcjiogpliaa
open Go.RowKit Go.FH
set_option linter.unusedVariables false
set_option linter.unusedSimpArgs false

theorem DevTurned.below {B : Nat} {W w' : World} {p gb cap : Nat} {d : Dv} {v : Value} {e : Ending} (h : DevTurned W p gb cap d v e w') (hB : B ≤ p) : Below B W w' := by
  obtain ⟨_, _, h1, h2, h3, h4, h5⟩ := h
  exact ⟨h3, h4, h5, by omega, fun k hk => h1 k (by omega)⟩
theorem DevWrote.below {B : Nat} {W w' : World} {p gb cap : Nat} {d : Dv} {v : Value} {e : Ending} (h : DevWrote W p gb cap d v e w') (hB : B ≤ p) (hC : B ≤ gb) (hz : B ≤ W.heap.size) : Below B W w' := by
  obtain ⟨_, _, h1, h2, h3, h4, h5⟩ := h
  exact ⟨h3, h4, h5, h2, fun k hk => h1 k (by omega) (by omega) (by omega)⟩

def fillL (v : UInt8) (n j : Nat) : List UInt8 := List.replicate j v ++ List.replicate (n - j) 0
theorem length_fillL (v : UInt8) (n j : Nat) (h : j ≤ n) : (fillL v n j).length = n := by simp [fillL]; omega
theorem fill_zero (v : UInt8) (n : Nat) : Array.replicate n (Value.int .u8 0) = u8c (fillL v n 0) := by simp [zeros_u8, fillL]
theorem fill_set (v : UInt8) (n j : Nat) (h : j < n) : (u8c (fillL v n j)).setIfInBounds j (.int .u8 v.toNat) = u8c (fillL v n (j + 1)) := by
  apply Array.toList_inj.1
  apply List.ext_getElem?
  intro i
  simp only [fillL, u8c, Array.toList_setIfInBounds, List.getElem?_set, List.getElem?_map, List.getElem?_append, List.getElem?_replicate, List.length_replicate, List.length_map, List.length_append]
  by_cases h1 : j = i
  · subst h1
    simp; omega
  · rw [if_neg h1]
    by_cases h2 : i < j
    · have : i < j + 1 := by omega
      simp [h2, this]
    · have h3 : ¬ i < j + 1 := by omega
      simp only [h2, h3, if_false]
      congr 1
      by_cases h4 : i < n
      · rw [if_pos (by omega), if_pos (by omega)]
      · rw [if_neg (by omega), if_neg (by omega)]
theorem fill_full (v : UInt8) (n : Nat) : fillL v n n = List.replicate n v := by simp [fillL]

theorem awake_bytes : ((putAt (List.replicate (3 * 64) 0) (1 * 64) ((fullOf (fillL 7 128 128)).take (min 1 (secs 128) * 64))).drop (1 * 64)).take (2 * 64) = List.replicate 64 7 ++ List.replicate 64 0 := by decide +kernel
theorem awake_len : (putAt (List.replicate (3 * 64) 0) (1 * 64) ((fullOf (fillL 7 128 128)).take (min 1 (secs 128) * 64))).length = 192 := by decide +kernel

theorem sectors_is (p gb cap : Nat) (d : Dv) (k : Nat) (w : World) (h : DevAt w p gb cap d) (hk : d.bs.length / 64 = k) :
    Calls Try.prog 32 #[.pointer (some ⟨p, 0, none⟩)] w fun e w' => e = .returned (.int .i64 (k : Int)) ∧ w = w' := hk ▸ sectors_any p gb cap d w h
theorem Own.cast {w : World} {B : Nat} {e : TypeId} {v : Value} {xs ys : List UInt8} (h : Own w B e v (u8l xs)) (h1 : xs = ys) : Own w B e v (u8l ys) := h1 ▸ h
theorem Own.get8 {w : World} {B : Nat} {e : TypeId} {v : Value} {xs : List UInt8} (h : Own w B e v (u8l xs)) (h0 : xs ≠ []) :
    ∃ g cap, v = .slice (some ⟨g, 0, none⟩) xs.length cap ∧ B ≤ g ∧ xs.length ≤ cap ∧ g < w.heap.size ∧ ∀ i (hi : i < xs.length), w.cell? ⟨g, i, none⟩ = some (.int .u8 xs[i].toNat) := by
  obtain ⟨g, cap, cur, rfl, hg, hrow, hle, hcs, htk⟩ := Own.parts h (by intro hh; exact h0 (by simpa [u8l] using hh))
  rw [length_u8l] at hle htk ⊢
  refine ⟨g, cap, rfl, hg, hle, rowOf?_lt hrow, fun i hi => ?_⟩
  rw [rowOf?_cell hrow, ← u8l_get xs i hi, ← htk, List.getElem?_take, if_pos hi]
  simp
theorem awake_cells {w : World} {B : Nat} {e : TypeId} {v : Value} (h : Own w B e v (u8l (List.replicate 64 7 ++ List.replicate 64 0))) :
    ∃ g cap, v = .slice (some ⟨g, 0, none⟩) 128 cap ∧ B ≤ g ∧ 128 ≤ cap ∧ w.cell? ⟨g, 0, none⟩ = some (.int .u8 7) ∧ w.cell? ⟨g, 63, none⟩ = some (.int .u8 7) ∧ w.cell? ⟨g, 64, none⟩ = some (.int .u8 0) := by
  have hl : (List.replicate 64 (7 : UInt8) ++ List.replicate 64 0).length = 128 := by simp
  obtain ⟨g, cap, rfl, hg, hle, _, hc⟩ := Own.get8 h (by intro hh; rw [hh] at hl; simp at hl)
  simp only [hl] at hle hc ⊢
  exact ⟨g, cap, rfl, hg, hle, hc 0 (by omega), hc 63 (by omega), hc 64 (by omega)⟩
set_option maxHeartbeats 4000000 in
set_option maxRecDepth 20000 in
theorem awake31_any (w : World) : Calls Try.prog 33 #[] w fun e w' => e = .returned (.bool true) ∧ Below w.heap.size w w' := by
  go_enter Try.func33, Try.ntmps33
  go_wp2_with (first
    | (go_at_call 24; refine (devNew_ok 3 w (by omega) (by omega)).mono ?_; rintro e w1 ⟨p, gb, cap, rfl, hd, hp, hg, hb1⟩; have hlt := hd.lt.1; have hltg := hd.lt.2; have HD := Lib.hid hd; clear hd)
    | (go_at_call 25; refine (plan_ok _ _ _ _ 0 1 _ HD.out (by omega) (by omega)).mono ?_; rintro e w2 ht; have hb2 := DevTurned.below (B := w.heap.size) ht hp; have hz2 := ht.2.2.2.1; obtain rfl := ht.1; have HD2 := Lib.hid ht.2.1; clear ht))
  go_loopw [5] (fun i wr => ∃ j : Nat, j ≤ 128 ∧ i = .int .i64 j ∧ wr = w2.alloc (.cells (u8c (fillL 7 128 j)) 5)) (fun i _ => 128 - (intOf i).toNat)
  case atStart => exact ⟨0, by omega, rfl, by rw [← fill_zero]⟩
  case round =>
    obtain ⟨j, hj, rfl, rfl⟩ := hrel
    have hsz : (u8c (fillL 7 128 j)).size = 128 := by simp only [u8c, List.size_toArray, List.length_map]; exact length_fillL 7 128 j hj
    by_cases hlt2 : j < 128
    · go_wp2
      go_roundw
      case rel => exact ⟨j + 1, by omega, by go_num, by rw [← fill_set 7 128 j hlt2]; rfl⟩
      case measure => simp [intOf]; omega
    · obtain rfl : j = 128 := by omega
      clear hsz
      have hsl := Sl.fresh w2 5 (fillL 7 128 128) 128 (length_fillL _ _ _ (by omega)) (by omega) rfl _ rfl
      have HSL := Lib.hid hsl
      clear hsl
      generalize hW3 : w2.alloc (.cells (u8c (fillL 7 128 128)) 5) = w3 at *
      have hb3 : Below w.heap.size w w3 := by rw [← hW3]; exact (hb1.trans hb2).alloc (by omega) _
      have hz3 : w2.heap.size < w3.heap.size := by rw [← hW3]; simp
      have HD3 := Lib.hid (show DevAt w3 p gb cap _ from HD2.out.below (B := w2.heap.size) (by rw [← hW3]; exact (Below.refl _ _).alloc (Nat.le_refl _) _) (by omega) (by omega))
      clear hW3 hb1 hb2
      go_wp2_with (first
        | (go_at_call 28; refine (write_torn _ _ _ _ 1 _ _ _ _ _ _ HD3.out rfl HSL.out (by omega) (by decide +kernel) rfl rfl).mono ?_; rintro e w4 ht; have hb4 := DevWrote.below (B := w.heap.size) ht hp hg (by omega); have hz4 := ht.2.2.2.1; obtain rfl := ht.1; have HD4 := Lib.hid ht.2.1; clear ht)
        | (go_at_call 27; refine (read_crashed _ _ _ _ _ _ _ HD4.out rfl).mono ?_; rintro e w' ⟨rfl, rfl⟩)
        | (go_at_call 26; refine (restart_any _ _ _ _ _ HD4.out).mono ?_; rintro e w5 ht; have hb5 := DevTurned.below (B := w.heap.size) ht hp; have hz5 := ht.2.2.2.1; obtain rfl := ht.1; have HD5 := Lib.hid ht.2.1; clear ht HD4)
        | (go_at_call 27; refine (read_ok _ _ _ _ 1 2 _ HD5.out rfl (by decide +kernel)).mono ?_; rintro e w6 ⟨v, rfl, ho, hb6⟩; obtain ⟨g6, cap6, rfl, h6a, h6b, k0, k63, k64⟩ := awake_cells (Own.cast ho awake_bytes); have HD6 := Lib.hid (HD5.out.below hb6 (by omega) (by omega)); have hz6 := hb6.size)
        | (go_at_call 32; refine (sectors_is _ _ _ _ 3 _ HD6.out (by decide +kernel)).mono ?_; rintro e w' ⟨rfl, rfl⟩))
      all_goals go_ret
      exact ⟨rfl, by (repeat (first | (with_reducible exact Below.refl _ _) | (with_reducible assumption) | (with_reducible refine Below.alloc ?_ ?_ _) | (with_reducible refine Below.drew ?_) | (with_reducible refine Below.setCell ?_ ?_ _) | (refine Below.step ?_ (by with_reducible assumption) ?_) | go_size))⟩
end Go.Proofs.Ytkcgbcjiogpliaa
