/-
  DeviceTorn: the walk.
-/
import Derived.Test.YtkcgbcjiogpliaaDev8
namespace Go.Proofs.Ytkcgbcjiogpliaa
open Go.RowKit Go.FH
set_option linter.unusedVariables false
set_option linter.unusedSimpArgs false

set_option maxHeartbeats 8000000 in
set_option maxRecDepth 20000 in
theorem torn_at (w : World) (k0 a0 n0 : Int) (K A m q : Nat) (a : Int) (V : UInt8) (hK : k0 % 8 = (K : Int)) (hA : a0 % 4 = (A : Int)) (hm : 1 + n0 % 256 = (m : Int)) (hV : bits .or .u8 a 1 = ((V.toNat : Nat) : Int))
    (kK : K ≤ 7) (kA : A ≤ 3) (km : 1 ≤ m) (km2 : m ≤ 256) (hq : q = secs m) (hr1 : 0 ≤ a) (hr2 : a ≤ 255) :
    Calls Try.prog 7 #[.int .i64 k0, .int .i64 a0, .int .i64 n0, .int .u8 a] w fun e w' => e = .returned (.bool true) ∧ Below w.heap.size w w' := by
  have hq4 : q ≤ 4 := by rw [hq]; unfold secs; omega
  have e1 : ((((m : Int) + 64) - 1) / 64) = (q : Int) := by rw [hq]; unfold secs; omega
  have hvl : V.toNat ≤ 255 := by have := V.toNat_lt; omega
  have HQ := Lib.hid hq
  clear hq
  go_enter Try.func7, Try.ntmps7
  go_wp2_with (first
    | (go_at_call 24; refine (devNew_ok 8 w (by omega) (by omega)).mono ?_; rintro e w1 ⟨p, gb, cap, rfl, hd, hp, hg, hb1⟩; have hz1 := hb1.size; have hlt := hd.lt.1; have hltg := hd.lt.2; have HD := Lib.hid hd; clear hd))
  go_loopw [13] (fun i wr => ∃ j : Nat, j ≤ m ∧ i = .int .i64 j ∧ wr = w1.alloc (.cells (u8c (fillL V m j)) 5)) (fun i _ => m - (intOf i).toNat)
  case atStart => exact ⟨0, by omega, rfl, by rw [← fill_zero]⟩
  case round =>
    obtain ⟨j, hj, rfl, rfl⟩ := hrel
    have hsz : (u8c (fillL V m j)).size = m := by simp only [u8c, List.size_toArray, List.length_map]; exact length_fillL V m j hj
    by_cases hlt2 : j < m
    · go_wp2
      go_roundw
      case rel => exact ⟨j + 1, by omega, by go_num, by rw [← fill_set V m j hlt2]⟩
      case measure => simp [intOf]; omega
    · obtain rfl : j = m := by omega
      clear hsz
      have hsl := Sl.fresh w1 5 (fillL V j j) j (length_fillL _ _ _ (by omega)) (by omega) rfl _ rfl
      have HSL := Lib.hid hsl
      clear hsl
      generalize hW3 : w1.alloc (.cells (u8c (fillL V j j)) 5) = w3 at *
      have hb3 : Below w.heap.size w w3 := by rw [← hW3]; exact hb1.alloc (by omega) _
      have hz3 : w1.heap.size < w3.heap.size := by rw [← hW3]; simp
      have HD3 := Lib.hid (show DevAt w3 p gb cap _ from HD.out.below (B := w1.heap.size) (by rw [← hW3]; exact (Below.refl _ _).alloc (Nat.le_refl _) _) (by omega) (by omega))
      clear hW3 hb1
      go_wp2_with (first
        | (go_at_call 25; refine (plan_ok _ _ _ _ 0 K _ HD3.out (by omega) (by omega)).mono ?_; rintro e w4 ht; have hb4 := DevTurned.below (B := w.heap.size) ht hp; have hk4 := ht.2.2.1; have hz4 := ht.2.2.2.1; obtain rfl := ht.1; have HD4 := Lib.hid ht.2.1; (have HSL4 := Lib.hid (HSL.out.frame (w' := w4) (by omega) (fun b hb _ => hk4 b (by omega)))); clear ht hk4)
        | (go_at_call 28; (refine (write_torn _ _ _ _ A _ _ _ _ _ _ HD4.out rfl HSL4.out (by omega) (by rw [← HQ.out]; simp only [freshDv, List.length_replicate]; omega) rfl rfl).mono ?_); rintro e w5 ht; have hb5 := DevWrote.below (B := w.heap.size) ht hp hg (by omega); have hz5 := ht.2.2.2.1; obtain rfl := ht.1; (have HD5 : Hid (DevAt w5 p gb cap (tornDv V A j K)) := Lib.hid ht.2.1); clear ht HD4)
        | (go_at_call 30; refine (crashed_any p gb cap (tornDv V A j K) _ HD5.out).mono ?_; rintro e w' ⟨rfl, rfl⟩; simp only [tornDv])
        | (go_at_call 31; (refine (image_any p gb cap (tornDv V A j K) _ HD5.out).mono ?_); rintro e w6 ⟨v, rfl, ho, hb6⟩; (obtain ⟨gx, cx, rfl, hgx, hcx, hgx2, xc, xf⟩ := Own.get9 ho 512 (tornBs_len V A j K kA km2) (by omega)); have XC := Lib.hid xc; clear xc ho; have hz6 := hb6.size))
      go_loopw [15, 16, 17] (fun i _ _ wr => ∃ t : Nat, t ≤ 512 ∧ i = .int .i64 t ∧ wr = w6) (fun i _ _ _ => 512 - (intOf i).toNat)
      case atStart => exact ⟨0, by omega, rfl, rfl⟩
      case round =>
        obtain ⟨t, ht, rfl, rfl⟩ := hrel
        by_cases hlt3 : t < 512
        · have hc := XC.out t _ (tornBs_get V A j K t kA km2 hlt3)
          rw [← HQ.out] at hc
          by_cases c1 : A * 64 ≤ t
          · obtain ⟨r, hrr⟩ : ∃ r : Nat, t - A * 64 = r := ⟨_, rfl⟩
            have er : (t : Int) - (A : Int) * 64 = (r : Int) := by omega
            rw [hrr] at hc
            by_cases c2 : r < j
            · by_cases c4 : q < K
              · by_cases c3 : r / 64 < q
                · rw [if_pos ⟨c1, c2, by omega⟩] at hc
                  go_wp2
                  go_roundw
                  case rel => exact ⟨t + 1, by omega, by go_num, by first | rfl | trivial⟩
                  case measure => simp [intOf]; omega
                · exact absurd c3 (by have h9 := HQ.out; unfold secs at h9; omega)
              · by_cases c3 : r / 64 < K
                · rw [if_pos ⟨c1, c2, by omega⟩] at hc
                  go_wp2
                  go_roundw
                  case rel => exact ⟨t + 1, by omega, by go_num, by first | rfl | trivial⟩
                  case measure => simp [intOf]; omega
                · rw [if_neg (by omega)] at hc
                  have hc' : wr.cell? ⟨gx, t, none⟩ = some (.int .u8 0) := hc
                  go_wp2
                  go_roundw
                  case rel => exact ⟨t + 1, by omega, by go_num, by first | rfl | trivial⟩
                  case measure => simp [intOf]; omega
            · rw [if_neg (by omega)] at hc
              have hc' : wr.cell? ⟨gx, t, none⟩ = some (.int .u8 0) := hc
              go_wp2
              go_roundw
              case rel => exact ⟨t + 1, by omega, by go_num, by first | rfl | trivial⟩
              case measure => simp [intOf]; omega
          · rw [if_neg (by omega)] at hc
            have hc' : wr.cell? ⟨gx, t, none⟩ = some (.int .u8 0) := hc
            go_wp2
            go_roundw
            case rel => exact ⟨t + 1, by omega, by go_num, by first | rfl | trivial⟩
            case measure => simp [intOf]; omega
        · obtain rfl : t = 512 := by omega
          go_wp2_with (go_at_call 33; refine (awake31_any _).mono ?_; rintro e w8 ⟨rfl, hb8⟩)
          go_ret
          exact ⟨rfl, by (repeat (first | (with_reducible exact Below.refl _ _) | (with_reducible assumption) | (with_reducible refine Below.alloc ?_ ?_ _) | (with_reducible refine Below.drew ?_) | (with_reducible refine Below.setCell ?_ ?_ _) | (refine Below.step ?_ (by with_reducible assumption) ?_) | go_size))⟩

theorem walk_DeviceTorn (w : World) (k : Int) (hk : (Lit.int .i64 k).wf = true) (at_ : Int) (hat : (Lit.int .i64 at_).wf = true) (n : Int) (hn : (Lit.int .i64 n).wf = true) (a : Int) (ha : (Lit.int .u8 a).wf = true) :
    Calls Try.prog 7 #[.int .i64 k, .int .i64 at_, .int .i64 n, .int .u8 a] w fun e w' => e = .returned (.bool true) ∧ Below w.heap.size w w' := by
  have hr : 0 ≤ a ∧ a ≤ 255 := by
    simp [Lit.wf, IntKind.min, IntKind.max, IntKind.signed, IntKind.bits] at ha
    omega
  obtain ⟨V, hV⟩ := or1_u8 a hr.1 hr.2
  exact torn_at w k at_ n (k % 8).toNat (at_ % 4).toNat (1 + n % 256).toNat _ a V (by omega) (by omega) (by omega) hV (by omega) (by omega) (by omega) (by omega) rfl hr.1 hr.2
end Go.Proofs.Ytkcgbcjiogpliaa
