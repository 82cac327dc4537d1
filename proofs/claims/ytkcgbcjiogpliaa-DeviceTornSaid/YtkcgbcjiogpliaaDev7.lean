/-
  DeviceCopies: the walk.
-/
import Derived.Test.YtkcgbcjiogpliaaDev6
namespace Go.Proofs.Ytkcgbcjiogpliaa
open Go.RowKit Go.FH
set_option linter.unusedVariables false
set_option linter.unusedSimpArgs false

theorem Own.get9 {w : World} {B : Nat} {e : TypeId} {v : Value} {xs : List UInt8} (h : Own w B e v (u8l xs)) (n : Nat) (hn : xs.length = n) (h0 : 0 < n) :
    ∃ g cap, v = .slice (some ⟨g, 0, none⟩) n cap ∧ B ≤ g ∧ n ≤ cap ∧ g < w.heap.size ∧ (∀ i b, xs[i]? = some b → w.cell? ⟨g, i, none⟩ = some (.int .u8 b.toNat)) ∧ ∀ i, w.frozen? ⟨g, i, none⟩ = false := by
  have hne : xs ≠ [] := by rintro rfl; simp at hn; omega
  obtain ⟨g, cap, cur, rfl, hg, hrow, hle, hcs, htk⟩ := Own.parts h (by intro hh; exact hne (by simpa [u8l] using hh))
  rw [length_u8l, hn] at hle htk
  rw [length_u8l, hn]
  refine ⟨g, cap, rfl, hg, hle, rowOf?_lt hrow, fun i b hi => ?_, rowOf?_frozen hrow⟩
  have hlt : i < xs.length := (List.getElem?_eq_some_iff.1 hi).1
  have hb : xs[i] = b := (List.getElem?_eq_some_iff.1 hi).2
  rw [rowOf?_cell hrow, ← hb, ← u8l_get xs i hlt, ← htk, List.getElem?_take, if_pos (by omega)]
  simp

def copyBs : List UInt8 := putAt (List.replicate 128 0) (1 * 64) (fullOf [5, 6])
theorem copyBs_len : copyBs.length = 128 := by decide +kernel
theorem copyBs_part : ((copyBs.drop (1 * 64)).take (1 * 64)).length = 64 := by decide +kernel
theorem copyBs_part0 : ((copyBs.drop (1 * 64)).take (1 * 64))[0]? = some 5 := by decide +kernel
theorem copyBs_at : copyBs[0]? = some 0 ∧ copyBs[64]? = some 5 ∧ copyBs[65]? = some 6 ∧ copyBs[66]? = some 0 := by decide +kernel
def copyDv : Dv := { bs := copyBs, crashed := false, planned := false, wait := 0, keep := 0 }

set_option maxHeartbeats 4000000 in
set_option maxRecDepth 20000 in
theorem walk_DeviceCopies (w : World) (a : Int) (ha : (Lit.int .u8 a).wf = true) :
    Calls Try.prog 8 #[.int .u8 a] w fun e w' => e = .returned (.bool true) ∧ Below w.heap.size w w' := by
  have hr : 0 ≤ a ∧ a ≤ 255 := by
    simp [Lit.wf, IntKind.min, IntKind.max, IntKind.signed, IntKind.bits] at ha
    omega
  obtain ⟨hr1, hr2⟩ := hr
  clear ha
  have HI := Lib.hid (Sl.fresh w 5 (List.replicate 128 0) 128 (by simp) (by omega) rfl _ rfl)
  have hrow := rowOf?_alloc_at w (Array.replicate 128 (Value.int .u8 0)) 5 _ rfl
  obtain ⟨rc, rf, _, _⟩ := rfacts hrow
  have rc0 := rc 0
  have rf0 := rf 0
  have e0 : (Array.replicate 128 (Value.int .u8 0))[0]? = some (.int .u8 0) := by simp
  rw [e0] at rc0
  clear rc rf hrow
  go_enter Try.func8, Try.ntmps8
  go_wp2_with (first
    | (go_at_call 34; refine (devOpen_ok _ _ _ _ (List.replicate 128 0) _ (by simpa only [zeros_u8] using HI.out) (by omega) (by omega) (by omega)).mono ?_; rintro e w1 ⟨p, gb, cap, rfl, hd, hp, hg, hb1⟩; have hz1 := hb1.size; simp only [World.size_alloc] at hp hg hz1; have hb0 : Below w.heap.size w w1 := ((Below.refl _ _).alloc (Nat.le_refl _) _).trans (hb1.mono (by simp)); have i0 := (hb1.cell (p := ⟨w.heap.size, 0, none⟩) (by simp)).trans rc0; have i1 := (hb1.frozen (p := ⟨w.heap.size, 0, none⟩) (by simp)).trans rf0; have HD := Lib.hid hd; have hlt := hd.lt.1; have hltg := hd.lt.2; clear hd hb1)
    | (go_at_call 28; (refine (write_ok p gb cap _ 1 _ 2 2 _ [5, 6] _ (HD.out.frame (by rw [Below.heap_alloc _ _ _ (by simpa using hlt), heap_setCell_other _ ⟨_, _, none⟩ _ _ (by show p ≠ w.heap.size; omega)]) (by rw [Below.heap_alloc _ _ _ (by simpa using hltg), heap_setCell_other _ ⟨_, _, none⟩ _ _ (by show gb ≠ w.heap.size; omega)])) rfl (Sl.fresh (w1.setCell ⟨w.heap.size, 0, none⟩ _) 5 [5, 6] 2 rfl (by omega) rfl _ (by simp)) (by omega) (by decide +kernel) rfl).mono ?_); rintro e w3 ht; (have hb3 : Below w.heap.size w w3 := Below.trans (by (repeat (first | (with_reducible exact Below.refl _ _) | (with_reducible assumption) | (with_reducible refine Below.alloc ?_ ?_ _) | (with_reducible refine Below.drew ?_) | (with_reducible refine Below.setCell ?_ ?_ _) | (refine Below.step ?_ (by with_reducible assumption) ?_) | go_size))) (DevWrote.below (B := w.heap.size) ht (by omega) (by omega) (by simp <;> omega))); have hz3 := ht.2.2.2.1; (simp only [World.size_alloc, World.size_setCell] at hz3); (have hk3 := ht.2.2.1 w1.heap.size (by omega) (by omega) (by simp)); (have j0 : w3.cell? ⟨w1.heap.size, 0, none⟩ = some (.int .u8 5) := (World.cell?_of_block (a := ⟨w1.heap.size, 0, none⟩) hk3).trans (by rw [World.cell?_alloc_at _ _ _ _ (World.size_setCell _ _ _).symm]; rfl)); (have j1 : w3.frozen? ⟨w1.heap.size, 0, none⟩ = false := (World.frozen?_of_block (a := ⟨w1.heap.size, 0, none⟩) hk3).trans (World.frozen?_alloc_at _ _ _ _ (World.size_setCell _ _ _).symm));  obtain rfl := ht.1; (have HD3 : Hid (DevAt w3 p gb cap copyDv) := Lib.hid ht.2.1); clear ht hk3 i0 i1 HD)
    | (go_at_call 27; (refine (read_ok p gb cap copyDv 1 1 _ (HD3.out.frame (by rw [heap_setCell_other _ ⟨_, _, none⟩ _ _ (by show p ≠ w1.heap.size; omega)]) (by rw [heap_setCell_other _ ⟨_, _, none⟩ _ _ (by show gb ≠ w1.heap.size; omega)])) rfl (by decide +kernel)).mono ?_); rintro e w5 ⟨v, rfl, ho, hb5⟩; (obtain ⟨gx, cx, rfl, hgx, hcx, hgx2, xc, xf⟩ := Own.get9 ho 64 copyBs_part (by omega)); have xc0 := xc 0 _ copyBs_part0; have xf0 := xf 0; clear xc xf ho; have hz5 := hb5.size; simp only [World.size_setCell] at hgx hz5; (have HD5 := Lib.hid (HD3.out.frame (w' := w5) ((hb5.block p (by simp <;> omega)).trans (heap_setCell_other _ ⟨_, _, none⟩ _ _ (by show p ≠ w1.heap.size; omega))) ((hb5.block gb (by simp <;> omega)).trans (heap_setCell_other _ ⟨_, _, none⟩ _ _ (by show gb ≠ w1.heap.size; omega))))); clear HD3 j0 j1; (have hc5 : Below w.heap.size w w5 := Below.trans (by (repeat (first | (with_reducible exact Below.refl _ _) | (with_reducible assumption) | (with_reducible refine Below.alloc ?_ ?_ _) | (with_reducible refine Below.drew ?_) | (with_reducible refine Below.setCell ?_ ?_ _) | (refine Below.step ?_ (by with_reducible assumption) ?_) | go_size))) (hb5.mono (by simp <;> omega))); clear hb5)
    | (go_at_call 31; (refine (image_any p gb cap copyDv _ HD5.out).mono ?_); rintro e w6 ⟨v, rfl, ho, hb6⟩; (obtain ⟨gy, cy, rfl, hgy, hcy, hgy2, yc, yf⟩ := Own.get9 ho 128 copyBs_len (by omega)); have yc0 := yc 65 _ copyBs_at.2.2.1; have yf0 := yf 65; clear yc yf ho; have hz6 := hb6.size; have xc1 := (hb6.cell (p := ⟨gx, 0, none⟩) hgx2).trans xc0; have xf1 := (hb6.frozen (p := ⟨gx, 0, none⟩) hgx2).trans xf0; (have HD6 := Lib.hid (HD5.out.below hb6 (by omega) (by omega))); clear HD5 xc0 xf0; (have hc6 : Below w.heap.size w w6 := hc5.trans (hb6.mono (by omega))); clear hb6)
    | (go_at_call 31; (refine (image_any p gb cap copyDv _ (HD6.out.frame (by rw [heap_setCell_other _ ⟨_, _, none⟩ _ _ (by show p ≠ gy; omega), heap_setCell_other _ ⟨_, _, none⟩ _ _ (by show p ≠ gx; omega)]) (by rw [heap_setCell_other _ ⟨_, _, none⟩ _ _ (by show gb ≠ gy; omega), heap_setCell_other _ ⟨_, _, none⟩ _ _ (by show gb ≠ gx; omega)]))).mono ?_); rintro e w7 ⟨v, rfl, ho, hb7⟩; (obtain ⟨gz, cz, rfl, hgz, hcz, hgz2, zc, zf⟩ := Own.get9 ho 128 copyBs_len (by omega)); have zc0 := zc 0 _ copyBs_at.1; have zc1 := zc 64 _ copyBs_at.2.1; have zc2 := zc 65 _ copyBs_at.2.2.1; have zc3 := zc 66 _ copyBs_at.2.2.2; clear zc zf ho; have hz7 := hb7.size; simp only [World.size_setCell] at hz7; (have hc7 : Below w.heap.size w w7 := Below.trans (by (repeat (first | (with_reducible exact Below.refl _ _) | (with_reducible assumption) | (with_reducible refine Below.alloc ?_ ?_ _) | (with_reducible refine Below.drew ?_) | (with_reducible refine Below.setCell ?_ ?_ _) | (refine Below.step ?_ (by with_reducible assumption) ?_) | go_size))) (hb7.mono (by simp <;> omega))); clear hb7)
    | (go_at_call 33; refine (awake31_any _).mono ?_; rintro e w8 ⟨rfl, hb8⟩))
  go_ret
  exact ⟨rfl, by (repeat (first | (with_reducible exact Below.refl _ _) | (with_reducible assumption) | (with_reducible refine Below.alloc ?_ ?_ _) | (with_reducible refine Below.drew ?_) | (with_reducible refine Below.setCell ?_ ?_ _) | (refine Below.step ?_ (by with_reducible assumption) ?_) | go_size))⟩
end Go.Proofs.Ytkcgbcjiogpliaa
