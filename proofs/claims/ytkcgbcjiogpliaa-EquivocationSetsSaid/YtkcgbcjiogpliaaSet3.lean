/-
  The laws EquivocationRange and EquivocationSets: contracts of ValidateList (reference), Some, Punish (reference), and the walks of the two laws.
-/
import Derived.Test.YtkcgbcjiogpliaaSet2
namespace Go.Proofs.Ytkcgbcjiogpliaa
open Go.RowKit Go.FH
set_option linter.unusedVariables false
set_option linter.unusedSimpArgs false

set_option maxHeartbeats 1000000 in
set_option maxRecDepth 20000 in
theorem walk_EquivocationRange (n : Int) (hw : (Lit.int .i64 n).wf = true) (w : World) :
    Calls Try.prog 5 #[.int .i64 n] w fun e w' => e = .returned (.bool true) ∧ Below w.heap.size w w' := by
  by_cases hbad : n < 0 ∨ 1024 < n
  · have hN := Lib.hid (newSet_bad n w hbad)
    by_cases h0 : n < 0
    · clear hbad
      go_enter Try.func5, Try.ntmps5
      go_wp2_with (first | (go_at_call 15; refine hN.out.mono ?_; rintro e w' ⟨rfl, rfl⟩) | (go_at_call 14; refine (awake9_any _).mono ?_; rintro e w' ⟨rfl, hb⟩))
      go_ret
      exact ⟨rfl, by (repeat (first | (with_reducible exact Below.refl _ _) | (with_reducible assumption) | (with_reducible refine Below.alloc ?_ ?_ _) | (with_reducible refine Below.drew ?_) | (with_reducible refine Below.setCell ?_ ?_ _) | (refine Below.step ?_ (by with_reducible assumption) ?_) | go_size))⟩
    · have h1 : 1024 < n := by omega
      clear hbad
      go_enter Try.func5, Try.ntmps5
      go_wp2_with (first | (go_at_call 15; refine hN.out.mono ?_; rintro e w' ⟨rfl, rfl⟩) | (go_at_call 14; refine (awake9_any _).mono ?_; rintro e w' ⟨rfl, hb⟩))
      go_ret
      exact ⟨rfl, by (repeat (first | (with_reducible exact Below.refl _ _) | (with_reducible assumption) | (with_reducible refine Below.alloc ?_ ?_ _) | (with_reducible refine Below.drew ?_) | (with_reducible refine Below.setCell ?_ ?_ _) | (refine Below.step ?_ (by with_reducible assumption) ?_) | go_size))⟩
  · obtain ⟨m, rfl⟩ := Int.eq_ofNat_of_zero_le (show 0 ≤ n by omega)
    have hm : m ≤ 1024 := by omega
    have hN := Lib.hid (newSet_ok m w hm)
    clear hbad
    by_cases h0 : m = 0
    · subst h0
      have hN' := hN.out
      simp only [Int.natCast_zero] at hN'
      have HN := Lib.hid hN'
      clear hN hN'
      go_enter Try.func5, Try.ntmps5
      go_wp2_with fail
      refine HN.out.mono ?_
      rintro e w1 ⟨ps, gb, rfl, hset, hps, hgb, hb1⟩
      have l1 := rowOf?_lt hset.box
      have l2 := rowOf?_lt hset.row
      go_wp2_with fail
      refine (members_any ps gb _ w1 hset l1 l2).mono ?_
      rintro e w2 ⟨v, rfl, hown, hb2⟩
      rw [mem_replicate] at hown
      obtain ⟨a, cap, rfl⟩ := hown.none
      go_wp2_with fail
      refine (awake9_any _).mono ?_
      rintro e w3 ⟨rfl, hb3⟩
      have z1 := hb1.size
      have z2 := hb2.size
      go_wp2
      go_ret
      exact ⟨rfl, by (repeat (first | (with_reducible exact Below.refl _ _) | (with_reducible assumption) | (with_reducible refine Below.alloc ?_ ?_ _) | (with_reducible refine Below.drew ?_) | (with_reducible refine Below.setCell ?_ ?_ _) | (refine Below.step ?_ (by with_reducible assumption) ?_) | go_size))⟩
    · have hm0 : 0 < m := by omega
      have hm0' : ((m : Int) == 0) = false := by simp; omega
      go_enter Try.func5, Try.ntmps5
      go_wp2_with fail
      refine hN.out.mono ?_
      rintro e w1 ⟨ps, gb, rfl, hset, hps, hgb, hb1⟩
      have l1 := rowOf?_lt hset.box
      have l2 := rowOf?_lt hset.row
      go_wp2_with fail
      refine (members_any ps gb _ w1 hset l1 l2).mono ?_
      rintro e w2 ⟨v, rfl, hown, hb2⟩
      rw [mem_replicate] at hown
      obtain ⟨a, cap, rfl⟩ := hown.none
      have hset2 := hset.below hb2 l1 l2
      have z1 := hb1.size
      have z2 := hb2.size
      go_wp2_with fail
      have hv0 : vl ((List.replicate m false).length : Int) [0] = 0 := by
        have h1 : ¬ ((0 : Int) < 0 ∨ (m : Int) ≤ 0) := by omega
        simp only [List.length_replicate, vl, vlFrom_cons, if_neg h1]
        simp [vlFrom]
      refine (punish_ok ps gb (List.replicate m false) _ 1 1 (fun b => b = w2.heap.size) [0] _ (hset2.frame (Below.heap_alloc _ _ _ (by omega)) (Below.heap_alloc _ _ _ (by omega))) (Sl.one w2 _ _) (by intro x hx; simp at hx; omega) (by intro b hb; omega) (by omega) hv0).mono ?_
      rintro e w3 ⟨rfl, hset3, hg3⟩
      have hf : fresh (List.replicate m false) [0] = 1 := by
        simp [fresh, List.getD_eq_getElem?_getD, List.getElem?_replicate, hm0]
      rw [hf]
      have hmk : markAll (List.replicate m false) [0] = (List.replicate m false).set 0 true := rfl
      rw [hmk] at hset3
      have hmem : mem ((List.replicate m false).set 0 true) = [0] := by
        rw [mem_set _ 0 (by simpa using hm0), mem_replicate]; rfl
      have z3 := hg3.size
      simp only [World.size_alloc] at z3
      go_wp2_with fail
      refine (members_any ps gb _ w3 hset3 (by omega) (by omega)).mono ?_
      rintro e w4 ⟨v, rfl, hown4, hb4⟩
      rw [hmem] at hown4
      obtain ⟨g, cap4, cur, rfl, hg, hrow, hc4, hcs, htk⟩ := Go.FH.Own.parts hown4 (by simp [ints])
      have hset4 := hset3.below hb4 (by omega) (by omega)
      obtain ⟨rc, rf, _, rl⟩ := rfacts hrow
      have r0 := rc 0
      have hcur0 : cur[0]? = some (.int .i64 0) := by
        have : (cur.toList.take 1)[0]? = some (.int .i64 0) := by
          have h2 : (ints [0]).length = 1 := rfl
          rw [h2] at htk
          rw [htk]; rfl
        rw [List.getElem?_take] at this
        simpa using this
      rw [hcur0] at r0
      have rf0 := rf 0
      clear rc rf
      have z4 := hb4.size
      simp only [length_ints, List.length_cons, List.length_nil] at *
      go_wp2_with fail
      have hset5 : SetAt (w4.setCell ⟨g, 0, none⟩ (.int .i64 5)) ps gb ((List.replicate m false).set 0 true) :=
        hset4.frame (heap_setCell_other _ _ _ _ (by simp; omega)) (heap_setCell_other _ _ _ _ (by simp; omega))
      have z5 : (w4.setCell ⟨g, 0, none⟩ (.int .i64 5)).heap.size = w4.heap.size := by simp [World.setCell]
      have hb5 : Below w3.heap.size w3 (w4.setCell ⟨g, 0, none⟩ (.int .i64 5)) := hb4.setCell (by simpa using hg) _
      have z5a := Nat.le_of_eq z5
      have z5b := Nat.le_of_eq z5.symm
      clear z5
      generalize w4.setCell ⟨g, 0, none⟩ (.int .i64 5) = w5 at *
      have hgl : guiltyB ((List.replicate m false).set 0 true) 0 = true := by
        simp [guiltyB, List.getD_eq_getElem?_getD, hm0]
      have hG := guilty_any ps gb _ 0 w5 hset5
      rw [hgl] at hG
      refine hG.mono ?_
      rintro e w' ⟨rfl, rfl⟩
      go_wp2_with fail
      refine (members_any ps gb _ w5 hset5 (by omega) (by omega)).mono ?_
      rintro e w6 ⟨v, rfl, hown6, hb6⟩
      rw [hmem] at hown6
      obtain ⟨a6, n6, cap6, rfl, hn6, hs6⟩ := hown6.sl
      have z6 := hb6.size
      have hn6' : n6 = 1 := by simpa using hn6
      subst hn6'
      clear hn6 hgl hmem hmk hf hv0 hG
      go_wp2_with fail
      refine (sameInts_any _ _ _ _ [0] _ _ _ _ [0] _ (hs6.below (B := w6.heap.size) (by (repeat (first | (with_reducible exact Below.refl _ _) | (with_reducible assumption) | (with_reducible refine Below.alloc ?_ ?_ _) | (with_reducible refine Below.drew ?_) | (with_reducible refine Below.setCell ?_ ?_ _) | (refine Below.step ?_ (by with_reducible assumption) ?_) | go_size))) (Nat.le_refl _)) (Sl.one w6 _ _)).mono ?_
      rintro e w' ⟨rfl, q, rfl⟩
      go_wp2_with fail
      refine (awake9_any _).mono ?_
      rintro e w7 ⟨rfl, hb7⟩
      have z7 := hb7.size
      simp only [World.heap_drewN, World.size_alloc] at z7
      go_wp2
      go_ret
      refine ⟨rfl, ?_⟩
      have c1 : Below w.heap.size w w2 := hb1.trans (hb2.mono (by omega))
      have c3 : Below w.heap.size w w3 := (c1.alloc (by omega) _).trans ((Below.refl _ _).grown hg3 (by simp; omega) (fun k hk => by simp at hk; omega))
      have c6 : Below w.heap.size w w6 := (c3.trans (hb5.mono (by omega))).trans (hb6.mono (by omega))
      exact (below_drewN (c6.alloc (by omega) _) q).trans (hb7.mono (by simp; omega))

set_option maxHeartbeats 1000000 in
theorem refValidate_any (a : Option Addr) (n cap : Nat) (S : Nat → Prop) (xs : List Int) (k : Int) (w : World) (h : Sl w S a n cap (ints xs)) (h64 : I64 xs) :
    Calls Try.prog 18 #[.slice a n cap, .int .i64 k] w fun e w' => e = .returned (.int .i64 (vl k xs)) ∧ ∃ q, w' = w.drewN q := by
  have hmax := h.max
  have HL := Lib.hid h.len
  have H := Lib.hid h
  clear h
  by_cases hn : n = 0
  · subst hn
    go_enter Try.func18, Try.ntmps18
    go_wp2
    go_ret
    refine ⟨?_, 0, rfl⟩
    have hl := HL.out
    rw [length_ints] at hl
    have : xs = [] := List.eq_nil_of_length_eq_zero hl
    simp [vl, this]
  · have hn' : ((n : Int) == 0) = false := by simp; omega
    have hne : xs ≠ [] := by
      intro e; have := HL.out; rw [e] at this; simp [ints] at this; omega
    have hv : vl k xs = vlFrom k (lastOf xs 0) (xs.drop 0) := by simp [vl, hne, lastOf]
    rw [hv]
    generalize hres : vlFrom k (lastOf xs 0) (xs.drop 0) = res
    have HR := Lib.hid hres
    clear hres hv
    go_enter Try.func18, Try.ntmps18
    go_wp2
    go_loopw [5] (fun i wr => ∃ j q : Nat, j ≤ n ∧ i = .int .i64 j ∧ Hid (vlFrom k (lastOf xs j) (xs.drop j) = res) ∧ wr = w.drewN q) (fun i _ => n - (intOf i).toNat)
    case atStart => exact ⟨0, 0, by omega, rfl, HR, rfl⟩
    case round =>
      obtain ⟨j, q, hj, rfl, hx, rfl⟩ := hrel
      by_cases hlt : j < n
      · obtain ⟨b, off, rfl, hb, hc⟩ := H.out.get (by omega)
        have hj' : j < xs.length := by have := HL.out; rw [length_ints] at this; omega
        have hcell := hc j _ (ints_get xs j hj')
        have hstep := vlFrom_step k xs j hj'
        rw [hx.out] at hstep
        obtain ⟨hr1, hr2⟩ := h64.get j hj'
        by_cases hj0 : j = 0
        · subst hj0
          rw [Nat.add_zero] at hcell
          have HS := Lib.hid hstep
          clear hstep hc
          by_cases hlo : xs[0] < 0
          · go_wp2
            go_ret
            refine ⟨?_, _, rfl⟩
            rw [HS.out, if_pos (Or.inl hlo)]
            rfl
          · by_cases hhi : xs[0] < k
            · have hd : decide ((0 : Int) < 0) = false := rfl
              go_wp2
              go_quiet (fail)
              go_wp2
              go_roundw
              case rel =>
                refine ⟨1, q + nq, by omega, rfl, ?_, by simp⟩
                show vlFrom k (lastOf xs 1) (xs.drop 1) = res
                rw [HS.out, if_neg (by omega)]
                simp [lastOf]
              case measure => simp [intOf]; omega
            · go_wp2
              go_ret
              refine ⟨?_, _, rfl⟩
              rw [HS.out, if_pos (by omega)]
              rfl
        · have hcell' := hc (j - 1) _ (ints_get xs (j - 1) (by omega))
          have hjj : (((j : Int) - 1).toNat) = j - 1 := by omega
          have hlast : lastOf xs j = some xs[j - 1] := by
            have hjl : j - 1 < xs.length := by omega
            simp [lastOf, hj0, hjl]
          rw [hlast] at hstep
          have HS := Lib.hid hstep
          clear hstep hc hlast
          have hj1 : (0 : Int) < (j : Int) := by omega
          by_cases hlo : xs[j] < 0
          · go_wp2
            go_ret
            refine ⟨?_, _, rfl⟩
            rw [HS.out, if_pos (Or.inl hlo)]
            rfl
          · by_cases hhi : xs[j] < k
            · have hd : decide ((0 : Int) < (j : Int)) = true := by simp; omega
              have hd2 : decide (0 < j) = true := by simp; omega
              have hj2 : 0 < j := by omega
              by_cases hle : xs[j] ≤ xs[j - 1]
              · have hle2 : decide (xs[j] ≤ xs[j - 1]) = true := by simpa using hle
                go_wp2
                go_quiet (fail)
                go_wp2
                go_ret
                refine ⟨?_, q + nq, by simp⟩
                rw [HS.out, if_neg (by omega)]
                simp [hle]
              · have hle2 : decide (xs[j] ≤ xs[j - 1]) = false := by simpa using hle
                go_wp2
                go_quiet (fail)
                go_wp2
                go_roundw
                case rel =>
                  refine ⟨j + 1, q + nq, by omega, by go_num, ?_, by simp⟩
                  show vlFrom k (lastOf xs (j + 1)) (xs.drop (j + 1)) = res
                  rw [HS.out, if_neg (by omega)]
                  exact (if_neg (by simp only [hle2]; simp)).symm
                case measure => simp [intOf]; omega
            · go_wp2
              go_ret
              refine ⟨?_, _, rfl⟩
              rw [HS.out, if_pos (by omega)]
              rfl
      · go_wp2
        go_ret
        refine ⟨?_, _, rfl⟩
        have hl := HL.out
        rw [length_ints] at hl
        have hxx := hx.out
        rw [List.drop_eq_nil_of_le (by omega)] at hxx
        rw [← hxx]
        simp [vlFrom]

def SomePost (W : World) (n : Int) (e : Ending) (w' : World) : Prop :=
  ∃ xs : List Int, (∀ x ∈ xs, 0 ≤ x ∧ x ≤ 8) ∧ xs.length ≤ 8 ∧ RetOwn W 3 (ints xs) e w'

set_option maxHeartbeats 1000000 in
theorem some_any (n k : Int) (w : World) (h0 : 0 ≤ n) (h1 : n ≤ 8) (hk0 : 0 ≤ k) (hk1 : k ≤ 16777215) :
    Calls Try.prog 16 #[.int .i64 n, .int .i64 k] w (SomePost w n) := by
  obtain ⟨m, rfl⟩ := Int.eq_ofNat_of_zero_le h0
  generalize hB : w.heap.size = B
  have HB := Lib.hid hB
  clear hB
  go_enter Try.func16, Try.ntmps16
  go_wp2
  go_loopw [5, 6] (fun o i wr => ∃ (j : Nat) (xs : List Int), j ≤ m ∧ i = .int .i64 j ∧ xs.length ≤ j ∧ Hid (∀ x ∈ xs, 0 ≤ x ∧ x ≤ 8) ∧ Own wr B 3 o (ints xs) ∧ Below B w wr) (fun _ i _ => m - (intOf i).toNat)
  case atStart => exact ⟨0, [], by omega, rfl, by simp, by unfold Hid; simp, Own.nil _ _ _, Below.refl _ _⟩
  case round =>
    obtain ⟨j, xs, hj, rfl, hxl, hxs, hown, hbel⟩ := hrel
    by_cases hlt : j < m
    · have hBs := hbel.size
      rw [HB.out] at hBs
      have hjk : (j : Int) < 64 := by omega
      go_wp2_with (at_builtin; refine wl_append rfl _ _ 25 rfl elemInt rfl (hown.alloc _) rfl (Sl.one _ _ _) (ints_one [(j : Int)]) ?_ ?_ ?_ ?_; (simp <;> omega); (simp <;> omega); (simp <;> omega); intro v1 w1 hown1 hb1 hg1)
      · go_roundw
        case rel =>
          refine ⟨j + 1, xs ++ [(j : Int)], by omega, by go_num, by simp; omega, ?_, ?_, ?_⟩
          · intro x hx
            rcases List.mem_append.1 hx with hx | hx
            · exact hxs.out x hx
            · simp at hx; omega
          · rw [ints_app]; exact hown1
          · exact (hbel.alloc hBs _).trans hb1
        case measure => simp [intOf]; omega
      · go_roundw
        case rel => exact ⟨j + 1, xs, by omega, by go_num, by omega, hxs, hown, hbel⟩
        case measure => simp [intOf]; omega
    · obtain rfl : j = m := by omega
      by_cases hx0 : xs = []
      · subst hx0
        obtain ⟨a, cap, rfl⟩ := hown.none
        by_cases hm : 0 < j
        · have hBs := hbel.size
          rw [HB.out] at hBs
          go_wp2
          go_ret
          refine ⟨[0], by simp, by simp, _, rfl, ?_, ?_⟩
          · rw [HB.out]
            refine ⟨rfl, .inr ⟨wr.heap.size, 1, #[.int .i64 0], rfl, hBs, _root_.Go.heap_alloc_new _ _, Nat.le_refl _, by simp [maxLen], rfl, rfl⟩⟩
          · rw [HB.out]; exact hbel.alloc hBs _
        · go_wp2
          go_ret
          refine ⟨[], by simp, by simp, _, rfl, ?_, ?_⟩
          · rw [HB.out]; exact hown
          · rw [HB.out]; exact hbel
      · obtain ⟨a, n', cap', rfl, hn', hs'⟩ := hown.sl
        have hne : ((n' : Int) == 0) = false := by
          rw [length_ints] at hn'
          have : 0 < xs.length := List.length_pos_iff.2 hx0
          simp; omega
        have HN' := Lib.hid hn'
        clear hn'
        go_wp2
        go_ret
        refine ⟨xs, hxs.out, by omega, _, rfl, ?_, ?_⟩
        · rw [HB.out]; exact hown
        · rw [HB.out]; exact hbel

def RefPunishPost (W : World) (zs : List Int) (m : Nat) (e : Ending) (w' : World) : Prop :=
  ∃ a n cap, e = .returned (.tuple #[.slice a n cap, .int .i64 ((zs.length : Int) - m)]) ∧ n = zs.length ∧ Sl w' (fun b => W.heap.size ≤ b) a n cap (ints zs) ∧ Below W.heap.size W w'

set_option maxHeartbeats 1000000 in
theorem refPunish_any (a : Option Addr) (n cap : Nat) (S : Nat → Prop) (xs : List Int) (a' : Option Addr) (n' cap' : Nat) (S' : Nat → Prop) (ys : List Int) (w : World) (h : Sl w S a n cap (ints xs)) (h' : Sl w S' a' n' cap' (ints ys)) (hl : n ≤ 10000) (hl' : n' ≤ 10000) :
    Calls Try.prog 19 #[.slice a n cap, .slice a' n' cap'] w (RefPunishPost w (ys.foldl (fun acc u => ins u acc) xs) n) := by
  have hmax := h.max
  have hmax' := h'.max
  have hxl : xs.length = n := by have := h.len; rwa [length_ints] at this
  have hyl : ys.length = n' := by have := h'.len; rwa [length_ints] at this
  have HX := Lib.hid hxl
  have HY := Lib.hid hyl
  have H := Lib.hid h
  have H' := Lib.hid h'
  clear h h' hxl hyl
  go_enter Try.func19, Try.ntmps19
  go_wp2_with (at_builtin; refine wl_append rfl _ _ 25 rfl elemInt rfl (Own.nil _ w.heap.size _) rfl H.out (ints_one _) ?_ ?_ ?_ ?_; (simp <;> omega); (simp <;> omega); (simp <;> omega); intro v1 w1 hown1 hb1 hg1)
  go_loopw [6, 7] (fun o i wr => ∃ (j : Nat) (b : Option Addr) (m c : Nat), j ≤ n' ∧ i = .int .i64 j ∧ o = .slice b m c ∧ m ≤ n + j ∧ Sl wr (fun b => w.heap.size ≤ b) b m c (ints ((ys.take j).foldl (fun acc u => ins u acc) xs)) ∧ Below w.heap.size w wr) (fun _ i _ => n' - (intOf i).toNat)
  case atStart =>
    obtain ⟨b, m, c, rfl, hm, hs⟩ := hown1.sl
    refine ⟨0, b, m, c, by omega, rfl, rfl, ?_, ?_, hb1⟩
    · simp at hm; have := HX.out; omega
    · simpa [ints] using hs
  case round =>
    obtain ⟨j, b, m, c, hj, rfl, rfl, hm, hs, hbel⟩ := hrel
    by_cases hlt : j < n'
    · obtain ⟨b', off, rfl, hb, hc⟩ := (H'.out.below hbel (Nat.le_refl _)).get (by omega)
      have hj' : j < ys.length := by have := HY.out; omega
      have hcell := hc j _ (ints_get ys j hj')
      clear hc
      have htake := Lib.hid (List.take_succ_eq_append_getElem hj')
      have HS := Lib.hid hs
      clear hs
      go_wp2_with (go_at_call 42; refine (insert_any b m c _ _ ys[j] wr HS.out (by omega)).mono ?_; rintro e w' ⟨b2, m2, c2, rfl, hm2, hs2, hb2⟩; have HM2 := Lib.hid hm2; clear hm2)
      go_roundw
      case rel =>
        have hz := hbel.size
        refine ⟨j + 1, b2, m2, c2, by omega, by go_num, rfl, ?_, ?_, hbel.trans (hb2.mono hz)⟩
        · have := ins_length ys[j] ((ys.take j).foldl (fun acc u => ins u acc) xs)
          have hl0 := HS.out.len
          have hm2 := HM2.out
          rw [length_ints] at hm2 hl0
          omega
        · rw [htake.out, foldl_ins_snoc]
          exact hs2.mono fun b hb _ => by rcases hb with hb | hb <;> omega
      case measure => simp [intOf]; omega
    · obtain rfl : j = n' := by omega
      have hty : ys.take j = ys := List.take_of_length_le (by have := HY.out; omega)
      rw [hty] at hs
      have hml := hs.len
      rw [length_ints] at hml
      have HML := Lib.hid hml
      clear hml hty
      go_wp2
      go_ret2
      refine ⟨b, m, c, ?_, HML.out.symm, hs, hbel⟩
      rw [HML.out]; rfl
end Go.Proofs.Ytkcgbcjiogpliaa
