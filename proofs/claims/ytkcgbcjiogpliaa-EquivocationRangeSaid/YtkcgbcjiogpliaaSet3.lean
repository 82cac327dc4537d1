/-
  The laws EquivocationRange and EquivocationSets: contracts of ValidateList (reference), Some, Punish (reference), and the walks of the two laws.
-/
import Derived.Test.YtkcgbcjiogpliaaSet2
namespace Go.Proofs.Ytkcgbcjiogpliaa
open Go.RowKit Go.FH
set_option linter.unusedVariables false
set_option linter.unusedSimpArgs false

set_option maxHeartbeats 1000000 in
set_option maxRecDepth 20000 in
theorem walk_EquivocationRange (n : Int) (hw : (Lit.int .i64 n).wf = true) (w : World) :
    Calls Try.prog 5 #[.int .i64 n] w fun e w' => e = .returned (.bool true) ∧ Below w.heap.size w w' := by
  by_cases hbad : n < 0 ∨ 1024 < n
  · have hN := Lib.hid (newSet_bad n w hbad)
    by_cases h0 : n < 0
    · clear hbad
      go_enter Try.func5, Try.ntmps5
      go_wp2_with (first | (go_at_call 15; refine hN.out.mono ?_; rintro e w' ⟨rfl, rfl⟩) | (go_at_call 14; refine (awake9_any _).mono ?_; rintro e w' ⟨rfl, hb⟩))
      go_ret
      exact ⟨rfl, by (repeat (first | (with_reducible exact Below.refl _ _) | (with_reducible assumption) | (with_reducible refine Below.alloc ?_ ?_ _) | (with_reducible refine Below.drew ?_) | (with_reducible refine Below.setCell ?_ ?_ _) | (refine Below.step ?_ (by with_reducible assumption) ?_) | go_size))⟩
    · have h1 : 1024 < n := by omega
      clear hbad
      go_enter Try.func5, Try.ntmps5
      go_wp2_with (first | (go_at_call 15; refine hN.out.mono ?_; rintro e w' ⟨rfl, rfl⟩) | (go_at_call 14; refine (awake9_any _).mono ?_; rintro e w' ⟨rfl, hb⟩))
      go_ret
      exact ⟨rfl, by (repeat (first | (with_reducible exact Below.refl _ _) | (with_reducible assumption) | (with_reducible refine Below.alloc ?_ ?_ _) | (with_reducible refine Below.drew ?_) | (with_reducible refine Below.setCell ?_ ?_ _) | (refine Below.step ?_ (by with_reducible assumption) ?_) | go_size))⟩
  · obtain ⟨m, rfl⟩ := Int.eq_ofNat_of_zero_le (show 0 ≤ n by omega)
    have hm : m ≤ 1024 := by omega
    have hN := Lib.hid (newSet_ok m w hm)
    clear hbad
    by_cases h0 : m = 0
    · subst h0
      have hN' := hN.out
      simp only [Int.natCast_zero] at hN'
      have HN := Lib.hid hN'
      clear hN hN'
      go_enter Try.func5, Try.ntmps5
      go_wp2_with fail
      refine HN.out.mono ?_
      rintro e w1 ⟨ps, gb, rfl, hset, hps, hgb, hb1⟩
      have l1 := rowOf?_lt hset.box
      have l2 := rowOf?_lt hset.row
      go_wp2_with fail
      refine (members_any ps gb _ w1 hset l1 l2).mono ?_
      rintro e w2 ⟨v, rfl, hown, hb2⟩
      rw [mem_replicate] at hown
      obtain ⟨a, cap, rfl⟩ := hown.none
      go_wp2_with fail
      refine (awake9_any _).mono ?_
      rintro e w3 ⟨rfl, hb3⟩
      have z1 := hb1.size
      have z2 := hb2.size
      go_wp2
      go_ret
      exact ⟨rfl, by (repeat (first | (with_reducible exact Below.refl _ _) | (with_reducible assumption) | (with_reducible refine Below.alloc ?_ ?_ _) | (with_reducible refine Below.drew ?_) | (with_reducible refine Below.setCell ?_ ?_ _) | (refine Below.step ?_ (by with_reducible assumption) ?_) | go_size))⟩
    · have hm0 : 0 < m := by omega
      have hm0' : ((m : Int) == 0) = false := by simp; omega
      go_enter Try.func5, Try.ntmps5
      go_wp2_with fail
      refine hN.out.mono ?_
      rintro e w1 ⟨ps, gb, rfl, hset, hps, hgb, hb1⟩
      have l1 := rowOf?_lt hset.box
      have l2 := rowOf?_lt hset.row
      go_wp2_with fail
      refine (members_any ps gb _ w1 hset l1 l2).mono ?_
      rintro e w2 ⟨v, rfl, hown, hb2⟩
      rw [mem_replicate] at hown
      obtain ⟨a, cap, rfl⟩ := hown.none
      have hset2 := hset.below hb2 l1 l2
      have z1 := hb1.size
      have z2 := hb2.size
      go_wp2_with fail
      have hv0 : vl ((List.replicate m false).length : Int) [0] = 0 := by
        have h1 : ¬ ((0 : Int) < 0 ∨ (m : Int) ≤ 0) := by omega
        simp only [List.length_replicate, vl, vlFrom_cons, if_neg h1]
        simp [vlFrom]
      refine (punish_ok ps gb (List.replicate m false) _ 1 1 (fun b => b = w2.heap.size) [0] _ (hset2.frame (Below.heap_alloc _ _ _ (by omega)) (Below.heap_alloc _ _ _ (by omega))) (Sl.one w2 _ _) (by intro x hx; simp at hx; omega) (by intro b hb; omega) (by omega) hv0).mono ?_
      rintro e w3 ⟨rfl, hset3, hg3⟩
      have hf : fresh (List.replicate m false) [0] = 1 := by
        simp [fresh, List.getD_eq_getElem?_getD, List.getElem?_replicate, hm0]
      rw [hf]
      have hmk : markAll (List.replicate m false) [0] = (List.replicate m false).set 0 true := rfl
      rw [hmk] at hset3
      have hmem : mem ((List.replicate m false).set 0 true) = [0] := by
        rw [mem_set _ 0 (by simpa using hm0), mem_replicate]; rfl
      have z3 := hg3.size
      simp only [World.size_alloc] at z3
      go_wp2_with fail
      refine (members_any ps gb _ w3 hset3 (by omega) (by omega)).mono ?_
      rintro e w4 ⟨v, rfl, hown4, hb4⟩
      rw [hmem] at hown4
      obtain ⟨g, cap4, cur, rfl, hg, hrow, hc4, hcs, htk⟩ := Go.FH.Own.parts hown4 (by simp [ints])
      have hset4 := hset3.below hb4 (by omega) (by omega)
      obtain ⟨rc, rf, _, rl⟩ := rfacts hrow
      have r0 := rc 0
      have hcur0 : cur[0]? = some (.int .i64 0) := by
        have : (cur.toList.take 1)[0]? = some (.int .i64 0) := by
          have h2 : (ints [0]).length = 1 := rfl
          rw [h2] at htk
          rw [htk]; rfl
        rw [List.getElem?_take] at this
        simpa using this
      rw [hcur0] at r0
      have rf0 := rf 0
      clear rc rf
      have z4 := hb4.size
      simp only [length_ints, List.length_cons, List.length_nil] at *
      go_wp2_with fail
      have hset5 : SetAt (w4.setCell ⟨g, 0, none⟩ (.int .i64 5)) ps gb ((List.replicate m false).set 0 true) :=
        hset4.frame (heap_setCell_other _ _ _ _ (by simp; omega)) (heap_setCell_other _ _ _ _ (by simp; omega))
      have z5 : (w4.setCell ⟨g, 0, none⟩ (.int .i64 5)).heap.size = w4.heap.size := by simp [World.setCell]
      have hb5 : Below w3.heap.size w3 (w4.setCell ⟨g, 0, none⟩ (.int .i64 5)) := hb4.setCell (by simpa using hg) _
      have z5a := Nat.le_of_eq z5
      have z5b := Nat.le_of_eq z5.symm
      clear z5
      generalize w4.setCell ⟨g, 0, none⟩ (.int .i64 5) = w5 at *
      have hgl : guiltyB ((List.replicate m false).set 0 true) 0 = true := by
        simp [guiltyB, List.getD_eq_getElem?_getD, hm0]
      have hG := guilty_any ps gb _ 0 w5 hset5
      rw [hgl] at hG
      refine hG.mono ?_
      rintro e w' ⟨rfl, rfl⟩
      go_wp2_with fail
      refine (members_any ps gb _ w5 hset5 (by omega) (by omega)).mono ?_
      rintro e w6 ⟨v, rfl, hown6, hb6⟩
      rw [hmem] at hown6
      obtain ⟨a6, n6, cap6, rfl, hn6, hs6⟩ := hown6.sl
      have z6 := hb6.size
      have hn6' : n6 = 1 := by simpa using hn6
      subst hn6'
      clear hn6 hgl hmem hmk hf hv0 hG
      go_wp2_with fail
      refine (sameInts_any _ _ _ _ [0] _ _ _ _ [0] _ (hs6.below (B := w6.heap.size) (by (repeat (first | (with_reducible exact Below.refl _ _) | (with_reducible assumption) | (with_reducible refine Below.alloc ?_ ?_ _) | (with_reducible refine Below.drew ?_) | (with_reducible refine Below.setCell ?_ ?_ _) | (refine Below.step ?_ (by with_reducible assumption) ?_) | go_size))) (Nat.le_refl _)) (Sl.one w6 _ _)).mono ?_
      rintro e w' ⟨rfl, q, rfl⟩
      go_wp2_with fail
      refine (awake9_any _).mono ?_
      rintro e w7 ⟨rfl, hb7⟩
      have z7 := hb7.size
      simp only [World.heap_drewN, World.size_alloc] at z7
      go_wp2
      go_ret
      refine ⟨rfl, ?_⟩
      have c1 : Below w.heap.size w w2 := hb1.trans (hb2.mono (by omega))
      have c3 : Below w.heap.size w w3 := (c1.alloc (by omega) _).trans ((Below.refl _ _).grown hg3 (by simp; omega) (fun k hk => by simp at hk; omega))
      have c6 : Below w.heap.size w w6 := (c3.trans (hb5.mono (by omega))).trans (hb6.mono (by omega))
      exact (below_drewN (c6.alloc (by omega) _) q).trans (hb7.mono (by simp; omega))
end Go.Proofs.Ytkcgbcjiogpliaa
