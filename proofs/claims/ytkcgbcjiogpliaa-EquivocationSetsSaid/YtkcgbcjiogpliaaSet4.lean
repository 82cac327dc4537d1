/-
  The law EquivocationSets: any sequence of punishments gives the specified numbers, errors and members.
-/
import Derived.Test.YtkcgbcjiogpliaaSet3
namespace Go.Proofs.Ytkcgbcjiogpliaa
open Go.RowKit Go.FH
set_option linter.unusedVariables false
set_option linter.unusedSimpArgs false

theorem guilty_mem (gs : List Bool) (v : Int) : guiltyB gs v = decide (v ∈ mem gs) := by
  rw [Bool.eq_iff_iff]
  simp only [guiltyB, Bool.and_eq_true, decide_eq_true_eq, mem_mem]
  constructor
  · rintro ⟨⟨h1, h2⟩, h3⟩; exact ⟨h1, h2, h3⟩
  · rintro ⟨h1, h2, h3⟩; exact ⟨⟨h1, h2⟩, h3⟩

set_option maxHeartbeats 4000000 in
set_option maxRecDepth 20000 in
theorem walk_EquivocationSets (w : World) (a : Option Addr) (n cap : Nat) (xs : List Int) (h : Sl w (fun _ => True) a n cap (ints xs)) (h64 : ∀ z ∈ xs, (Lit.int .i64 z).wf = true) (n0 : Int) (hw : (Lit.int .i64 n0).wf = true) :
    Calls Try.prog 4 #[.slice a n cap, .int .i64 n0] w fun e w' => e = .returned (.bool true) ∧ Below w.heap.size w w' := by
  have hmax := h.max
  have HLen := Lib.hid (show xs.length = n by have := h.len; rwa [length_ints] at this)
  have H := Lib.hid h
  clear h
  obtain ⟨N, hN⟩ := Int.eq_ofNat_of_zero_le (Int.emod_nonneg n0 (show (8 : Int) ≠ 0 by omega))
  have hN8 : (N : Int) < 8 := by rw [← hN]; exact Int.emod_lt_of_pos _ (by omega)
  go_enter Try.func4, Try.ntmps4
  go_wp2_with fail
  clear hN
  refine (newSet_ok N _ (by omega)).mono ?_
  rintro e w1 ⟨ps, gb, rfl, hset, hps, hgb, hb1⟩
  have l1 := rowOf?_lt hset.box
  have l2 := rowOf?_lt hset.row
  have z1 := hb1.size
  go_wp2
  go_loopw [7, 8] (fun o i wr => ∃ (j : Nat) (gs : List Bool) (b : Option Addr) (m c : Nat), j ≤ n ∧ j ≤ 12 ∧ i = .int .i64 j ∧ Hid (gs.length = N) ∧ o = .slice b m c ∧ Sl wr (fun k => w1.heap.size ≤ k) b m c (ints (mem gs)) ∧ SetAt wr ps gb gs ∧ w1.heap.size ≤ wr.heap.size ∧ Below w.heap.size w wr) (fun _ i _ => n - (intOf i).toNat)
  case atStart =>
    refine ⟨0, List.replicate N false, none, 0, 0, by omega, by omega, rfl, by unfold Hid; simp, rfl, ?_, hset, by omega, hb1⟩
    rw [mem_replicate]; exact Sl.nil _ _
  case round =>
    obtain ⟨j, gs, b, m, c, hj, hj12, rfl, hgl, rfl, hs, hset, hz, hbel⟩ := hrel
    by_cases hlt : j < n ∧ j < 12
    · obtain ⟨hlt, hlt2⟩ := hlt
      obtain ⟨b', off, rfl, hb, hc⟩ := (H.out.below hbel (Nat.le_refl _)).get (by omega)
      have hj' : j < xs.length := by have := HLen.out; omega
      have hcell := hc j _ (ints_get xs j hj')
      clear hc
      have hk0 : 0 ≤ xs[j] % 16777216 := Int.emod_nonneg _ (by omega)
      have hk1 : xs[j] % 16777216 < 16777216 := Int.emod_lt_of_pos _ (by omega)
      go_wp2_with fail
      generalize xs[j] % 16777216 = k at *
      refine (some_any N k wr (by omega) (by omega) hk0 (by omega)).mono ?_
      rintro e w2 ⟨ws, hws, hwl, v, rfl, hown, hb2⟩
      have z2 := hb2.size
      have hset2 := hset.below hb2 (by omega) (by omega)
      have hs2 := hs.below hb2 (Nat.le_refl _)
      have HWS := Lib.hid hws
      clear hws
      have hk3 : 0 ≤ k / 2048 % 8 := Int.emod_nonneg _ (by omega)
      have hk4 : k / 2048 % 8 < 8 := Int.emod_lt_of_pos _ (by omega)
      obtain ⟨a2, n2, c2, rfl, hn2, hsw⟩ := hown.sl
      have hn2' : n2 = ws.length := by simpa using hn2
      subst hn2'
      clear hn2
      go_wp2_with (at_builtin; refine wl_append rfl _ _ 25 rfl elemInt rfl (hown.alloc _) rfl (Sl.one _ _ _) (ints_one [k / 2048 % 8]) ?_ ?_ ?_ ?_; (simp <;> omega); (simp <;> omega); (simp <;> omega); intro v3 w3 hown3 hb3 hg3)
      · obtain ⟨a3, n3, c3, rfl, hn3, hsw3⟩ := hown3.sl
        have hb23 : Below wr.heap.size wr w3 := (hb2.alloc (by omega) _).trans hb3
        have z3 := hb23.size
        have hset3 := hset.below hb23 (by omega) (by omega)
        have hsC := hs.below hb23 (Nat.le_refl _)
        have hbelC : Below w.heap.size w w3 := hbel.trans (hb23.mono (by omega))
        clear hset hset2 hs hs2 hb2 hb3 hsw hown hown3
        have hset := hset3
        clear hset3
        have hia : ints ws ++ [Value.int .i64 (k / 2048 % 8)] = ints (ws ++ [k / 2048 % 8]) := (ints_app ws [k / 2048 % 8]).symm
        rw [hia] at hsw3 hn3
        clear hia
        have hn3' : n3 = (ws ++ [k / 2048 % 8]).length := by simpa using hn3
        subst hn3'
        clear hn3
        have HWS3 := Lib.hid (show ∀ x ∈ ws ++ [k / 2048 % 8], 0 ≤ x ∧ x ≤ 8 from by
          intro x hx
          rcases List.mem_append.1 hx with hx | hx
          · exact HWS.out x hx
          · simp at hx; omega)
        have hwl3 : (ws ++ [k / 2048 % 8]).length ≤ 9 := by simp; omega
        have hwC := hsw3
        clear hsw3
        generalize ws ++ [k / 2048 % 8] = ws3 at *
        have hi64 : I64 ws3 := by intro x hx; have := HWS3.out x hx; omega
        have hml0 := mem_length gs
        have hmlen := hsC.len
        rw [length_ints] at hmlen
        by_cases hv : vl gs.length ws3 = 0
        · have hrange := vl_ok hv
          have hv' : vl (N : Int) ws3 = 0 := by rw [← hgl.out]; exact hv
          have hcount : (((ws3.foldl (fun acc u => ins u acc) (mem gs)).length : Int) - (m : Int)) = (fresh gs ws3 : Int) := by
            rw [← mem_mark gs ws3 hrange, mem_mark_length gs ws3 hrange]; omega
          have hfold := mem_mark gs ws3 hrange
          have hmm : ∀ v, v ∈ mem gs → v ∈ mem (markAll gs ws3) := mem_markAll_of gs ws3
          have HMM := Lib.hid hmm
          have HCO := Lib.hid hcount
          have HFO := Lib.hid hfold
          have hgl2 : Hid ((markAll gs ws3).length = N) := by rw [mark_length]; exact hgl
          have hP := punish_ok ps gb gs _ _ _ _ ws3 w3 hset hwC hi64 (fun k hk => by have := hk; omega) (by omega) hv
          have HP := Lib.hid hP
          have HV := Lib.hid hv'
          clear hrange hcount hfold hmm hP hv hv'
          have hmb : m ≤ 8 := by have := hgl.out; omega
          have HML := Lib.hid hmlen
          clear hmlen hml0
          refine HP.out.mono ?_
          rintro e w4 ⟨rfl, hset4, hg4⟩
          have z4 := hg4.size
          have hbel4 : Below w.heap.size w w4 := hbelC.grown hg4 (by omega) (fun k hk => by simp at hk; omega)
          have hw4 := hwC.frame hg4.size (fun k hk hlt => hg4.block k hlt (by simp; have := hk; omega))
          have hs4 := hsC.frame hg4.size (fun k hk hlt => hg4.block k hlt (by simp; have := hk; omega))
          go_wp2_with fail
          refine (refValidate_any _ _ _ _ ws3 (N : Int) _ hw4 hi64).mono ?_
          rintro e w' ⟨rfl, q, rfl⟩
          rw [HV.out]
          go_wp2_with fail
          refine (refPunish_any _ _ _ _ (mem gs) _ _ _ _ ws3 _ (hs4.drewN q) (hw4.drewN q) (by omega) (by omega)).mono ?_
          rintro e w5 ⟨b5, m5, c5, rfl, hm5, hs5, hb5⟩
          rw [HCO.out]
          rw [← HFO.out] at hs5
          clear hm5
          have hb5' : Below w4.heap.size w4 w5 := (below_drewN (Below.refl _ _) q).trans hb5
          have z5 := hb5'.size
          have hset5 := hset4.below hb5' (by omega) (by omega)
          have hbel5 : Below w.heap.size w w5 := hbel4.trans (hb5'.mono (by omega))
          have hbef5 := hs4.below hb5' (Nat.le_refl _)
          go_wp2_with fail
          refine (members_any ps gb _ w5 hset5 (by omega) (by omega)).mono ?_
          rintro e w6 ⟨v6, rfl, hown6, hb6⟩
          obtain ⟨a6, n6, c6, rfl, hn6, hs6⟩ := hown6.sl
          clear hn6
          have hset6 := hset5.below hb6 (by omega) (by omega)
          have z6 := hb6.size
          have hbel6 : Below w.heap.size w w6 := hbel5.trans (hb6.mono (by omega))
          have hs56 := hs5.below hb6 (Nat.le_refl _)
          go_wp2_with fail
          refine (sameInts_any _ _ _ _ (mem (markAll gs ws3)) _ _ _ _ (mem (markAll gs ws3)) _ hs6 hs56).mono ?_
          rintro e w' ⟨rfl, q2, rfl⟩
          have hset7 : SetAt (w6.drewN q2) ps gb (markAll gs ws3) := hset6.frame rfl rfl
          have hbef7 := (hbef5.below hb6 (Nat.le_refl _)).drewN q2
          have hs57 := hs56.drewN q2
          have hbel7 := below_drewN hbel6 q2
          have z7 : w1.heap.size ≤ (w6.drewN q2).heap.size := by simp only [World.heap_drewN]; omega
          generalize w6.drewN q2 = w7 at *
          go_wp2
          go_loop [16] (fun v => ∃ t : Nat, t ≤ N + 2 ∧ v = .int .i64 ((t : Int) - 1)) (fun v => ((N : Int) + 1 - intOf v).toNat)
          case atStart => exact ⟨0, by omega, rfl⟩
          case round =>
            obtain ⟨t, ht, rfl⟩ := hrel
            by_cases htn : (t : Int) - 1 ≤ N
            · have hg1 := guilty_any ps gb _ ((t : Int) - 1) w7 hset7
              rw [guilty_mem] at hg1
              have hh1 := has_any _ _ _ _ (mem (markAll gs ws3)) ((t : Int) - 1) w7 hs57
              have hh2 := has_any _ _ _ _ (mem gs) ((t : Int) - 1) w7 hbef7
              have G1 := Lib.hid hg1
              have K1 := Lib.hid hh1
              have K2 := Lib.hid hh2
              clear hg1 hh1 hh2
              by_cases hmb : ((t : Int) - 1) ∈ mem gs
              · have d1 : decide (((t : Int) - 1) ∈ mem gs) = true := by simpa using hmb
                have d2 : decide (((t : Int) - 1) ∈ mem (markAll gs ws3)) = true := by simpa using HMM.out _ hmb
                clear hmb
                go_wp2_with fail
                refine G1.out.mono ?_
                rintro e w' ⟨rfl, rfl⟩
                go_wp2_with fail
                refine K1.out.mono ?_
                rintro e w' ⟨rfl, rfl⟩
                go_wp2_with fail
                refine K2.out.mono ?_
                rintro e w' ⟨rfl, rfl⟩
                go_wp2_with fail
                refine G1.out.mono ?_
                rintro e w' ⟨rfl, rfl⟩
                go_wp2
                go_round
                case rel => exact ⟨t + 1, by omega, by go_num⟩
                case measure => simp [intOf]; omega
              · have d1 : decide (((t : Int) - 1) ∈ mem gs) = false := by simpa using hmb
                generalize hd2 : decide (((t : Int) - 1) ∈ mem (markAll gs ws3)) = x2 at *
                clear hmb hd2
                go_wp2_with fail
                refine G1.out.mono ?_
                rintro e w' ⟨rfl, rfl⟩
                go_wp2_with fail
                refine K1.out.mono ?_
                rintro e w' ⟨rfl, rfl⟩
                go_wp2_with fail
                refine K2.out.mono ?_
                rintro e w' ⟨rfl, rfl⟩
                go_wp2
                go_round
                case rel => exact ⟨t + 1, by omega, by go_num⟩
                case measure => simp [intOf]; omega
            · go_wp2
              go_roundw
              case rel => exact ⟨j + 1, (markAll gs ws3), b5, m5, c5, by omega, by omega, by go_num, hgl2, rfl, hs57.mono (fun k hk _ => by have := hk; simp only [World.heap_drewN] at this; omega), hset7, z7, hbel7⟩
              case measure => simp [intOf]; omega
        · have hv' : (vl (N : Int) ws3 == 0) = false := by rw [← hgl.out]; simpa using hv
          have hP := punish_bad ps gb gs _ _ _ _ ws3 w3 hset hwC hi64 hv
          rw [hgl.out] at hP
          have HP := Lib.hid hP
          clear hP hv hml0 hmlen
          generalize hvv : vl (N : Int) ws3 = vv at hv'
          have HVV := Lib.hid hvv
          clear hvv
          refine HP.out.mono ?_
          rintro e w' ⟨rfl, rfl⟩
          go_wp2_with fail
          refine (refValidate_any _ _ _ _ ws3 (N : Int) _ hwC hi64).mono ?_
          rintro e w' ⟨rfl, q, rfl⟩
          rw [HVV.out]
          have hset5 : SetAt (w3.drewN q) ps gb gs := hset.frame rfl rfl
          have hbel5 := below_drewN hbelC q
          have hbef5 := hsC.drewN q
          have z5 : w3.heap.size ≤ (w3.drewN q).heap.size := Nat.le_refl _
          generalize w3.drewN q = w5 at *
          go_wp2_with fail
          refine (members_any ps gb _ w5 hset5 (by omega) (by omega)).mono ?_
          rintro e w6 ⟨v6, rfl, hown6, hb6⟩
          obtain ⟨a6, n6, c6, rfl, hn6, hs6⟩ := hown6.sl
          clear hn6
          have hset6 := hset5.below hb6 (by omega) (by omega)
          have z6 := hb6.size
          have hbel6 : Below w.heap.size w w6 := hbel5.trans (hb6.mono (by omega))
          have hs56 := hbef5.below hb6 (Nat.le_refl _)
          go_wp2_with fail
          refine (sameInts_any _ _ _ _ (mem gs) _ _ _ _ (mem gs) _ hs6 hs56).mono ?_
          rintro e w' ⟨rfl, q2, rfl⟩
          have hset7 : SetAt (w6.drewN q2) ps gb gs := hset6.frame rfl rfl
          have hbef7 := (hbef5.below hb6 (Nat.le_refl _)).drewN q2
          have hs57 := hs56.drewN q2
          have hbel7 := below_drewN hbel6 q2
          have z7 : w1.heap.size ≤ (w6.drewN q2).heap.size := by simp only [World.heap_drewN]; omega
          generalize w6.drewN q2 = w7 at *
          go_wp2
          go_loop [16] (fun v => ∃ t : Nat, t ≤ N + 2 ∧ v = .int .i64 ((t : Int) - 1)) (fun v => ((N : Int) + 1 - intOf v).toNat)
          case atStart => exact ⟨0, by omega, rfl⟩
          case round =>
            obtain ⟨t, ht, rfl⟩ := hrel
            by_cases htn : (t : Int) - 1 ≤ N
            · have hg1 := guilty_any ps gb _ ((t : Int) - 1) w7 hset7
              rw [guilty_mem] at hg1
              have hh1 := has_any _ _ _ _ (mem gs) ((t : Int) - 1) w7 hs57
              have hh2 := has_any _ _ _ _ (mem gs) ((t : Int) - 1) w7 hbef7
              have G1 := Lib.hid hg1
              have K1 := Lib.hid hh1
              have K2 := Lib.hid hh2
              clear hg1 hh1 hh2
              by_cases hmb : ((t : Int) - 1) ∈ mem gs
              · have d1 : decide (((t : Int) - 1) ∈ mem gs) = true := by simpa using hmb
                have d2 : decide (((t : Int) - 1) ∈ mem gs) = true := by simpa using hmb
                clear hmb
                go_wp2_with fail
                refine G1.out.mono ?_
                rintro e w' ⟨rfl, rfl⟩
                go_wp2_with fail
                refine K1.out.mono ?_
                rintro e w' ⟨rfl, rfl⟩
                go_wp2_with fail
                refine K2.out.mono ?_
                rintro e w' ⟨rfl, rfl⟩
                go_wp2_with fail
                refine G1.out.mono ?_
                rintro e w' ⟨rfl, rfl⟩
                go_wp2
                go_round
                case rel => exact ⟨t + 1, by omega, by go_num⟩
                case measure => simp [intOf]; omega
              · have d1 : decide (((t : Int) - 1) ∈ mem gs) = false := by simpa using hmb
                generalize hd2 : decide (((t : Int) - 1) ∈ mem gs) = x2 at *
                clear hmb hd2
                go_wp2_with fail
                refine G1.out.mono ?_
                rintro e w' ⟨rfl, rfl⟩
                go_wp2_with fail
                refine K1.out.mono ?_
                rintro e w' ⟨rfl, rfl⟩
                go_wp2_with fail
                refine K2.out.mono ?_
                rintro e w' ⟨rfl, rfl⟩
                go_wp2
                go_round
                case rel => exact ⟨t + 1, by omega, by go_num⟩
                case measure => simp [intOf]; omega
            · go_wp2
              go_roundw
              case rel => exact ⟨j + 1, gs, b, m, c, by omega, by omega, by go_num, hgl, rfl, hs57.mono (fun k hk _ => hk), hset7, z7, hbel7⟩
              case measure => simp [intOf]; omega
      · have hwl2 : ws.length ≤ 9 := by omega
        have hsC := hs2
        have hwC := hsw
        have hbelC : Below w.heap.size w w2 := hbel.trans (hb2.mono (by omega))
        clear hown hsw hs2 hset hb2 hs
        have hset := hset2
        clear hset2
        have hi64 : I64 ws := by intro x hx; have := HWS.out x hx; omega
        have hml0 := mem_length gs
        have hmlen := hsC.len
        rw [length_ints] at hmlen
        by_cases hv : vl gs.length ws = 0
        · have hrange := vl_ok hv
          have hv' : vl (N : Int) ws = 0 := by rw [← hgl.out]; exact hv
          have hcount : (((ws.foldl (fun acc u => ins u acc) (mem gs)).length : Int) - (m : Int)) = (fresh gs ws : Int) := by
            rw [← mem_mark gs ws hrange, mem_mark_length gs ws hrange]; omega
          have hfold := mem_mark gs ws hrange
          have hmm : ∀ v, v ∈ mem gs → v ∈ mem (markAll gs ws) := mem_markAll_of gs ws
          have HMM := Lib.hid hmm
          have HCO := Lib.hid hcount
          have HFO := Lib.hid hfold
          have hgl2 : Hid ((markAll gs ws).length = N) := by rw [mark_length]; exact hgl
          have hP := punish_ok ps gb gs _ _ _ _ ws w2 hset hwC hi64 (fun k hk => by have := hk; omega) (by omega) hv
          have HP := Lib.hid hP
          have HV := Lib.hid hv'
          clear hrange hcount hfold hmm hP hv hv'
          have hmb : m ≤ 8 := by have := hgl.out; omega
          have HML := Lib.hid hmlen
          clear hmlen hml0
          refine HP.out.mono ?_
          rintro e w4 ⟨rfl, hset4, hg4⟩
          have z4 := hg4.size
          have hbel4 : Below w.heap.size w w4 := hbelC.grown hg4 (by omega) (fun k hk => by simp at hk; omega)
          have hw4 := hwC.frame hg4.size (fun k hk hlt => hg4.block k hlt (by simp; have := hk; omega))
          have hs4 := hsC.frame hg4.size (fun k hk hlt => hg4.block k hlt (by simp; have := hk; omega))
          go_wp2_with fail
          refine (refValidate_any _ _ _ _ ws (N : Int) _ hw4 hi64).mono ?_
          rintro e w' ⟨rfl, q, rfl⟩
          rw [HV.out]
          go_wp2_with fail
          refine (refPunish_any _ _ _ _ (mem gs) _ _ _ _ ws _ (hs4.drewN q) (hw4.drewN q) (by omega) (by omega)).mono ?_
          rintro e w5 ⟨b5, m5, c5, rfl, hm5, hs5, hb5⟩
          rw [HCO.out]
          rw [← HFO.out] at hs5
          clear hm5
          have hb5' : Below w4.heap.size w4 w5 := (below_drewN (Below.refl _ _) q).trans hb5
          have z5 := hb5'.size
          have hset5 := hset4.below hb5' (by omega) (by omega)
          have hbel5 : Below w.heap.size w w5 := hbel4.trans (hb5'.mono (by omega))
          have hbef5 := hs4.below hb5' (Nat.le_refl _)
          go_wp2_with fail
          refine (members_any ps gb _ w5 hset5 (by omega) (by omega)).mono ?_
          rintro e w6 ⟨v6, rfl, hown6, hb6⟩
          obtain ⟨a6, n6, c6, rfl, hn6, hs6⟩ := hown6.sl
          clear hn6
          have hset6 := hset5.below hb6 (by omega) (by omega)
          have z6 := hb6.size
          have hbel6 : Below w.heap.size w w6 := hbel5.trans (hb6.mono (by omega))
          have hs56 := hs5.below hb6 (Nat.le_refl _)
          go_wp2_with fail
          refine (sameInts_any _ _ _ _ (mem (markAll gs ws)) _ _ _ _ (mem (markAll gs ws)) _ hs6 hs56).mono ?_
          rintro e w' ⟨rfl, q2, rfl⟩
          have hset7 : SetAt (w6.drewN q2) ps gb (markAll gs ws) := hset6.frame rfl rfl
          have hbef7 := (hbef5.below hb6 (Nat.le_refl _)).drewN q2
          have hs57 := hs56.drewN q2
          have hbel7 := below_drewN hbel6 q2
          have z7 : w1.heap.size ≤ (w6.drewN q2).heap.size := by simp only [World.heap_drewN]; omega
          generalize w6.drewN q2 = w7 at *
          go_wp2
          go_loop [16] (fun v => ∃ t : Nat, t ≤ N + 2 ∧ v = .int .i64 ((t : Int) - 1)) (fun v => ((N : Int) + 1 - intOf v).toNat)
          case atStart => exact ⟨0, by omega, rfl⟩
          case round =>
            obtain ⟨t, ht, rfl⟩ := hrel
            by_cases htn : (t : Int) - 1 ≤ N
            · have hg1 := guilty_any ps gb _ ((t : Int) - 1) w7 hset7
              rw [guilty_mem] at hg1
              have hh1 := has_any _ _ _ _ (mem (markAll gs ws)) ((t : Int) - 1) w7 hs57
              have hh2 := has_any _ _ _ _ (mem gs) ((t : Int) - 1) w7 hbef7
              have G1 := Lib.hid hg1
              have K1 := Lib.hid hh1
              have K2 := Lib.hid hh2
              clear hg1 hh1 hh2
              by_cases hmb : ((t : Int) - 1) ∈ mem gs
              · have d1 : decide (((t : Int) - 1) ∈ mem gs) = true := by simpa using hmb
                have d2 : decide (((t : Int) - 1) ∈ mem (markAll gs ws)) = true := by simpa using HMM.out _ hmb
                clear hmb
                go_wp2_with fail
                refine G1.out.mono ?_
                rintro e w' ⟨rfl, rfl⟩
                go_wp2_with fail
                refine K1.out.mono ?_
                rintro e w' ⟨rfl, rfl⟩
                go_wp2_with fail
                refine K2.out.mono ?_
                rintro e w' ⟨rfl, rfl⟩
                go_wp2_with fail
                refine G1.out.mono ?_
                rintro e w' ⟨rfl, rfl⟩
                go_wp2
                go_round
                case rel => exact ⟨t + 1, by omega, by go_num⟩
                case measure => simp [intOf]; omega
              · have d1 : decide (((t : Int) - 1) ∈ mem gs) = false := by simpa using hmb
                generalize hd2 : decide (((t : Int) - 1) ∈ mem (markAll gs ws)) = x2 at *
                clear hmb hd2
                go_wp2_with fail
                refine G1.out.mono ?_
                rintro e w' ⟨rfl, rfl⟩
                go_wp2_with fail
                refine K1.out.mono ?_
                rintro e w' ⟨rfl, rfl⟩
                go_wp2_with fail
                refine K2.out.mono ?_
                rintro e w' ⟨rfl, rfl⟩
                go_wp2
                go_round
                case rel => exact ⟨t + 1, by omega, by go_num⟩
                case measure => simp [intOf]; omega
            · go_wp2
              go_roundw
              case rel => exact ⟨j + 1, (markAll gs ws), b5, m5, c5, by omega, by omega, by go_num, hgl2, rfl, hs57.mono (fun k hk _ => by have := hk; simp only [World.heap_drewN] at this; omega), hset7, z7, hbel7⟩
              case measure => simp [intOf]; omega
        · have hv' : (vl (N : Int) ws == 0) = false := by rw [← hgl.out]; simpa using hv
          have hP := punish_bad ps gb gs _ _ _ _ ws w2 hset hwC hi64 hv
          rw [hgl.out] at hP
          have HP := Lib.hid hP
          clear hP hv hml0 hmlen
          generalize hvv : vl (N : Int) ws = vv at hv'
          have HVV := Lib.hid hvv
          clear hvv
          refine HP.out.mono ?_
          rintro e w' ⟨rfl, rfl⟩
          go_wp2_with fail
          refine (refValidate_any _ _ _ _ ws (N : Int) _ hwC hi64).mono ?_
          rintro e w' ⟨rfl, q, rfl⟩
          rw [HVV.out]
          have hset5 : SetAt (w2.drewN q) ps gb gs := hset.frame rfl rfl
          have hbel5 := below_drewN hbelC q
          have hbef5 := hsC.drewN q
          have z5 : w2.heap.size ≤ (w2.drewN q).heap.size := Nat.le_refl _
          generalize w2.drewN q = w5 at *
          go_wp2_with fail
          refine (members_any ps gb _ w5 hset5 (by omega) (by omega)).mono ?_
          rintro e w6 ⟨v6, rfl, hown6, hb6⟩
          obtain ⟨a6, n6, c6, rfl, hn6, hs6⟩ := hown6.sl
          clear hn6
          have hset6 := hset5.below hb6 (by omega) (by omega)
          have z6 := hb6.size
          have hbel6 : Below w.heap.size w w6 := hbel5.trans (hb6.mono (by omega))
          have hs56 := hbef5.below hb6 (Nat.le_refl _)
          go_wp2_with fail
          refine (sameInts_any _ _ _ _ (mem gs) _ _ _ _ (mem gs) _ hs6 hs56).mono ?_
          rintro e w' ⟨rfl, q2, rfl⟩
          have hset7 : SetAt (w6.drewN q2) ps gb gs := hset6.frame rfl rfl
          have hbef7 := (hbef5.below hb6 (Nat.le_refl _)).drewN q2
          have hs57 := hs56.drewN q2
          have hbel7 := below_drewN hbel6 q2
          have z7 : w1.heap.size ≤ (w6.drewN q2).heap.size := by simp only [World.heap_drewN]; omega
          generalize w6.drewN q2 = w7 at *
          go_wp2
          go_loop [16] (fun v => ∃ t : Nat, t ≤ N + 2 ∧ v = .int .i64 ((t : Int) - 1)) (fun v => ((N : Int) + 1 - intOf v).toNat)
          case atStart => exact ⟨0, by omega, rfl⟩
          case round =>
            obtain ⟨t, ht, rfl⟩ := hrel
            by_cases htn : (t : Int) - 1 ≤ N
            · have hg1 := guilty_any ps gb _ ((t : Int) - 1) w7 hset7
              rw [guilty_mem] at hg1
              have hh1 := has_any _ _ _ _ (mem gs) ((t : Int) - 1) w7 hs57
              have hh2 := has_any _ _ _ _ (mem gs) ((t : Int) - 1) w7 hbef7
              have G1 := Lib.hid hg1
              have K1 := Lib.hid hh1
              have K2 := Lib.hid hh2
              clear hg1 hh1 hh2
              by_cases hmb : ((t : Int) - 1) ∈ mem gs
              · have d1 : decide (((t : Int) - 1) ∈ mem gs) = true := by simpa using hmb
                have d2 : decide (((t : Int) - 1) ∈ mem gs) = true := by simpa using hmb
                clear hmb
                go_wp2_with fail
                refine G1.out.mono ?_
                rintro e w' ⟨rfl, rfl⟩
                go_wp2_with fail
                refine K1.out.mono ?_
                rintro e w' ⟨rfl, rfl⟩
                go_wp2_with fail
                refine K2.out.mono ?_
                rintro e w' ⟨rfl, rfl⟩
                go_wp2_with fail
                refine G1.out.mono ?_
                rintro e w' ⟨rfl, rfl⟩
                go_wp2
                go_round
                case rel => exact ⟨t + 1, by omega, by go_num⟩
                case measure => simp [intOf]; omega
              · have d1 : decide (((t : Int) - 1) ∈ mem gs) = false := by simpa using hmb
                generalize hd2 : decide (((t : Int) - 1) ∈ mem gs) = x2 at *
                clear hmb hd2
                go_wp2_with fail
                refine G1.out.mono ?_
                rintro e w' ⟨rfl, rfl⟩
                go_wp2_with fail
                refine K1.out.mono ?_
                rintro e w' ⟨rfl, rfl⟩
                go_wp2_with fail
                refine K2.out.mono ?_
                rintro e w' ⟨rfl, rfl⟩
                go_wp2
                go_round
                case rel => exact ⟨t + 1, by omega, by go_num⟩
                case measure => simp [intOf]; omega
            · go_wp2
              go_roundw
              case rel => exact ⟨j + 1, gs, b, m, c, by omega, by omega, by go_num, hgl, rfl, hs57.mono (fun k hk _ => hk), hset7, z7, hbel7⟩
              case measure => simp [intOf]; omega
    · -- the loop's end
      by_cases hlt1 : j < n
      · obtain rfl : j = 12 := by omega
        go_wp2_with (go_at_call 14; refine (awake9_any _).mono ?_; rintro e w' ⟨rfl, hb⟩)
        go_ret
        exact ⟨rfl, by (repeat (first | (with_reducible exact Below.refl _ _) | (with_reducible assumption) | (with_reducible refine Below.alloc ?_ ?_ _) | (with_reducible refine Below.drew ?_) | (with_reducible refine Below.setCell ?_ ?_ _) | (refine Below.step ?_ (by with_reducible assumption) ?_) | go_size))⟩
      · obtain rfl : j = n := by omega
        go_wp2_with (go_at_call 14; refine (awake9_any _).mono ?_; rintro e w' ⟨rfl, hb⟩)
        go_ret
        exact ⟨rfl, by (repeat (first | (with_reducible exact Below.refl _ _) | (with_reducible assumption) | (with_reducible refine Below.alloc ?_ ?_ _) | (with_reducible refine Below.drew ?_) | (with_reducible refine Below.setCell ?_ ?_ _) | (refine Below.step ?_ (by with_reducible assumption) ?_) | go_size))⟩
end Go.Proofs.Ytkcgbcjiogpliaa
