/-
  Built inputs: roots, lists of validators, slashings.
-/
import Derived.Test.YtdkahoohedljhaaIg
namespace Go.Proofs.Ytdkahoohedljhaa
open Go Go.FH Go.RowKit
set_option linter.unusedVariables false
set_option linter.unusedSimpArgs false

def u8of (z : Int) : UInt8 := UInt8.ofNat (IntKind.u8.wrap z).toNat
theorem u8of_nat (z : Int) : IntKind.u8.wrap z = ((u8of z).toNat : Int) := by
  have h : 0 ≤ IntKind.u8.wrap z ∧ IntKind.u8.wrap z < 256 := by rw [IntKind.wrap_u8]; omega
  unfold u8of
  rw [UInt8.toNat_ofNat', Nat.mod_eq_of_lt (by omega)]
  omega
theorem iand_le9 (x m : Int) (h0 : 0 ≤ m) (hm : m < 9223372036854775808) : ∃ r : Nat, iand .i64 x m = r ∧ (r : Int) ≤ m := by
  unfold iand
  have h : (BitVec.ofInt IntKind.i64.bits x &&& BitVec.ofInt IntKind.i64.bits m).toNat ≤ m.toNat := by
    rw [BitVec.toNat_and]
    refine Nat.le_trans Nat.and_le_right ?_
    rw [BitVec.toNat_ofInt]
    show (m % ((2 ^ 64 : Nat) : Int)).toNat ≤ m.toNat
    omega
  generalize (BitVec.ofInt IntKind.i64.bits x &&& BitVec.ofInt IntKind.i64.bits m).toNat = r at *
  exact ⟨r, wrap_i64_in (by omega) (by omega), by omega⟩
/-- The root for a number. -/
def rootN (n : Int) : Rt := ((rt0.set 0 (u8of n)).set 1 (u8of (ishr .i64 n 8))).set 31 (u8of (IntKind.i64.wrap (n * 7)))
theorem brt_walk (n : Int) : PC Try.prog 44 [.int .i64 n] (.agg (rtc (rootN n))) := by
  refine PC.fact 3 f_base_Root (by simp) ⟨trivial, trivial⟩ ((PuL_rtc _)) ?_
  unfold c_base_Root rootN
  have h0 := u8of_nat n
  have h1 := u8of_nat (ishr .i64 n 8)
  have h2 := u8of_nat (IntKind.i64.wrap (n * 7))
  generalize u8of n = b0 at *
  generalize u8of (ishr .i64 n 8) = b1 at *
  generalize u8of (IntKind.i64.wrap (n * 7)) = b2 at *
  have s0 : ∀ (r : Rt) (b : UInt8), spl (rtc r) 0 [.int .u8 (b.toNat : Int)] = rtc (r.set 0 b) := fun r b => spl_rtc r (by decide) b
  have s1 : ∀ (r : Rt) (b : UInt8), spl (rtc r) 1 [.int .u8 (b.toNat : Int)] = rtc (r.set 1 b) := fun r b => spl_rtc r (by decide) b
  have s2 : ∀ (r : Rt) (b : UInt8), spl (rtc r) 31 [.int .u8 (b.toNat : Int)] = rtc (r.set 31 b) := fun r b => spl_rtc r (by decide) b
  repeat (first | refine go_on ?_ | simp only [go_sem, h0, h1, h2, s0, s1, s2])
  refine ⟨_, (by first | rfl | exact evd), .inl ?_⟩; (try simp only [go_sem, Nat.reduceAdd, Nat.reduceSub, Nat.reduceMul, Nat.reduceLT, Nat.reduceLeDiff, Nat.reduceEqDiff, reduceIte, Int.reduceToNat, Int.reduceLT, Int.reduceLE, Int.reduceEq, Int.reduceNeg, reduceCtorEq, Int.reduceBEq, Int.reduceBNe])
/-- The validators whose bit is set, of the first ones. -/
def someA (bits : Int) (i : Nat) : List Int := ((List.range i).filter fun j => iand .i64 (ishr .i64 bits j) 1 == 1).map Int.ofNat
theorem someA_s (bits : Int) (i : Nat) : someA bits (i + 1) = if (iand .i64 (ishr .i64 bits i) 1 == 1) = true then someA bits i ++ [(i : Int)] else someA bits i := by
  unfold someA
  rw [List.range_succ, List.filter_append, List.map_append]
  by_cases h : (iand .i64 (ishr .i64 bits i) 1 == 1) = true
  · rw [if_pos h]; simp [h]
  · rw [if_neg h]; simp [h]
theorem someA_len (bits : Int) (i : Nat) : (someA bits i).length ≤ i := by
  unfold someA
  rw [List.length_map]
  exact Nat.le_trans (List.length_filter_le _ _) (by simp)
def someL (n : Nat) (bits : Int) : List Int := if someA bits n = [] ∧ 0 < n then [0] else someA bits n
theorem someL_len (n : Nat) (bits : Int) : (someL n bits).length ≤ n := by
  unfold someL
  split
  · rename_i h; simp; omega
  · exact someA_len bits n
theorem some_walk (n : Nat) (bits : Int) (hn : n ≤ 1000000) : PC Try.prog 16 [.int .i64 n, .int .i64 bits] (.sl 1 false (nums .i64 (someL n bits))) := by
  refine PC.fact 7 f_base_Some (by simp) ⟨trivial, trivial, trivial⟩ (Pu_nums _ _) ?_
  unfold c_base_Some
  try refine go_on ?_
  refine tri_loopG (fun x : Nat × Bool => ⟨7, [.int .i64 n, .int .i64 bits, .dead, .dead, .sl 0 true [], if x.2 then .hs 1 0 0 (someA bits x.1).length else .sl 0 true [], .int .i64 x.1], []⟩) (fun x => if x.2 then [.vec 1 (nums .i64 (someA bits x.1))] else []) (fun x => n - x.1) (fun x => x.1 ≤ n ∧ (x.2 = false → someA bits x.1 = [])) (0, false) ⟨Nat.zero_le _, fun _ => rfl⟩ ?_ ?_
  · simp only [Bool.false_eq_true, if_false]
    refine GC.mk' [] [] (by simp) rfl (by simp) (by simp) evd evd
  rintro ⟨i, b⟩ ⟨hi, hb⟩
  dsimp only at hi hb ⊢
  have hlen := someA_len bits i
  by_cases h1 : i < n
  · have e1 : decide ((i : Int) < (n : Int)) = true := decide_eq_true (by omega)
    have hw := wrap_i64_succ h1 (by omega)
    have hu : IntKind.u64.wrap (i : Int) = (i : Int) := wrap_u64_in (by omega) (by omega)
    have hs := someA_s bits i
    cases hq : (iand .i64 (ishr .i64 bits i) 1 == 1) with
    | true =>
      rw [hq, if_pos rfl] at hs
      have hnum : ∀ l : List Int, nums .i64 l ++ [[.int .i64 (i : Int)]] = nums .i64 (l ++ [(i : Int)]) := fun l => nums_app .i64 l [(i : Int)]
      cases b with
      | true =>
        simp only [if_true]
        repeat (first | refine go_on ?_ | simp only [go_sem, e1])
        refine tri_condT ?_
        repeat (first | refine go_on ?_ | simp only [go_sem, hu, hq])
        refine tri_condT ?_
        repeat (first | refine go_on ?_ | simp only [go_sem, hw, hnum])
        refine ⟨(i + 1, true), ⟨h1, fun h => (by cases h)⟩, by dsimp only; omega, ?_⟩
        simp only [if_true, hs, List.length_append, List.length_cons, List.length_nil, Nat.zero_add]
        refine GC.mk' [] [1] (by simp) rfl (by simp) (by simp) evd evd
      | false =>
        have h0 := hb rfl
        rw [h0] at hs
        simp only [Bool.false_eq_true, if_false]
        repeat (first | refine go_on ?_ | simp only [go_sem, e1])
        refine tri_condT ?_
        repeat (first | refine go_on ?_ | simp only [go_sem, hu, hq])
        refine tri_condT ?_
        repeat (first | refine go_on ?_ | simp only [go_sem, hw])
        refine ⟨(i + 1, true), ⟨h1, fun h => (by cases h)⟩, by dsimp only; omega, ?_⟩
        simp only [if_true, hs]
        refine GC.mk' [] [0] (by simp) rfl (by simp) (by simp) evd evd
    | false =>
      rw [hq, if_neg (by simp)] at hs
      cases b with
      | true =>
        simp only [if_true]
        repeat (first | refine go_on ?_ | simp only [go_sem, e1])
        refine tri_condT ?_
        repeat (first | refine go_on ?_ | simp only [go_sem, hu, hq])
        refine tri_condF ?_
        repeat (first | refine go_on ?_ | simp only [go_sem, hw])
        refine ⟨(i + 1, true), ⟨h1, fun h => (by cases h)⟩, by dsimp only; omega, ?_⟩
        simp only [if_true, hs]
        refine GC.mk' [] [0] (by simp) rfl (by simp) (by simp) evd evd
      | false =>
        simp only [Bool.false_eq_true, if_false]
        repeat (first | refine go_on ?_ | simp only [go_sem, e1])
        refine tri_condT ?_
        repeat (first | refine go_on ?_ | simp only [go_sem, hu, hq])
        refine tri_condF ?_
        repeat (first | refine go_on ?_ | simp only [go_sem, hw])
        refine ⟨(i + 1, false), ⟨h1, fun h => (by dsimp only; rw [hs]; exact hb rfl)⟩, by dsimp only; omega, ?_⟩
        simp only [Bool.false_eq_true, if_false]
        refine GC.mk' [] [] (by simp) rfl (by simp) (by simp) evd evd
  have e1 : decide ((i : Int) < (n : Int)) = false := decide_eq_false (by omega)
  obtain rfl : i = n := by omega
  have e2 : decide ((i : Int) > 0) = decide (0 < i) := by rw [decide_eq_decide]; omega
  unfold someL
  by_cases h0 : someA bits i = []
  · by_cases hz : 0 < i
    · have e3 : decide ((i : Int) > 0) = true := decide_eq_true (by omega)
      rw [if_pos ⟨h0, hz⟩]
      cases b with
      | true =>
        simp only [if_true, h0]
        repeat (first | refine go_on ?_ | simp only [go_sem, e1])
        refine tri_condF ?_
        repeat (first | refine go_on ?_ | simp only [go_sem, e3])
        refine tri_condT ?_
        try refine go_on ?_
        refine ⟨_, by first | rfl | exact evd, .inr ⟨.sl 1 true (nums .i64 [0]), evd, Pu_nums _ _, Wk.open_ _ _ _⟩⟩
      | false =>
        simp only [Bool.false_eq_true, if_false]
        repeat (first | refine go_on ?_ | simp only [go_sem, e1])
        refine tri_condF ?_
        repeat (first | refine go_on ?_ | simp only [go_sem, e3])
        refine tri_condT ?_
        try refine go_on ?_
        refine ⟨_, by first | rfl | exact evd, .inr ⟨.sl 1 true (nums .i64 [0]), evd, Pu_nums _ _, Wk.open_ _ _ _⟩⟩
    · have e3 : decide ((i : Int) > 0) = false := decide_eq_false (by omega)
      rw [if_neg (fun h => hz h.2), h0]
      cases b with
      | true =>
        simp only [if_true]
        repeat (first | refine go_on ?_ | simp only [go_sem, e1])
        refine tri_condF ?_
        repeat (first | refine go_on ?_ | simp only [go_sem, e3])
        refine tri_condF ?_
        try refine go_on ?_
        refine ⟨_, (by first | rfl | exact evd), .inl ?_⟩; (try simp only [go_sem, Nat.reduceAdd, Nat.reduceSub, Nat.reduceMul, Nat.reduceLT, Nat.reduceLeDiff, Nat.reduceEqDiff, reduceIte, Int.reduceToNat, Int.reduceLT, Int.reduceLE, Int.reduceEq, Int.reduceNeg, reduceCtorEq, Int.reduceBEq, Int.reduceBNe])
      | false =>
        simp only [Bool.false_eq_true, if_false]
        repeat (first | refine go_on ?_ | simp only [go_sem, e1])
        refine tri_condF ?_
        repeat (first | refine go_on ?_ | simp only [go_sem, e3])
        refine tri_condF ?_
        try refine go_on ?_
        refine ⟨_, by first | rfl | exact evd, .inr ⟨.sl 0 true [], evd, trivial, Wk.empty _ _ _⟩⟩
  · rw [if_neg (fun h => h0 h.1)]
    cases b with
    | false => exact absurd (hb rfl) h0
    | true =>
      have e3 : (((someA bits i).length : Int) == 0) = false := by
        rw [← Bool.not_eq_true, beq_iff_eq]
        have := List.length_pos_iff.2 h0
        omega
      simp only [if_true]
      repeat (first | refine go_on ?_ | simp only [go_sem, e1])
      refine tri_condF ?_
      repeat (first | refine go_on ?_ | simp only [go_sem, e3])
      refine tri_condF ?_
      try refine go_on ?_
      refine ⟨_, (by first | rfl | exact evd), .inl ?_⟩; (try simp only [go_sem, Nat.reduceAdd, Nat.reduceSub, Nat.reduceMul, Nat.reduceLT, Nat.reduceLeDiff, Nat.reduceEqDiff, reduceIte, Int.reduceToNat, Int.reduceLT, Int.reduceLE, Int.reduceEq, Int.reduceNeg, reduceCtorEq, Int.reduceBEq, Int.reduceBNe])
theorem slashing_walk (n : Nat) (k : Int) (hn : n ≤ 1000000) : ∃ a1 a2 b1 b2 : Int, ∃ r1 r2 : Rt, ∃ l m : List Int, l.length ≤ n ∧ m.length ≤ n ∧
    PC Try.prog 28 [.int .i64 n, .int .i64 k] (.agg (slgC ⟨⟨a1, a2, r1, .sl 1 false (nums .i64 l)⟩, ⟨b1, b2, r2, .sl 1 false (nums .i64 m)⟩⟩)) := by
  have R2 := brt_walk 2
  have R3 := brt_walk 3
  have S1 := some_walk n k hn
  have S2 := some_walk n (ishr .i64 k 6) hn
  have l1 := someL_len n k
  have l2 := someL_len n (ishr .i64 k 6)
  generalize rootN 2 = r2 at *
  generalize rootN 3 = r3 at *
  generalize someL n k = A at *
  generalize someL n (ishr .i64 k 6) = B at *
  by_cases q0 : (ishr .i64 k 12).tmod 8 = 0
  · refine ⟨2, 4, 1, 5, r2, r2, B, A, l2, l1, PC.fact 6 f_base_Slashing (by simp) ⟨trivial, trivial, trivial⟩ ((PuL_slgC _).2 ⟨Pu_nums _ _, Pu_nums _ _⟩) ?_⟩
    unfold c_base_Slashing
    try refine go_on ?_
    refine pcall R2 ?_
    try refine go_on ?_
    refine pcall S1 ?_
    try refine go_on ?_
    refine pcall R2 ?_
    try refine go_on ?_
    refine pcall S2 ?_
    have n0 : ((ishr .i64 k 12).tmod 8 == 0) = true := by simp [q0]
    repeat (first | refine go_on ?_ | simp only [go_sem, n0])
    refine tri_condT ?_
    try refine go_on ?_
    refine ⟨_, (by first | rfl | exact evd), .inl ?_⟩; (try simp only [go_sem, Nat.reduceAdd, Nat.reduceSub, Nat.reduceMul, Nat.reduceLT, Nat.reduceLeDiff, Nat.reduceEqDiff, reduceIte, Int.reduceToNat, Int.reduceLT, Int.reduceLE, Int.reduceEq, Int.reduceNeg, reduceCtorEq, Int.reduceBEq, Int.reduceBNe])
  by_cases q1 : (ishr .i64 k 12).tmod 8 = 1
  · refine ⟨1, 5, 2, 5, r2, r2, A, B, l1, l2, PC.fact 6 f_base_Slashing (by simp) ⟨trivial, trivial, trivial⟩ ((PuL_slgC _).2 ⟨Pu_nums _ _, Pu_nums _ _⟩) ?_⟩
    unfold c_base_Slashing
    try refine go_on ?_
    refine pcall R2 ?_
    try refine go_on ?_
    refine pcall S1 ?_
    try refine go_on ?_
    refine pcall R2 ?_
    try refine go_on ?_
    refine pcall S2 ?_
    have n0 : ((ishr .i64 k 12).tmod 8 == 0) = false := by simp [q0]
    repeat (first | refine go_on ?_ | simp only [go_sem, n0])
    refine tri_condF ?_
    have n1 : ((ishr .i64 k 12).tmod 8 == 1) = true := by simp [q1]
    repeat (first | refine go_on ?_ | simp only [go_sem, n0, n1])
    refine tri_condT ?_
    try refine go_on ?_
    refine ⟨_, (by first | rfl | exact evd), .inl ?_⟩; (try simp only [go_sem, Nat.reduceAdd, Nat.reduceSub, Nat.reduceMul, Nat.reduceLT, Nat.reduceLeDiff, Nat.reduceEqDiff, reduceIte, Int.reduceToNat, Int.reduceLT, Int.reduceLE, Int.reduceEq, Int.reduceNeg, reduceCtorEq, Int.reduceBEq, Int.reduceBNe])
  by_cases q2 : (ishr .i64 k 12).tmod 8 = 2
  · refine ⟨1, 5, 1, 5, r2, r2, A, A, l1, l1, PC.fact 6 f_base_Slashing (by simp) ⟨trivial, trivial, trivial⟩ ((PuL_slgC _).2 ⟨Pu_nums _ _, Pu_nums _ _⟩) ?_⟩
    unfold c_base_Slashing
    try refine go_on ?_
    refine pcall R2 ?_
    try refine go_on ?_
    refine pcall S1 ?_
    try refine go_on ?_
    refine pcall R2 ?_
    try refine go_on ?_
    refine pcall S2 ?_
    have n0 : ((ishr .i64 k 12).tmod 8 == 0) = false := by simp [q0]
    repeat (first | refine go_on ?_ | simp only [go_sem, n0])
    refine tri_condF ?_
    have n1 : ((ishr .i64 k 12).tmod 8 == 1) = false := by simp [q1]
    repeat (first | refine go_on ?_ | simp only [go_sem, n0, n1])
    refine tri_condF ?_
    have n2 : ((ishr .i64 k 12).tmod 8 == 2) = true := by simp [q2]
    repeat (first | refine go_on ?_ | simp only [go_sem, n0, n1, n2])
    refine tri_condT ?_
    try refine go_on ?_
    refine ⟨_, (by first | rfl | exact evd), .inl ?_⟩; (try simp only [go_sem, Nat.reduceAdd, Nat.reduceSub, Nat.reduceMul, Nat.reduceLT, Nat.reduceLeDiff, Nat.reduceEqDiff, reduceIte, Int.reduceToNat, Int.reduceLT, Int.reduceLE, Int.reduceEq, Int.reduceNeg, reduceCtorEq, Int.reduceBEq, Int.reduceBNe])
  by_cases q3 : (ishr .i64 k 12).tmod 8 = 3
  · refine ⟨1, 5, 6, 4, r2, r2, A, B, l1, l2, PC.fact 6 f_base_Slashing (by simp) ⟨trivial, trivial, trivial⟩ ((PuL_slgC _).2 ⟨Pu_nums _ _, Pu_nums _ _⟩) ?_⟩
    unfold c_base_Slashing
    try refine go_on ?_
    refine pcall R2 ?_
    try refine go_on ?_
    refine pcall S1 ?_
    try refine go_on ?_
    refine pcall R2 ?_
    try refine go_on ?_
    refine pcall S2 ?_
    have n0 : ((ishr .i64 k 12).tmod 8 == 0) = false := by simp [q0]
    repeat (first | refine go_on ?_ | simp only [go_sem, n0])
    refine tri_condF ?_
    have n1 : ((ishr .i64 k 12).tmod 8 == 1) = false := by simp [q1]
    repeat (first | refine go_on ?_ | simp only [go_sem, n0, n1])
    refine tri_condF ?_
    have n2 : ((ishr .i64 k 12).tmod 8 == 2) = false := by simp [q2]
    repeat (first | refine go_on ?_ | simp only [go_sem, n0, n1, n2])
    refine tri_condF ?_
    have n3 : ((ishr .i64 k 12).tmod 8 == 3) = true := by simp [q3]
    repeat (first | refine go_on ?_ | simp only [go_sem, n0, n1, n2, n3])
    refine tri_condT ?_
    try refine go_on ?_
    refine ⟨_, (by first | rfl | exact evd), .inl ?_⟩; (try simp only [go_sem, Nat.reduceAdd, Nat.reduceSub, Nat.reduceMul, Nat.reduceLT, Nat.reduceLeDiff, Nat.reduceEqDiff, reduceIte, Int.reduceToNat, Int.reduceLT, Int.reduceLE, Int.reduceEq, Int.reduceNeg, reduceCtorEq, Int.reduceBEq, Int.reduceBNe])
  by_cases q4 : (ishr .i64 k 12).tmod 8 = 4
  · refine ⟨1, 5, 1, 5, r2, r3, A, B, l1, l2, PC.fact 6 f_base_Slashing (by simp) ⟨trivial, trivial, trivial⟩ ((PuL_slgC _).2 ⟨Pu_nums _ _, Pu_nums _ _⟩) ?_⟩
    unfold c_base_Slashing
    try refine go_on ?_
    refine pcall R2 ?_
    try refine go_on ?_
    refine pcall S1 ?_
    try refine go_on ?_
    refine pcall R2 ?_
    try refine go_on ?_
    refine pcall S2 ?_
    have n0 : ((ishr .i64 k 12).tmod 8 == 0) = false := by simp [q0]
    repeat (first | refine go_on ?_ | simp only [go_sem, n0])
    refine tri_condF ?_
    have n1 : ((ishr .i64 k 12).tmod 8 == 1) = false := by simp [q1]
    repeat (first | refine go_on ?_ | simp only [go_sem, n0, n1])
    refine tri_condF ?_
    have n2 : ((ishr .i64 k 12).tmod 8 == 2) = false := by simp [q2]
    repeat (first | refine go_on ?_ | simp only [go_sem, n0, n1, n2])
    refine tri_condF ?_
    have n3 : ((ishr .i64 k 12).tmod 8 == 3) = false := by simp [q3]
    repeat (first | refine go_on ?_ | simp only [go_sem, n0, n1, n2, n3])
    refine tri_condF ?_
    have n4 : ((ishr .i64 k 12).tmod 8 == 4) = true := by simp [q4]
    repeat (first | refine go_on ?_ | simp only [go_sem, n0, n1, n2, n3, n4])
    refine tri_condT ?_
    try refine go_on ?_
    refine pcall R3 ?_
    try refine go_on ?_
    refine ⟨_, (by first | rfl | exact evd), .inl ?_⟩; (try simp only [go_sem, Nat.reduceAdd, Nat.reduceSub, Nat.reduceMul, Nat.reduceLT, Nat.reduceLeDiff, Nat.reduceEqDiff, reduceIte, Int.reduceToNat, Int.reduceLT, Int.reduceLE, Int.reduceEq, Int.reduceNeg, reduceCtorEq, Int.reduceBEq, Int.reduceBNe])
  refine ⟨1, 5, 2, 4, r2, r2, A, B, l1, l2, PC.fact 6 f_base_Slashing (by simp) ⟨trivial, trivial, trivial⟩ ((PuL_slgC _).2 ⟨Pu_nums _ _, Pu_nums _ _⟩) ?_⟩
  unfold c_base_Slashing
  try refine go_on ?_
  refine pcall R2 ?_
  try refine go_on ?_
  refine pcall S1 ?_
  try refine go_on ?_
  refine pcall R2 ?_
  try refine go_on ?_
  refine pcall S2 ?_
  have n0 : ((ishr .i64 k 12).tmod 8 == 0) = false := by simp [q0]
  repeat (first | refine go_on ?_ | simp only [go_sem, n0])
  refine tri_condF ?_
  have n1 : ((ishr .i64 k 12).tmod 8 == 1) = false := by simp [q1]
  repeat (first | refine go_on ?_ | simp only [go_sem, n0, n1])
  refine tri_condF ?_
  have n2 : ((ishr .i64 k 12).tmod 8 == 2) = false := by simp [q2]
  repeat (first | refine go_on ?_ | simp only [go_sem, n0, n1, n2])
  refine tri_condF ?_
  have n3 : ((ishr .i64 k 12).tmod 8 == 3) = false := by simp [q3]
  repeat (first | refine go_on ?_ | simp only [go_sem, n0, n1, n2, n3])
  refine tri_condF ?_
  have n4 : ((ishr .i64 k 12).tmod 8 == 4) = false := by simp [q4]
  repeat (first | refine go_on ?_ | simp only [go_sem, n0, n1, n2, n3, n4])
  refine tri_condF ?_
  try refine go_on ?_
  refine ⟨_, (by first | rfl | exact evd), .inl ?_⟩; (try simp only [go_sem, Nat.reduceAdd, Nat.reduceSub, Nat.reduceMul, Nat.reduceLT, Nat.reduceLeDiff, Nat.reduceEqDiff, reduceIte, Int.reduceToNat, Int.reduceLT, Int.reduceLE, Int.reduceEq, Int.reduceNeg, reduceCtorEq, Int.reduceBEq, Int.reduceBNe])
theorem built_loop (x : Slg) (l m R : List Int) (n k E : Int) (hx : x.fst.vals = .sl 1 false (nums .i64 l)) (hy : x.snd.vals = .sl 1 false (nums .i64 m)) (hl : l.length ≤ 100) (hm : m.length ≤ 100)
    (hR : ∀ v, v ∈ R → v ∈ l ∧ v ∈ m) (hRl : R.length ≤ 100) :
    Tri Try.prog 70 0 (c_law9_EquivocationBuilt.tl 6) (PQ [.tmp 4] (.bool true)) ⟨9, [.int .i64 n, .int .i64 k, .dead, .dead, .bool false, .ptr 0 0, .int .i64 E, .sl 1 false (nums .i64 R), .dead], []⟩ [.var (slgC x)] := by
  obtain ⟨⟨a1, a2, r1, v1⟩, ⟨b1, b2, r2, v2⟩⟩ := x
  dsimp only at hx hy
  subst hx hy
  unfold c_law9_EquivocationBuilt
  simp only [ACode.tl]
  try refine go_on ?_
  refine tri_loopG (fun i : Nat => ⟨9, [.int .i64 n, .int .i64 k, .dead, .dead, .bool false, .ptr 0 0, .int .i64 E, .sl 1 false (nums .i64 R), .int .i64 i], []⟩) (fun _ => [.var (slgC ⟨⟨a1, a2, r1, .sl 1 false (nums .i64 l)⟩, ⟨b1, b2, r2, .sl 1 false (nums .i64 m)⟩⟩)]) (fun i => R.length - i) (fun i => i ≤ R.length) 0 (Nat.zero_le _) ?_ ?_
  · refine GC.mk' [] [0] (by simp) rfl (by simp) (by simp) evd evd
  intro i hi
  by_cases h1 : i < R.length
  · have hgd := gd_nums (k := .i64) h1
    have e1 : decide ((i : Int) < (R.length : Int)) = true := decide_eq_true (by omega)
    have hw := wrap_i64_succ h1 (by omega)
    have hmem : R.getD i 0 ∈ R := by rw [List.getD_eq_getElem?_getD, List.getElem?_eq_getElem h1]; exact List.getElem_mem h1
    have w1 := has_walk l false (R.getD i 0) (by omega)
    have w2 := has_walk m false (R.getD i 0) (by omega)
    rw [decide_eq_true (hR _ hmem).1] at w1
    rw [decide_eq_true (hR _ hmem).2] at w2
    generalize R.getD i 0 = v at *
    repeat (first | refine go_on ?_ | simp only [go_sem, e1, hgd, Nat.mul_one])
    refine tri_condT ?_
    repeat (first | refine go_on ?_ | simp only [go_sem, hgd, Nat.mul_one])
    refine dpcall (w1) ?_
    repeat (first | refine go_on ?_ | simp only [go_sem, hgd, Nat.mul_one])
    refine dpcall (w2) ?_
    try refine go_on ?_
    refine tri_condF ?_
    repeat (first | refine go_on ?_ | simp only [go_sem, hw])
    refine ⟨i + 1, h1, by omega, ?_⟩
    refine GC.mk' [] [0] (by simp) rfl (by simp) (by simp) evd evd
  · have e1 : decide ((i : Int) < (R.length : Int)) = false := decide_eq_false (by omega)
    repeat (first | refine go_on ?_ | simp only [go_sem, e1])
    refine tri_condF ?_
    try refine go_on ?_
    refine pcall awake9_walk ?_
    try refine go_on ?_
    refine ⟨_, (by first | rfl | exact evd), .inl ?_⟩; (try simp only [go_sem, Nat.reduceAdd, Nat.reduceSub, Nat.reduceMul, Nat.reduceLT, Nat.reduceLeDiff, Nat.reduceEqDiff, reduceIte, Int.reduceToNat, Int.reduceLT, Int.reduceLE, Int.reduceEq, Int.reduceNeg, reduceCtorEq, Int.reduceBEq, Int.reduceBNe])
theorem pc_EquivocationBuilt (n : Int) (hn : (Lit.int .i64 n).wf = true) (k : Int) (hk : (Lit.int .i64 k).wf = true) : PC Try.prog 7 [.int .i64 n, .int .i64 k] (.bool true) := by
  obtain ⟨m, hm, hm7⟩ := iand_le9 n 7 (by decide) (by decide)
  obtain ⟨K, hK, hK7⟩ := iand_le9 k 16777215 (by decide) (by decide)
  have hw : IntKind.i64.wrap (1 + (m : Int)) = ((m + 1 : Nat) : Int) := by rw [wrap_i64_in (by omega) (by omega)]; omega
  obtain ⟨a1, a2, b1, b2, r1, r2, l, l', hl, hl', sw⟩ := slashing_walk (m + 1) (K : Int) (by omega)
  have k1 := valid_walk ⟨⟨a1, a2, r1, .sl 1 false (nums .i64 l)⟩, ⟨b1, b2, r2, .sl 1 false (nums .i64 l')⟩⟩ l l' false false ((m + 1 : Nat) : Int) rfl rfl (by omega) (by omega)
  have k2 := rvalid_walk ⟨⟨a1, a2, r1, .sl 1 false (nums .i64 l)⟩, ⟨b1, b2, r2, .sl 1 false (nums .i64 l')⟩⟩ l l' false false ((m + 1 : Nat) : Int) rfl rfl (by omega) (by omega)
  have k3 := culp_walk ⟨⟨a1, a2, r1, .sl 1 false (nums .i64 l)⟩, ⟨b1, b2, r2, .sl 1 false (nums .i64 l')⟩⟩ l l' false false rfl rfl (by omega) (by omega)
  have k4 := rculp_walk ⟨⟨a1, a2, r1, .sl 1 false (nums .i64 l)⟩, ⟨b1, b2, r2, .sl 1 false (nums .i64 l')⟩⟩ l l' false false rfl rfl (by omega) (by omega)
  have hR := culR_len l l' l.length
  have hS := fun v => ((culR_spec l l' l.length (Nat.le_refl _)).2 v).1
  have hE : evE ⟨⟨a1, a2, r1, .sl 1 false (nums .i64 l)⟩, ⟨b1, b2, r2, .sl 1 false (nums .i64 l')⟩⟩ l l' ((m + 1 : Nat) : Int) = 0 → culR l l' l.length ≠ [] := by
    intro h hc
    unfold evE at h
    repeat' split at h
    all_goals first | omega | (rename_i q; exact q (.inr hc)) | skip
  have tl := fun E => built_loop ⟨⟨a1, a2, r1, .sl 1 false (nums .i64 l)⟩, ⟨b1, b2, r2, .sl 1 false (nums .i64 l')⟩⟩ l l' (culR l l' l.length) ((m + 1 : Nat) : Int) (K : Int) E rfl rfl (by omega) (by omega) (fun v hv => by have := hS v hv; rwa [List.take_length] at this) (by omega)
  generalize evE ⟨⟨a1, a2, r1, .sl 1 false (nums .i64 l)⟩, ⟨b1, b2, r2, .sl 1 false (nums .i64 l')⟩⟩ l l' ((m + 1 : Nat) : Int) = E at *
  generalize culR l l' l.length = R at *
  have ks := same_int_walk R R false false (by omega) (by omega)
  rw [decide_eq_true rfl] at ks
  refine PC.fact 9 f_law9_EquivocationBuilt (by simp) ⟨trivial, trivial, trivial⟩ trivial ?_
  have hc : c_law9_EquivocationBuilt = .seq c_law9_EquivocationBuilt.hd (.seq (c_law9_EquivocationBuilt.tl 1).hd (.seq (c_law9_EquivocationBuilt.tl 2).hd (.seq (c_law9_EquivocationBuilt.tl 3).hd (.seq (c_law9_EquivocationBuilt.tl 4).hd (.seq (c_law9_EquivocationBuilt.tl 5).hd (c_law9_EquivocationBuilt.tl 6)))))) := rfl
  rw [hc]
  clear hc
  replace tl := tl E
  generalize c_law9_EquivocationBuilt.tl 6 = cT at *
  unfold c_law9_EquivocationBuilt
  simp only [ACode.tl, ACode.hd]
  repeat (first | refine go_on ?_ | simp only [go_sem, hm, hK, hw])
  refine pcall sw ?_
  try refine go_on ?_
  refine pcall k1 ?_
  try refine go_on ?_
  refine pcall k3 ?_
  try refine go_on ?_
  refine pcall k2 ?_
  try refine go_on ?_
  refine pcall k4 ?_
  try refine go_on ?_
  refine pcall ks ?_
  by_cases hz : E = 0
  · have e1 : (E == 0) = true := by simp [hz]
    have e2 : ((R.length : Int) == 0) = false := by
      rw [← Bool.not_eq_true, beq_iff_eq]
      have := List.length_pos_iff.2 (hE hz)
      omega
    repeat (first | refine go_on ?_ | simp only [go_sem, e1, e2])
    refine tri_condF ?_
    try refine go_on ?_
    refine tri_gc ?_ tl
    refine GC.mk' [] [0] (by simp) rfl (by simp) (by simp) evd evd
  · have e1 : (E == 0) = false := by simp [hz]
    repeat (first | refine go_on ?_ | simp only [go_sem, e1])
    refine tri_condF ?_
    try refine go_on ?_
    refine tri_gc ?_ tl
    refine GC.mk' [] [0] (by simp) rfl (by simp) (by simp) evd evd
end Go.Proofs.Ytdkahoohedljhaa
