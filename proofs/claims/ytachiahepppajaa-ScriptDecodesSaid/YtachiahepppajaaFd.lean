/-
  The law RecordsDecodes.
-/
import Derived.Test.YtachiahepppajaaMj
import Derived.Test.YtachiahepppajaaMc
namespace Go.Proofs.Ytachiahepppajaa
open Go Go.FH Go.RowKit
set_option linter.unusedVariables false
set_option linter.unusedSimpArgs false

theorem same_attL (x : Int × Rt × Cp × List Int) (h : x.2.2.2.length ≤ 140737488355328) : PC Try.prog 49 [.agg (attC (attL x)), .agg (attC (attL x))] (.bool true) := by
  have := same_att (attL x) (attL x) x.2.2.2 x.2.2.2 false false rfl rfl h h
  simpa using this
theorem same_slgL (x : Sv) (h1 : x.1.2.2.2.length ≤ 140737488355328) (h2 : x.2.2.2.2.length ≤ 140737488355328) : PC Try.prog 54 [.agg (slgC (slgL x)), .agg (slgC (slgL x))] (.bool true) := by
  have := same_slg (slgL x) (slgL x) x.1.2.2.2 x.2.2.2.2 x.1.2.2.2 x.2.2.2.2 false false false false rfl rfl rfl rfl h1 h2 h1 h2
  simpa using this
theorem same_tabL (x : Tv) (h : x.2.length ≤ 140737488355328) : PC Try.prog 59 [.agg (tabC (tabL x)), .agg (tabC (tabL x))] (.bool true) := by
  have := same_tab (tabL x) (tabL x) x.2 x.2 false false rfl rfl h h
  simpa using this
theorem rNums_cnt : ∀ (n : Nat) (acc : List Int) (bs : List UInt8) (e : Int), (rNums n acc bs e).1.length ≤ acc.length + n
  | 0, _, _, _ => Nat.le_refl _
  | n + 1, acc, bs, e => by
    rw [rNums]
    split
    · simp only; omega
    · have := rNums_cnt n (acc ++ [(rUint bs e maxU).1]) (rUint bs e maxU).2.1 (rUint bs e maxU).2.2
      simp only [List.length_append, List.length_cons, List.length_nil] at this
      omega
theorem rTab_cnt (b : List UInt8) (e : Int) : (rTab b e).1.2.length ≤ 1024 := by
  unfold rTab
  simp only
  have h1 := rNums_cnt (rUint (rRoot (rUint b e maxU).2.1 (rUint b e maxU).2.2).2.1 (rRoot (rUint b e maxU).2.1 (rUint b e maxU).2.2).2.2 1024).1.toNat [] (rUint (rRoot (rUint b e maxU).2.1 (rUint b e maxU).2.2).2.1 (rRoot (rUint b e maxU).2.1 (rUint b e maxU).2.2).2.2 1024).2.1 (rUint (rRoot (rUint b e maxU).2.1 (rUint b e maxU).2.2).2.1 (rRoot (rUint b e maxU).2.1 (rUint b e maxU).2.2).2.2 1024).2.2
  have h2 := rUint_le (rRoot (rUint b e maxU).2.1 (rUint b e maxU).2.2).2.1 (rRoot (rUint b e maxU).2.1 (rUint b e maxU).2.2).2.2 1024 (by omega)
  simp only [List.length_nil] at h1
  omega
theorem decA_cnt (b : List UInt8) : (decA b.length (rAtt b 0)).1.2.2.2.length ≤ 1024 := by
  unfold decA
  have h : (rAtt b 0).1.2.2.2.length ≤ 1024 := rList_cnt _ _
  (repeat' split) <;> first | exact h | simp [attZ]
theorem decS_cnt (b : List UInt8) : (decS b.length (rSlg b 0)).1.1.2.2.2.length ≤ 1024 ∧ (decS b.length (rSlg b 0)).1.2.2.2.2.length ≤ 1024 := by
  unfold decS
  have h1 : (rSlg b 0).1.1.2.2.2.length ≤ 1024 := rClm_cnt _ _
  have h2 : (rSlg b 0).1.2.2.2.2.length ≤ 1024 := rClm_cnt _ _
  (repeat' split) <;> first | exact ⟨h1, h2⟩ | simp [slgZ, clmZ]
theorem decT_cnt (b : List UInt8) : (dec tabZ b.length (rTab b 0)).1.2.length ≤ 1024 := by
  unfold dec
  have h := rTab_cnt b 0
  split <;> first | exact h | simp [tabZ]

theorem attL_map (x : Int × Rt × Cp × List Int) (ρ : Nat → Nat) : (attL x).map (ren ρ) = attL x := by simp only [attL, Att.map, ren, renLL_nums]
theorem attL_fz (x : Int × Rt × Cp × List Int) (σ : St) (zs : List Nat) : (attL x).map (fz σ zs) = attL x := by simp only [attL, Att.map, fz, fzLL_nums]
theorem attL_good (x : Int × Rt × Cp × List Int) : (attL x).good = true := rfl
theorem slgL_map (x : Sv) (ρ : Nat → Nat) : (slgL x).map (ren ρ) = slgL x := by simp only [slgL, Slg.map, clmL_map]
theorem slgL_fz (x : Sv) (σ : St) (zs : List Nat) : (slgL x).map (fz σ zs) = slgL x := by simp only [slgL, Slg.map, clmL_fz]
theorem slgL_good (x : Sv) : (slgL x).good = true := rfl
attribute [go_sem] attL_map attL_fz attL_good slgL_map slgL_fz slgL_good

set_option maxRecDepth 100000 in
set_option maxHeartbeats 4000000 in
theorem pc_RecordsDecodes (b : List UInt8) (hb : b.length ≤ maxLen) : PC Try.prog 14 [.sl 1 false (bts b)] (.bool true) := by
  refine PC.fact 21 f_law5_RecordsDecodes (by simp) ⟨Pu_bts _, trivial⟩ trivial ?_
  unfold c_law5_RecordsDecodes
  by_cases h : 2000 < b.length
  · have h' : decide ((2000 : Int) < (b.length : Int)) = true := by rw [decide_eq_true_eq]; omega
    try refine go_on ?_
    refine tri_condT ?_ (by (try simp only [go_sem, h']); try exact evd)
    try refine go_on ?_
    refine pcall awake5_walk ?_
    try refine go_on ?_
    refine ⟨_, (by first | rfl | exact evd), .inl ?_⟩; (try simp only [go_sem, Nat.reduceAdd, Nat.reduceSub, Nat.reduceMul, Nat.reduceLT, Nat.reduceLeDiff, Nat.reduceEqDiff, reduceIte, Int.reduceToNat, Int.reduceLT, Int.reduceLE, Int.reduceEq, Int.reduceNeg, reduceCtorEq, Int.reduceBEq, Int.reduceBNe])
  · have h' : decide ((2000 : Int) < (b.length : Int)) = false := by rw [decide_eq_false_iff_not]; omega
    have d1 := rdec_blk b (by omega)
    have d2 := sdec_blk b (by omega)
    have d3 := rdec_att b (by omega)
    have d4 := sdec_att b (by omega)
    have d5 := rdec_slg b (by omega)
    have d6 := sdec_slg b (by omega)
    have d7 := rdec_tab b (by omega)
    have d8 := sdec_tab b (by omega)
    have d9 := rdec_vdt b (by omega)
    have d10 := sdec_vdt b (by omega)
    have n1 := decA_cnt b
    have n2 := decS_cnt b
    have n3 := decT_cnt b
    generalize dec blk0 b.length (rBlk b 0) = X1 at *
    generalize decA b.length (rAtt b 0) = X2 at *
    generalize decS b.length (rSlg b 0) = X3 at *
    generalize dec tabZ b.length (rTab b 0) = X4 at *
    generalize decV b.length (rVdt b 0) = X5 at *
    obtain ⟨x1, k1, e1⟩ := X1
    obtain ⟨x2, k2, e2⟩ := X2
    obtain ⟨x3, k3, e3⟩ := X3
    obtain ⟨x4, k4, e4⟩ := X4
    obtain ⟨x5, k5, e5⟩ := X5
    dsimp only at d1 d2 d3 d4 d5 d6 d7 d8 d9 d10 n1 n2 n3
    have m2 := same_attL x2 (by omega)
    have m3 := same_slgL x3 (by omega) (by omega)
    have m4 := same_tabL x4 (by omega)
    try refine go_on ?_
    refine tri_condF ?_ (by (try simp only [go_sem, h']); try exact evd)
    try refine go_on ?_
    refine pcall d1 ?_
    try refine go_on ?_
    refine pcall d2 ?_
    try refine go_on ?_
    refine tri_condF ?_
    try refine go_on ?_
    refine pcall d3 ?_
    try refine go_on ?_
    refine pcall d4 ?_
    try refine go_on ?_
    refine pcall m2 ?_
    try refine go_on ?_
    refine tri_condF ?_
    try refine go_on ?_
    refine pcall d5 ?_
    try refine go_on ?_
    refine pcall d6 ?_
    try refine go_on ?_
    refine pcall m3 ?_
    try refine go_on ?_
    refine tri_condF ?_
    try refine go_on ?_
    refine pcall d7 ?_
    try refine go_on ?_
    refine pcall d8 ?_
    try refine go_on ?_
    refine pcall m4 ?_
    try refine go_on ?_
    refine tri_condF ?_
    try refine go_on ?_
    refine pcall d9 ?_
    try refine go_on ?_
    refine pcall d10 ?_
    try refine go_on ?_
    refine pcall awake5_walk ?_
    try refine go_on ?_
    refine ⟨_, (by first | rfl | exact evd), .inl ?_⟩; (try simp only [go_sem, Nat.reduceAdd, Nat.reduceSub, Nat.reduceMul, Nat.reduceLT, Nat.reduceLeDiff, Nat.reduceEqDiff, reduceIte, Int.reduceToNat, Int.reduceLT, Int.reduceLE, Int.reduceEq, Int.reduceNeg, reduceCtorEq, Int.reduceBEq, Int.reduceBNe])
end Go.Proofs.Ytachiahepppajaa
