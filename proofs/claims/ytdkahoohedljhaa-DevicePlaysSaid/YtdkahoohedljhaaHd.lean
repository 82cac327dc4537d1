/-
  The law DeviceNew.
-/
import Derived.Test.YtdkahoohedljhaaHc
import Derived.Test.YtdkahoohedljhaaMc
namespace Go.Proofs.Ytdkahoohedljhaa
open Go Go.FH Go.RowKit
set_option linter.unusedVariables false
set_option linter.unusedSimpArgs false

/-- What is left of a sequence behind its first parts. -/
def _root_.Go.FH.ACode.tl : Nat → ACode → ACode
  | 0, c => c
  | n + 1, .seq _ b => b.tl n
  | _ + 1, c => c

theorem dn_tail (n : Int) (bs : List UInt8) (h : bs.length ≤ 2000) (ts : List (Nat × AV)) : Tri Try.prog 113 0 (c_law31_DeviceNew.tl 4) (PQ [.tmp 4] (.bool true)) ⟨9, [.int .i64 n, .sl 1 false (bts bs), .dead, .dead, .bool false, .dead, .dead, .dead, .dead], ts⟩ [] := by
  unfold c_law31_DeviceNew
  simp only [ACode.tl]
  have q2 := rem64 bs.length
  have q1 := quo64 (n := bs.length) (by omega)
  by_cases h0 : bs.length = 0
  · have c1 := open_bad bs false (by omega) (.inr (.inl (by omega)))
    have e1 : (((bs.length : Nat) : Int) == 0) = true := by rw [beq_iff_eq]; omega
    try refine go_on ?_
    refine pcall c1 ?_
    repeat (first | refine go_on ?_ | simp only [go_sem, e1])
    refine tri_condT ?_
    try refine go_on ?_
    refine pcall awake31_walk ?_
    try refine go_on ?_
    refine ⟨_, (by first | rfl | exact evd), .inl ?_⟩; (try simp only [go_sem, Nat.reduceAdd, Nat.reduceSub, Nat.reduceMul, Nat.reduceLT, Nat.reduceLeDiff, Nat.reduceEqDiff, reduceIte, Int.reduceToNat, Int.reduceLT, Int.reduceLE, Int.reduceEq, Int.reduceNeg, reduceCtorEq, Int.reduceBEq, Int.reduceBNe])
  have e1 : (((bs.length : Nat) : Int) == 0) = false := by rw [← Bool.not_eq_true, beq_iff_eq]; omega
  by_cases h1 : bs.length % 64 = 0
  · have e2 : ((((bs.length % 64 : Nat) : Int)) != 0) = false := by rw [← Bool.not_eq_true, bne_iff_ne]; omega
    have c1 := open_ok bs false h1 (by omega) (by omega)
    try refine go_on ?_
    refine ocall [] (c1) evd (Picks.mk' (by simp) evd) ?_; refine evg ?_
    repeat (first | refine go_on ?_ | simp only [go_sem, q2, e1, e2])
    refine tri_condF ?_
    repeat (first | refine go_on ?_ | simp only [go_sem, q1, q2])
    refine dcallr [0, 1] (image_walk bs false false 0 0 (by omega)) evd (Picks.mk' (by simp) evd) ?_; refine evg ?_
    repeat (first | refine go_on ?_ | simp only [go_sem, q1])
    refine dcallr [0, 1] (sectors_walk bs false false 0 0 (by omega)) evd (Picks.mk' (by simp) evd) ?_; refine evg ?_
    repeat (first | refine go_on ?_ | simp only [go_sem, q1])
    refine dcallr [0, 1] (crashed_walk bs false false 0 0) evd (Picks.mk' (by simp) evd) ?_; refine evg ?_
    try refine go_on ?_
    refine dpcall (awake31_walk) ?_
    try refine go_on ?_
    refine ⟨_, (by first | rfl | exact evd), .inl ?_⟩; (try simp only [go_sem, Nat.reduceAdd, Nat.reduceSub, Nat.reduceMul, Nat.reduceLT, Nat.reduceLeDiff, Nat.reduceEqDiff, reduceIte, Int.reduceToNat, Int.reduceLT, Int.reduceLE, Int.reduceEq, Int.reduceNeg, reduceCtorEq, Int.reduceBEq, Int.reduceBNe])
  · have e2 : ((((bs.length % 64 : Nat) : Int)) != 0) = true := by rw [bne_iff_ne]; omega
    have c1 := open_bad bs false (by omega) (.inl h1)
    try refine go_on ?_
    refine pcall c1 ?_
    repeat (first | refine go_on ?_ | simp only [go_sem, q2, e1, e2])
    refine tri_condT ?_
    try refine go_on ?_
    refine pcall awake31_walk ?_
    try refine go_on ?_
    refine ⟨_, (by first | rfl | exact evd), .inl ?_⟩; (try simp only [go_sem, Nat.reduceAdd, Nat.reduceSub, Nat.reduceMul, Nat.reduceLT, Nat.reduceLeDiff, Nat.reduceEqDiff, reduceIte, Int.reduceToNat, Int.reduceLT, Int.reduceLE, Int.reduceEq, Int.reduceNeg, reduceCtorEq, Int.reduceBEq, Int.reduceBNe])
theorem pc_DeviceNew (n : Int) (hn : (Lit.int .i64 n).wf = true) (bs : List UInt8) (hb : bs.length ≤ maxLen) : PC Try.prog 11 [.int .i64 n, .sl 1 false (bts bs)] (.bool true) := by
  refine PC.fact 9 f_law31_DeviceNew (by simp) ⟨trivial, Pu_bts bs, trivial⟩ trivial ?_
  have tl := dn_tail n bs
  unfold c_law31_DeviceNew at tl ⊢
  simp only [ACode.tl] at tl
  by_cases h1 : bs.length > 2000
  · have e1 : decide ((bs.length : Int) > 2000) = true := decide_eq_true (by omega)
    repeat (first | refine go_on ?_ | simp only [go_sem, e1])
    refine tri_condT ?_
    try refine go_on ?_
    refine pcall awake31_walk ?_
    try refine go_on ?_
    refine ⟨_, (by first | rfl | exact evd), .inl ?_⟩; (try simp only [go_sem, Nat.reduceAdd, Nat.reduceSub, Nat.reduceMul, Nat.reduceLT, Nat.reduceLeDiff, Nat.reduceEqDiff, reduceIte, Int.reduceToNat, Int.reduceLT, Int.reduceLE, Int.reduceEq, Int.reduceNeg, reduceCtorEq, Int.reduceBEq, Int.reduceBNe])
  have e1 : decide ((bs.length : Int) > 2000) = false := decide_eq_false (by omega)
  replace tl := tl (by omega)
  by_cases h2 : n > 200
  · have e2 : decide (n > 200) = true := decide_eq_true h2
    by_cases h3 : n ≤ 32768
    · have e3 : decide (n ≤ 32768) = true := decide_eq_true h3
      repeat (first | refine go_on ?_ | simp only [go_sem, e1, e2, e3])
      refine tri_condT ?_
      try refine go_on ?_
      refine pcall awake31_walk ?_
      try refine go_on ?_
      refine ⟨_, (by first | rfl | exact evd), .inl ?_⟩; (try simp only [go_sem, Nat.reduceAdd, Nat.reduceSub, Nat.reduceMul, Nat.reduceLT, Nat.reduceLeDiff, Nat.reduceEqDiff, reduceIte, Int.reduceToNat, Int.reduceLT, Int.reduceLE, Int.reduceEq, Int.reduceNeg, reduceCtorEq, Int.reduceBEq, Int.reduceBNe])
    · have e3 : decide (n ≤ 32768) = false := decide_eq_false h3
      have e4 : decide (n < 1) = false := decide_eq_false (by omega)
      have e5 : decide (n > 32768) = true := decide_eq_true (by omega)
      have c1 := new_bad n (by omega)
      repeat (first | refine go_on ?_ | simp only [go_sem, e1, e2, e3])
      refine tri_condF ?_
      try refine go_on ?_
      refine pcall c1 ?_
      repeat (first | refine go_on ?_ | simp only [go_sem, e4, e5])
      refine tri_condT ?_
      try refine go_on ?_
      refine tri_condF ?_
      refine tri_skip ?_
      simp only [go_sem]
      refine tri_gc ?_ (tl [])
      refine GC.mk' [] [] (by simp) rfl (by simp) (by simp) evd evd
  have e2 : decide (n > 200) = false := decide_eq_false h2
  by_cases h4 : n < 1
  · have e4 : decide (n < 1) = true := decide_eq_true h4
    have c1 := new_bad n (by omega)
    repeat (first | refine go_on ?_ | simp only [go_sem, e1, e2])
    refine tri_condF ?_
    try refine go_on ?_
    refine pcall c1 ?_
    repeat (first | refine go_on ?_ | simp only [go_sem, e4])
    refine tri_condT ?_
    try refine go_on ?_
    refine tri_condF ?_
    refine tri_skip ?_
    simp only [go_sem]
    refine tri_gc ?_ (tl [])
    refine GC.mk' [] [] (by simp) rfl (by simp) (by simp) evd evd
  obtain ⟨m, rfl⟩ : ∃ m : Nat, n = m := ⟨n.toNat, by omega⟩
  have e4 : decide ((m : Int) < 1) = false := decide_eq_false (by omega)
  have e5 : decide ((m : Int) > 32768) = false := decide_eq_false (by omega)
  have c1 := new_ok m (by omega) (by omega)
  have hz := length_zr (m * 64)
  have e3 : IntKind.i64.wrap (m * 64 : Int) = ((m * 64 : Nat) : Int) := by rw [wrap_i64_in (by omega) (by omega)]; omega
  have e6 : (m * 64) / 64 = m := by omega
  have c2 := image_walk (zr (m * 64)) false false 0 0 (by omega)
  have c3 := sectors_walk (zr (m * 64)) false false 0 0 (by omega)
  rw [hz, e6] at c3
  repeat (first | refine go_on ?_ | simp only [go_sem, e1, e2])
  refine tri_condF ?_
  try refine go_on ?_
  refine ocall [] (c1) evd (Picks.mk' (by simp) evd) ?_; refine evg ?_
  repeat (first | refine go_on ?_ | simp only [go_sem, e4, e5])
  refine tri_condF ?_
  try refine go_on ?_
  refine dcallr [0, 1] (c2) evd (Picks.mk' (by simp) evd) ?_; refine evg ?_
  repeat (first | refine go_on ?_ | simp only [go_sem, e3])
  refine dcallr [0, 1] (c3) evd (Picks.mk' (by simp) evd) ?_; refine evg ?_
  try refine go_on ?_
  refine tri_condF ?_
  refine tri_skip ?_
  simp only [go_sem]
  refine tri_gc ?_ (tl [])
  refine GC.mk' [] [] (by simp) rfl (by simp) (by simp) evd evd
end Go.Proofs.Ytdkahoohedljhaa
