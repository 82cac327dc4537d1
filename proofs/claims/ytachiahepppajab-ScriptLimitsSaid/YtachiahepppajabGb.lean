/-
  Operations: the program looks whether the unused fields are zero.
-/
import Derived.Test.YtachiahepppajabGa
import Derived.Test.YtachiahepppajabBx
namespace Go.Proofs.Ytachiahepppajab
open Go Go.FH Go.RowKit
set_option linter.unusedVariables false
set_option linter.unusedSimpArgs false

set_option maxHeartbeats 4000000 in
theorem idle_walk (x : OpV) : PC Try.prog 12 [.agg (sOpC (opL x))] (.bool (idle x)) := by
  refine PC.fact 6 f_script_idle (by simp) ⟨PuL_opL x, trivial⟩ trivial ?_
  unfold c_script_idle
  have k1 := noatt_walk x.att
  have k2 := noclm_walk x.slg.1
  have k3 := noclm_walk x.slg.2
  have e5 := len0 x.tab.2
  have hz : idle x = okF x.kind (zeros x) 0 := rfl
  unfold zeros at hz
  have z0 : blk0 = ⟨⟨⟨0, rt0⟩, ⟨0, rt0⟩⟩, 0, rt0, rt0, rt0, wd0, wd0, ⟨0, rt0⟩, ⟨0, rt0⟩, false⟩ := rfl
  rw [z0] at hz
  generalize hB1 : decide (x.blk = ⟨⟨⟨0, rt0⟩, ⟨0, rt0⟩⟩, 0, rt0, rt0, rt0, wd0, wd0, ⟨0, rt0⟩, ⟨0, rt0⟩, false⟩) = B1 at *
  generalize hB2 : decide (x.att = attZ) = B2 at *
  generalize hB3 : decide (x.slg.1 = clmZ) = B3 at *
  generalize hB4 : decide (x.slg.2 = clmZ) = B4 at *
  generalize hB6 : decide (x.tab.2 = []) = B6 at *
  rw [show cp0 = ⟨0, rt0⟩ from rfl, show vdt0 = ⟨0, 0, rt0⟩ from rfl] at hz
  generalize hB5 : decide (x.tab.1 = ⟨0, rt0⟩) = B5 at *
  generalize hB7 : decide (x.vdt = ⟨0, 0, rt0⟩) = B7 at *
  generalize hB8 : (x.write == 0) = B8 at *
  generalize hB9 : (x.keep == 0) = B9 at *
  rw [hz]
  generalize hf : [((2 : Int), B1), (3, B2), (4, B3 && B4), (5, B5 && B6), (6, B7), (8, B8 && B9)] = fs
  have hlen : fs.length = 6 := by rw [← hf]; rfl
  have hp : [[.int .i64 2, .bool B1], [.int .i64 3, .bool B2], [.int .i64 4, .bool (B3 && B4)], [.int .i64 5, .bool (B5 && B6)], [.int .i64 6, .bool B7], [.int .i64 8, .bool (B8 && B9)]] = prs fs := by rw [← hf]; rfl
  clear hz
  cases B3 <;> cases B5 <;> cases B8 <;> simp only [Bool.false_and, Bool.true_and] at hp <;>
  (
    repeat (first | refine go_on ?_ | simp only [go_sem, hB1, hB5, hB7, hB8, hB9, e5, hp])
    refine dpcall (k1) ?_
    repeat (first | refine go_on ?_ | simp only [go_sem, hB1, hB5, hB7, hB8, hB9, e5, hp])
    refine dpcall (k2) ?_
    repeat (first | refine go_on ?_ | simp only [go_sem, hB1, hB5, hB7, hB8, hB9, e5, hp])
    try refine dpcall (k3) ?_
    repeat (first | refine go_on ?_ | simp only [go_sem, hB1, hB5, hB7, hB8, hB9, e5, hp])
    refine tri_loopG (fun i : Nat => ⟨6, [.dead, .ptr 0 0, .bool false, .dead, .dead, .dead], [(56, .int .i64 i), (55, .int .i64 6), (54, .sl 2 true (prs fs))]⟩) (fun _ => [.var (sOpC (opL x))]) (fun i => 6 - i)
      (fun i => i ≤ 6 ∧ okF x.kind fs i = okF x.kind fs 0) 0 ⟨by omega, rfl⟩ ?_ ?_
    · refine GC.mkT [] [0] (by simp) rfl (by simp) (by simp) evd evd evd
    rintro i ⟨i1, i2⟩
    try dsimp only
    try refine go_on ?_
    refine tri_cond evd (fun h => ?_) (fun h => ?_)
    · have hi : i < 6 := by simp at h; omega
      have hg := getD_prs (fs := fs) (i := i) (by omega)
      have hw := wrap_i64_succ hi (by omega)
      rw [okF_s (by omega)] at i2
      by_cases hk : fs[i].1 = x.kind
      · have hk1 : (fs[i].1 != x.kind) = false := by simp [hk]
        have hk2 : (fs[i].1 == x.kind) = true := by simp [hk]
        rw [hk2] at i2
        repeat (first | refine go_on ?_ | simp only [go_sem, hg, hk1, hw, hlen])
        refine tri_condF ?_
        repeat (first | refine go_on ?_ | simp only [go_sem, hg, hk1, hw, hlen])
        exact ⟨i + 1, ⟨by omega, by simpa using i2⟩, by omega, by refine GC.mkT [] [0] (by simp) rfl (by simp) (by simp) evd evd evd⟩
      · have hk1 : (fs[i].1 != x.kind) = true := by simp [hk]
        have hk2 : (fs[i].1 == x.kind) = false := by simp [hk]
        rw [hk2] at i2
        repeat (first | refine go_on ?_ | simp only [go_sem, hg, hk1, hw, hlen])
        cases hb : fs[i].2
        · rw [hb, Bool.false_or, Bool.false_and] at i2
          rw [← i2]
          refine tri_condT ?_ (by (try simp only [go_sem, hb]); try exact evd)
          try refine go_on ?_
          refine ⟨_, (by first | rfl | exact evd), .inl ?_⟩; (try simp only [go_sem, Nat.reduceAdd, Nat.reduceSub, Nat.reduceMul, Nat.reduceLT, Nat.reduceLeDiff, Nat.reduceEqDiff, reduceIte, Int.reduceToNat, Int.reduceLT, Int.reduceLE, Int.reduceEq, Int.reduceNeg, reduceCtorEq, Int.reduceBEq, Int.reduceBNe])
        · refine tri_condF ?_ (by (try simp only [go_sem, hb]); try exact evd)
          repeat (first | refine go_on ?_ | simp only [go_sem, hg, hk1, hw, hlen])
          exact ⟨i + 1, ⟨by omega, by simpa [hb] using i2⟩, by omega, by refine GC.mkT [] [0] (by simp) rfl (by simp) (by simp) evd evd evd⟩
    · have hi : i = 6 := by simp at h; omega
      subst hi
      rw [← i2, okF_end (by omega)]
      try refine go_on ?_
      refine ⟨_, (by first | rfl | exact evd), .inl ?_⟩; (try simp only [go_sem, Nat.reduceAdd, Nat.reduceSub, Nat.reduceMul, Nat.reduceLT, Nat.reduceLeDiff, Nat.reduceEqDiff, reduceIte, Int.reduceToNat, Int.reduceLT, Int.reduceLE, Int.reduceEq, Int.reduceNeg, reduceCtorEq, Int.reduceBEq, Int.reduceBNe])
  )
end Go.Proofs.Ytachiahepppajab
