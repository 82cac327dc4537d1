/-
  The law RecordsLists.
-/
import Derived.Test.YtachiahepppajaaMj
import Derived.Test.YtachiahepppajaaMc
namespace Go.Proofs.Ytachiahepppajaa
open Go Go.FH Go.RowKit
set_option linter.unusedVariables false
set_option linter.unusedSimpArgs false

theorem pc_RecordsLists (l : List Int) (hl : l.length ≤ maxLen) (hw : ∀ n ∈ l, (Lit.int .i64 n).wf = true) (n : Int) (hn : (Lit.int .i64 n).wf = true) :
    PC Try.prog 8 [.sl 1 false (nums .i64 l), .int .i64 n] (.bool true) := by
  refine PC.fact 5 f_law5_RecordsLists (by simp) ⟨Pu_nums _ _, trivial, trivial⟩ trivial ?_
  unfold c_law5_RecordsLists
  by_cases h : 300 < l.length
  · have h' : decide ((300 : Int) < (l.length : Int)) = true := by rw [decide_eq_true_eq]; omega
    try refine go_on ?_
    refine tri_condT ?_ (by (try simp only [go_sem, h']); try exact evd)
    try refine go_on ?_
    refine pcall awake5_walk ?_
    try refine go_on ?_
    refine ⟨_, (by first | rfl | exact evd), .inl ?_⟩; (try simp only [go_sem, Nat.reduceAdd, Nat.reduceSub, Nat.reduceMul, Nat.reduceLT, Nat.reduceLeDiff, Nat.reduceEqDiff, reduceIte, Int.reduceToNat, Int.reduceLT, Int.reduceLE, Int.reduceEq, Int.reduceNeg, reduceCtorEq, Int.reduceBEq, Int.reduceBNe])
  · have h' : decide ((300 : Int) < (l.length : Int)) = false := by rw [decide_eq_false_iff_not]; omega
    try refine go_on ?_
    refine tri_condF ?_ (by (try simp only [go_sem, h']); try exact evd)
    try refine go_on ?_
    refine pcall (vlist_walk l false n (by omega)) ?_
    try refine go_on ?_
    refine pcall (svlist_walk l false n (by omega)) ?_
    try refine go_on ?_
    refine pcall awake5_walk ?_
    try refine go_on ?_
    refine ⟨_, (by first | rfl | exact evd), .inl ?_⟩; (try simp only [go_sem, Nat.reduceAdd, Nat.reduceSub, Nat.reduceMul, Nat.reduceLT, Nat.reduceLeDiff, Nat.reduceEqDiff, reduceIte, Int.reduceToNat, Int.reduceLT, Int.reduceLE, Int.reduceEq, Int.reduceNeg, reduceCtorEq, Int.reduceBEq, Int.reduceBNe])
end Go.Proofs.Ytachiahepppajaa
