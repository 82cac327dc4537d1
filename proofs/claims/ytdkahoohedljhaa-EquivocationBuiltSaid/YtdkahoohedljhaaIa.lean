/-
  Package equivocation and its reference: lists, claims.
-/
import Derived.Test.YtdkahoohedljhaaMj
import Derived.Test.YtdkahoohedljhaaBy
import Derived.Test.YtdkahoohedljhaaKi
namespace Go.Proofs.Ytdkahoohedljhaa
open Go Go.FH Go.RowKit
set_option linter.unusedVariables false
set_option linter.unusedSimpArgs false

theorem has_walk (l : List Int) (cl : Bool) (v : Int) (hb : l.length ≤ 140737488355328) : PC Try.prog 23 [.sl 1 cl (nums .i64 l), .int .i64 v] (.bool (decide (v ∈ l))) := by
  refine PC.fact 6 f_ref7_Has (by simp) ⟨Pu_nums _ _, trivial, trivial⟩ trivial ?_
  unfold c_ref7_Has
  try refine go_on ?_
  refine tri_loopF (fun i : Nat => ⟨6, [.sl 1 cl (nums .i64 l), .int .i64 v, .dead, .dead, .bool false, .int .i64 i], []⟩) (fun _ => []) (fun i => l.length - i) (fun i => i ≤ l.length ∧ v ∉ l.take i) [] 0 ⟨by omega, by simp⟩ evd rfl ?_
  rintro i ⟨hi, hv⟩
  try dsimp only
  try refine go_on ?_
  refine tri_cond evd (fun h => ?_) (fun h => ?_)
  · have h1 : i < l.length := by simp at h; omega
    have hg := gd_nums (k := .i64) h1
    have hw := wrap_i64_succ h1 (by omega)
    have e0 : l[i] = l.getD i 0 := by rw [List.getD_eq_getElem?_getD, List.getElem?_eq_getElem h1]; rfl
    repeat (first | refine go_on ?_ | simp only [go_sem, hg, Nat.mul_one])
    refine tri_cond evd (fun h => ?_) (fun h => ?_)
    · have e1 : l.getD i 0 = v := by simpa using h
      have hm : v ∈ l := by rw [← e1, ← e0]; exact List.getElem_mem h1
      rw [decide_eq_true hm]
      try refine go_on ?_
      refine ⟨_, (by first | rfl | exact evd), .inl ?_⟩; (try simp only [go_sem, Nat.reduceAdd, Nat.reduceSub, Nat.reduceMul, Nat.reduceLT, Nat.reduceLeDiff, Nat.reduceEqDiff, reduceIte, Int.reduceToNat, Int.reduceLT, Int.reduceLE, Int.reduceEq, Int.reduceNeg, reduceCtorEq, Int.reduceBEq, Int.reduceBNe])
    · have e1 : l.getD i 0 ≠ v := by simpa using h
      repeat (first | refine go_on ?_ | simp only [go_sem, hw])
      refine ⟨i + 1, ⟨h1, ?_⟩, by omega, rfl⟩
      rw [List.take_add_one, List.getElem?_eq_getElem h1]
      simp only [Option.toList_some, List.mem_append, List.mem_singleton, not_or]
      exact ⟨hv, by rw [e0]; exact fun e => e1 e.symm⟩
  · have h1 : i = l.length := by simp at h; omega
    subst h1
    rw [List.take_length] at hv
    rw [decide_eq_false hv]
    try refine go_on ?_
    refine ⟨_, (by first | rfl | exact evd), .inl ?_⟩; (try simp only [go_sem, Nat.reduceAdd, Nat.reduceSub, Nat.reduceMul, Nat.reduceLT, Nat.reduceLeDiff, Nat.reduceEqDiff, reduceIte, Int.reduceToNat, Int.reduceLT, Int.reduceLE, Int.reduceEq, Int.reduceNeg, reduceCtorEq, Int.reduceBEq, Int.reduceBNe])
theorem nums_take (k : IntKind) (l : List Int) (i : Nat) : (nums k l).take i = nums k (l.take i) := by simp [nums]
theorem nums_drop (k : IntKind) (l : List Int) (i : Nat) : (nums k l).drop i = nums k (l.drop i) := by simp [nums]
theorem nums_app (k : IntKind) (l m : List Int) : nums k l ++ nums k m = nums k (l ++ m) := by simp [nums]
theorem nums_one (k : IntKind) (v : Int) : [[AV.int k v]] = nums k [v] := rfl
/-- A number put at its place. -/
def insL : List Int → Int → List Int
  | [], v => [v]
  | a :: r, v => if a < v then a :: insL r v else if a = v then a :: r else v :: a :: r
theorem insL_at : ∀ (l : List Int) (v : Int) (i : Nat), i ≤ l.length → (∀ j, j < i → l.getD j 0 < v) → (∀ _ : i < l.length, ¬ l.getD i 0 < v) → insL l v = if i < l.length ∧ l.getD i 0 = v then l else l.take i ++ [v] ++ l.drop i
  | [], v, i, hi, h1, h2 => by
    have : i = 0 := by simpa using hi
    subst this
    simp [insL]
  | a :: r, v, 0, hi, h1, h2 => by
    have h3 : ¬ a < v := by simpa using h2 (by simp)
    simp only [insL, if_neg h3]
    by_cases h4 : a = v
    · simp [h4]
    · simp [h4]
  | a :: r, v, i + 1, hi, h1, h2 => by
    have h3 : a < v := by simpa using h1 0 (by omega)
    have ih := insL_at r v i (by simpa using hi) (fun j hj => by simpa using h1 (j + 1) (by omega)) (fun hlt => by simpa using h2 (by simpa using hlt))
    simp only [insL, if_pos h3, ih]
    by_cases h4 : i < r.length ∧ r.getD i 0 = v
    · rw [if_pos h4, if_pos (by simpa using h4)]
    · rw [if_neg h4, if_neg (by simpa using h4)]
      simp
theorem insL_len (l : List Int) (v : Int) : (insL l v).length ≤ l.length + 1 := by
  induction l with
  | nil => simp [insL]
  | cons a r ih =>
    unfold insL
    split
    · simp; omega
    · split <;> simp
theorem ins_walk (l : List Int) (v : Int) (hb : l.length ≤ 1000000) : PC Try.prog 42 [.sl 1 false (nums .i64 l), .int .i64 v] (.sl 1 false (nums .i64 (insL l v))) := by
  refine PC.fact 6 f_ref7_Insert (by simp) ⟨Pu_nums _ _, trivial, trivial⟩ (Pu_nums _ _) ?_
  unfold c_ref7_Insert
  try refine go_on ?_
  refine tri_loopF (fun i : Nat => ⟨6, [.sl 1 false (nums .i64 l), .int .i64 v, .dead, .dead, .sl 0 true [], .int .i64 i], []⟩) (fun _ => []) (fun i => l.length - i) (fun i => i ≤ l.length ∧ ∀ j, j < i → l.getD j 0 < v) [] 0 ⟨by omega, fun j hj => by omega⟩ evd rfl ?_
  rintro i ⟨hi, hv⟩
  try dsimp only
  have fin : (∀ _ : i < l.length, ¬ l.getD i 0 < v) → True := fun _ => trivial
  by_cases h1 : i < l.length
  · have hg := gd_nums (k := .i64) h1
    have hw := wrap_i64_succ h1 (by omega)
    have e1 : decide ((i : Int) < (l.length : Int)) = true := decide_eq_true (by omega)
    by_cases h2 : l.getD i 0 < v
    · have e2 : decide (l.getD i 0 < v) = true := decide_eq_true h2
      repeat (first | refine go_on ?_ | simp only [go_sem, e1, hg, Nat.mul_one, e2])
      refine tri_condT ?_
      repeat (first | refine go_on ?_ | simp only [go_sem, hw])
      refine ⟨i + 1, ⟨h1, fun j hj => ?_⟩, by omega, rfl⟩
      by_cases e : j = i
      · subst e; exact h2
      · exact hv j (by omega)
    · have e2 : decide (l.getD i 0 < v) = false := decide_eq_false h2
      rw [insL_at l v i hi hv (fun _ => h2)]
      repeat (first | refine go_on ?_ | simp only [go_sem, e1, hg, Nat.mul_one, e2])
      refine tri_condF ?_
      by_cases h3 : l.getD i 0 = v
      · have e3 : (l.getD i 0 == v) = true := by rw [beq_iff_eq]; exact h3
        rw [if_pos ⟨h1, h3⟩]
        repeat (first | refine go_on ?_ | simp only [go_sem, e1, hg, Nat.mul_one, e3])
        refine tri_condT ?_
        try refine go_on ?_
        refine ⟨_, (by first | rfl | exact evd), .inl ?_⟩; (try simp only [go_sem, Nat.reduceAdd, Nat.reduceSub, Nat.reduceMul, Nat.reduceLT, Nat.reduceLeDiff, Nat.reduceEqDiff, reduceIte, Int.reduceToNat, Int.reduceLT, Int.reduceLE, Int.reduceEq, Int.reduceNeg, reduceCtorEq, Int.reduceBEq, Int.reduceBNe])
      · have e3 : (l.getD i 0 == v) = false := by rw [← Bool.not_eq_true, beq_iff_eq]; exact h3
        rw [if_neg (fun h => h3 h.2)]
        repeat (first | refine go_on ?_ | simp only [go_sem, e1, hg, Nat.mul_one, e3])
        refine tri_condF ?_
        have d1 : (l.drop i).take (l.length - i) = l.drop i := List.take_of_length_le (by simp)
        repeat (first | refine go_on ?_ | simp only [go_sem, nums_take, nums_drop, d1, nums_one, nums_app])
        refine ⟨_, (by first | rfl | exact evd), .inl ?_⟩; (try simp only [go_sem, Nat.reduceAdd, Nat.reduceSub, Nat.reduceMul, Nat.reduceLT, Nat.reduceLeDiff, Nat.reduceEqDiff, reduceIte, Int.reduceToNat, Int.reduceLT, Int.reduceLE, Int.reduceEq, Int.reduceNeg, reduceCtorEq, Int.reduceBEq, Int.reduceBNe])
  · have hl : i = l.length := by omega
    subst hl
    have e1 : decide ((l.length : Int) < (l.length : Int)) = false := decide_eq_false (by omega)
    rw [insL_at l v l.length hi hv (fun h => by omega), if_neg (fun h => by omega), List.take_length, List.drop_length, List.append_nil]
    repeat (first | refine go_on ?_ | simp only [go_sem, e1])
    refine tri_condF ?_
    repeat (first | refine go_on ?_ | simp only [go_sem, e1])
    refine tri_condF ?_
    repeat (first | refine go_on ?_ | simp only [go_sem, nums_take, nums_drop, nums_one, nums_app])
    refine ⟨_, (by first | rfl | exact evd), .inl ?_⟩; (try simp only [go_sem, Nat.reduceAdd, Nat.reduceSub, Nat.reduceMul, Nat.reduceLT, Nat.reduceLeDiff, Nat.reduceEqDiff, reduceIte, Int.reduceToNat, Int.reduceLT, Int.reduceLE, Int.reduceEq, Int.reduceNeg, reduceCtorEq, Int.reduceBEq, Int.reduceBNe])
end Go.Proofs.Ytdkahoohedljhaa
