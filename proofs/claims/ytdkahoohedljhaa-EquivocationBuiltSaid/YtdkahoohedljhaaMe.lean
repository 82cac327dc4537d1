/-
  My texts Ea, Eb, Ec, Ed, Ee, joined.
-/
import Derived.Test.YtdkahoohedljhaaMd
import Derived.Test.YtdkahoohedljhaaMk
namespace Go.Proofs.Ytdkahoohedljhaa
open Go Go.FH
set_option linter.unusedVariables false
set_option linter.unusedSimpArgs false

/-- What is wrong with a list of validators, from the place i on. -/
def vFrom (l : List Int) (n : Int) (i : Nat) : Int :=
  if i < l.length then (if l.getD i 0 < 0 ∨ n ≤ l.getD i 0 then 3 else if 0 < i ∧ l.getD i 0 ≤ l.getD (i - 1) 0 then 8 else vFrom l n (i + 1)) else 0
termination_by l.length - i
def vErr (l : List Int) (n : Int) : Int := if l = [] then 2 else vFrom l n 0
theorem vFrom_step {l : List Int} {n : Int} {i : Nat} (h : i < l.length) : vFrom l n i = if l.getD i 0 < 0 ∨ n ≤ l.getD i 0 then 3 else if 0 < i ∧ l.getD i 0 ≤ l.getD (i - 1) 0 then 8 else vFrom l n (i + 1) := by
  rw [vFrom, if_pos h]
theorem vFrom_end {l : List Int} {n : Int} {i : Nat} (h : ¬ i < l.length) : vFrom l n i = 0 := by rw [vFrom, if_neg h]
/-- The step at the place i. -/
def dstep (l : List Int) (i : Nat) : Int := if i = 0 then l.getD 0 0 else l.getD i 0 - (l.getD (i - 1) 0 + 1)
def lFrom (l : List Int) (i : Nat) : List UInt8 := if i < l.length then uenc (dstep l i).toNat ++ lFrom l (i + 1) else []
termination_by l.length - i
theorem lFrom_step {l : List Int} {i : Nat} (h : i < l.length) : lFrom l i = uenc (dstep l i).toNat ++ lFrom l (i + 1) := by rw [lFrom, if_pos h]
theorem lFrom_end {l : List Int} {i : Nat} (h : ¬ i < l.length) : lFrom l i = [] := by rw [lFrom, if_neg h]
theorem lFrom_len (l : List Int) (i : Nat) (hi : i ≤ l.length) : l.length - i ≤ (lFrom l i).length := by
  by_cases h : i < l.length
  · rw [lFrom_step h, List.length_append]
    have := lFrom_len l (i + 1) h
    have := uenc_pos (dstep l i).toNat
    omega
  · omega
termination_by l.length - i
/-- The bytes of a list. -/
def lenc (l : List Int) : List UInt8 := uenc l.length ++ lFrom l 0

theorem vFrom_ok {l : List Int} {n : Int} : ∀ (k i : Nat), l.length - i = k → vFrom l n i = 0 → ∀ j, i ≤ j → j < l.length → 0 ≤ l.getD j 0 ∧ l.getD j 0 < n ∧ (0 < j → l.getD (j - 1) 0 < l.getD j 0)
  | 0, i, hk, h, j, h1, h2 => by omega
  | k + 1, i, hk, h, j, h1, h2 => by
    rw [vFrom_step (by omega)] at h
    split at h
    · cases h
    · rename_i ha
      split at h
      · cases h
      · rename_i hb
        by_cases hj : j = i
        · subst hj
          refine ⟨by omega, by omega, fun h0 => ?_⟩
          have := not_and.1 hb h0
          omega
        · exact vFrom_ok k (i + 1) (by omega) h j (by omega) h2
theorem vErr_ok {l : List Int} {n : Int} (h : vErr l n = 0) : l ≠ [] ∧ ∀ j, j < l.length → 0 ≤ l.getD j 0 ∧ l.getD j 0 < n ∧ (0 < j → l.getD (j - 1) 0 < l.getD j 0) := by
  unfold vErr at h
  split at h
  · cases h
  · rename_i h0
    exact ⟨h0, fun j hj => vFrom_ok _ 0 rfl h j (by omega) hj⟩
theorem vErr_step {l : List Int} {n : Int} (h : vErr l n = 0) {j : Nat} (hj : j < l.length) : 0 ≤ dstep l j ∧ dstep l j < n := by
  have h1 := (vErr_ok h).2 j hj
  unfold dstep
  split
  · subst_vars; exact ⟨h1.1, h1.2.1⟩
  · have h2 := h1.2.2 (by omega)
    have h3 := (vErr_ok h).2 (j - 1) (by omega)
    omega

/-- What a reader of a list answers: n more behind 'last'. -/
def rLst : Nat → Int → List Int → List UInt8 → Int → List Int × List UInt8 × Int
  | 0, _, acc, bs, e => (acc, bs, e)
  | n + 1, last, acc, bs, e => if e ≠ 0 then (acc, bs, e) else rLst n (last + 1 + (rUint bs e 1024).1) (acc ++ [last + 1 + (rUint bs e 1024).1]) (rUint bs e 1024).2.1 (rUint bs e 1024).2.2
def rList (bs : List UInt8) (e : Int) : List Int × List UInt8 × Int := rLst (rUint bs e 1024).1.toNat (-1) [] (rUint bs e 1024).2.1 (rUint bs e 1024).2.2

theorem rLst_len : ∀ (n : Nat) (last : Int) (acc : List Int) (bs : List UInt8) (e : Int), (rLst n last acc bs e).2.1.length ≤ bs.length
  | 0, _, _, bs, _ => Nat.le_refl _
  | n + 1, last, acc, bs, e => by
    rw [rLst]
    split
    · exact Nat.le_refl _
    · exact Nat.le_trans (rLst_len _ _ _ _ _) (rUint_len bs e 1024)
theorem rList_len (bs : List UInt8) (e : Int) : (rList bs e).2.1.length ≤ bs.length := Nat.le_trans (rLst_len _ _ _ _ _) (rUint_len bs e 1024)

/-- Numbers: the bytes of a list of balances; what a reader of such a list answers. -/
def nenc : List Int → List UInt8
  | [] => []
  | x :: l => uenc x.toNat ++ nenc l
def rNums : Nat → List Int → List UInt8 → Int → List Int × List UInt8 × Int
  | 0, acc, bs, e => (acc, bs, e)
  | n + 1, acc, bs, e => if e ≠ 0 then (acc, bs, e) else rNums n (acc ++ [(rUint bs e maxU).1]) (rUint bs e maxU).2.1 (rUint bs e maxU).2.2
theorem rNums_len : ∀ (n : Nat) (acc : List Int) (bs : List UInt8) (e : Int), (rNums n acc bs e).2.1.length ≤ bs.length
  | 0, _, bs, _ => Nat.le_refl _
  | n + 1, acc, bs, e => by
    rw [rNums]
    split
    · exact Nat.le_refl _
    · exact Nat.le_trans (rNums_len _ _ _ _) (rUint_len bs e maxU)
end Go.Proofs.Ytdkahoohedljhaa

namespace Go.Proofs.Ytdkahoohedljhaa
open Go Go.FH
set_option linter.unusedVariables false
set_option linter.unusedSimpArgs false

/-- The reference's reader: what lies behind, what is left, what is wrong. -/
abbrev srd (cl : Bool) (p bs : List UInt8) (e : Int) : AObj := .var [.sl 1 cl (bts (p ++ bs)), .int .i64 p.length, .int .i64 e]

theorem getD_behind {p bs : List UInt8} {i : Nat} (h : i < bs.length) : (bts (p ++ bs)).getD (p.length + i) [] = [.int .u8 (bs[i].toNat : Int)] := by
  rw [getD_bts (by rw [List.length_append]; omega), List.getElem_append_right (by omega)]
  simp only [Nat.add_sub_cancel_left]

end Go.Proofs.Ytdkahoohedljhaa

namespace Go.Proofs.Ytdkahoohedljhaa
open Go Go.FH
set_option linter.unusedVariables false
set_option linter.unusedSimpArgs false

/-- The reference's reader, by what is left. -/
abbrev sro (cl : Bool) (B b : List UInt8) (e : Int) : AObj := .var [.sl 1 cl (bts B), .int .i64 ((B.length - b.length : Nat) : Int), .int .i64 e]
theorem len_behind (p b : List UInt8) : (p ++ b).length - b.length = p.length := by simp
theorem sro_eq (cl : Bool) (p b : List UInt8) (e : Int) : sro cl (p ++ b) b e = srd cl p b e := by rw [sro, len_behind]
theorem sro_drop (cl : Bool) (p b : List UInt8) (e : Int) {d : Nat} (h : d ≤ b.length) : sro cl (p ++ b) (b.drop d) e = .var [.sl 1 cl (bts (p ++ b)), .int .i64 ((p.length + d : Nat) : Int), .int .i64 e] := by
  rw [sro, show (p ++ b).length - (b.drop d).length = p.length + d by rw [List.length_append, List.length_drop]; omega]

theorem rUint_suf (bs : List UInt8) (e m : Int) : (rUint bs e m).2.1 <:+ bs := by
  unfold rUint
  (repeat' split) <;> first | exact List.suffix_refl _ | exact List.drop_suffix _ _
theorem rRoot_suf (bs : List UInt8) (e : Int) : (rRoot bs e).2.1 <:+ bs := by
  unfold rRoot
  (repeat' split) <;> first | exact List.suffix_refl _ | exact List.drop_suffix _ _

/-- What is taken. -/
def rTake (b : List UInt8) (e : Int) (n : Nat) : List UInt8 × List UInt8 × Int := if e ≠ 0 then ([], b, e) else if b.length < n then ([], b, 5) else (b.take n, b.drop n, 0)
/-- Bytes copied into a root. -/
def cpyR (t : List UInt8) (k : Nat) : Rt := if h : k = 0 then rt0 else (cpyR t (k - 1)).set (k - 1) (t.getD (k - 1) 0)
termination_by k
decreasing_by omega
theorem cpyR_0 (t : List UInt8) : cpyR t 0 = rt0 := by rw [cpyR, dif_pos rfl]
theorem cpyR_s (t : List UInt8) (i : Nat) : cpyR t (i + 1) = (cpyR t i).set i (t.getD i 0) := by rw [cpyR, dif_neg (by omega)]; rfl
theorem cpyR_get (t : List UInt8) : ∀ (k i : Nat), k ≤ 32 → i < k → (cpyR t k).1.getD i 0 = t.getD i 0
  | 0, i, _, h => by omega
  | k + 1, i, hk, h => by
    have hl := (cpyR t k).2
    simp only [cpyR_s, Rt.set, List.getD_eq_getElem?_getD, List.getElem?_set]
    by_cases hi : i = k
    · subst hi
      rw [if_pos rfl, if_pos (by omega)]; rfl
    · rw [if_neg (by omega)]
      have := cpyR_get t k i (by omega) (by omega)
      rwa [List.getD_eq_getElem?_getD, List.getD_eq_getElem?_getD] at this
theorem cpyR_all (t : List UInt8) (h : t.length = 32) : cpyR t 32 = mkRt t := by
  apply Subtype.ext
  rw [mkRt_val h]
  have h1 := (cpyR t 32).2
  apply List.ext_getElem (by omega)
  intro i hi1 hi2
  have := cpyR_get t 32 i (by omega) (by omega)
  rwa [List.getD_eq_getElem?_getD, List.getElem?_eq_getElem hi1, List.getD_eq_getElem?_getD, List.getElem?_eq_getElem hi2] at this

end Go.Proofs.Ytdkahoohedljhaa

namespace Go.Proofs.Ytdkahoohedljhaa
open Go Go.FH
set_option linter.unusedVariables false
set_option linter.unusedSimpArgs false

theorem gd_nums {k : IntKind} {ns : List Int} {i : Nat} (h : i < ns.length) : (nums k ns).getD i [] = [.int k (ns.getD i 0)] := by
  rw [getD_nums h, List.getD_eq_getElem?_getD, List.getElem?_eq_getElem h]; rfl

theorem vlist_walk (l : List Int) (cl : Bool) (n : Int) (hb : l.length ≤ 140737488355328) : PC Try.prog 41 [.sl 1 cl (nums .i64 l), .int .i64 n] (.int .i64 (vErr l n)) := by
  refine PC.fact 13 f_records_ValidateList (by simp) ⟨Pu_nums .i64 l, trivial, trivial⟩ trivial ?_
  unfold c_records_ValidateList vErr
  by_cases h0 : l = []
  · subst h0
    rw [if_pos rfl]
    try refine go_on ?_
    refine tri_condT ?_
    try refine go_on ?_
    refine ⟨_, (by first | rfl | exact evd), .inl ?_⟩; (try simp only [go_sem, Nat.reduceAdd, Nat.reduceSub, Nat.reduceMul, Nat.reduceLT, Nat.reduceLeDiff, Nat.reduceEqDiff, reduceIte, Int.reduceToNat, Int.reduceLT, Int.reduceLE, Int.reduceEq, Int.reduceNeg, reduceCtorEq, Int.reduceBEq, Int.reduceBNe])
  rw [if_neg h0]
  have hl : 0 < l.length := List.length_pos_iff.2 h0
  have hl' : ((l.length : Int) == 0) = false := by simp; omega
  repeat (first | refine go_on ?_ | simp only [go_sem, hl'])
  refine tri_condF ?_ (by (try simp only [go_sem, hl']); try exact evd)
  try refine go_on ?_
  refine tri_loopF (fun i : Nat => ⟨13, [.sl 1 cl (nums .i64 l), .int .i64 n, .dead, .dead, .int .i64 0, .dead, .dead, .dead, .dead, .dead, .sl 1 cl (nums .i64 l), .int .i64 l.length, .int .i64 i], []⟩) (fun _ => []) (fun i => l.length - i) (fun i => i ≤ l.length ∧ vFrom l n i = vFrom l n 0) [5, 6, 7, 8, 9] 0 ⟨by omega, rfl⟩ evd rfl ?_
  rintro i ⟨hi, hv⟩
  try dsimp only
  try refine go_on ?_
  refine tri_cond evd (fun h => ?_) (fun h => ?_)
  · have h1 : i < l.length := by simp at h; omega
    have hg := gd_nums (k := .i64) h1
    have hi' : ((i : Int) + 1) = ((i + 1 : Nat) : Int) := by omega
    have hw := wrap_i64_succ h1 (by omega)
    rw [vFrom_step h1] at hv
    generalize hx : l.getD i 0 = x at *
    by_cases hA : x < 0 ∨ n ≤ x
    · rw [if_pos hA] at hv
      rw [← hv]
      by_cases hx0 : x < 0
      · have hx0' : decide (x < 0) = true := by simpa using hx0
        repeat (first | refine go_on ?_ | simp only [go_sem, hg, hx0'])
        refine tri_condT ?_
        try refine go_on ?_
        refine ⟨_, (by first | rfl | exact evd), .inl ?_⟩; (try simp only [go_sem, Nat.reduceAdd, Nat.reduceSub, Nat.reduceMul, Nat.reduceLT, Nat.reduceLeDiff, Nat.reduceEqDiff, reduceIte, Int.reduceToNat, Int.reduceLT, Int.reduceLE, Int.reduceEq, Int.reduceNeg, reduceCtorEq, Int.reduceBEq, Int.reduceBNe])
      · have hx0' : decide (x < 0) = false := by simpa using hx0
        have hx1 : decide (n ≤ x) = true := by rw [decide_eq_true_eq]; omega
        repeat (first | refine go_on ?_ | simp only [go_sem, hg, hx0', hx1])
        refine tri_condT ?_
        try refine go_on ?_
        refine ⟨_, (by first | rfl | exact evd), .inl ?_⟩; (try simp only [go_sem, Nat.reduceAdd, Nat.reduceSub, Nat.reduceMul, Nat.reduceLT, Nat.reduceLeDiff, Nat.reduceEqDiff, reduceIte, Int.reduceToNat, Int.reduceLT, Int.reduceLE, Int.reduceEq, Int.reduceNeg, reduceCtorEq, Int.reduceBEq, Int.reduceBNe])
    · rw [if_neg hA] at hv
      have hx0' : decide (x < 0) = false := by rw [decide_eq_false_iff_not]; omega
      have hx1 : decide (n ≤ x) = false := by rw [decide_eq_false_iff_not]; omega
      repeat (first | refine go_on ?_ | simp only [go_sem, hg, hx0', hx1])
      refine tri_condF ?_
      by_cases hp : 0 < i
      · have hp' : decide ((0 : Int) < (i : Int)) = true := by rw [decide_eq_true_eq]; omega
        have hw1 : IntKind.i64.wrap ((i : Int) - 1) = ((i - 1 : Nat) : Int) := by rw [wrap_i64_in (by omega) (by omega)]; omega
        have hg2 := gd_nums (k := .i64) (show i - 1 < l.length by omega)
        by_cases hB : x ≤ l.getD (i - 1) 0
        · have hB' : decide (x ≤ l.getD (i - 1) 0) = true := by simpa using hB
          rw [if_pos ⟨hp, hB⟩] at hv
          rw [← hv]
          repeat (first | refine go_on ?_ | simp only [go_sem, hg, hp', hw1, hg2, hB'])
          refine tri_condT ?_
          try refine go_on ?_
          refine ⟨_, (by first | rfl | exact evd), .inl ?_⟩; (try simp only [go_sem, Nat.reduceAdd, Nat.reduceSub, Nat.reduceMul, Nat.reduceLT, Nat.reduceLeDiff, Nat.reduceEqDiff, reduceIte, Int.reduceToNat, Int.reduceLT, Int.reduceLE, Int.reduceEq, Int.reduceNeg, reduceCtorEq, Int.reduceBEq, Int.reduceBNe])
        · have hB' : decide (x ≤ l.getD (i - 1) 0) = false := by simpa using hB
          rw [if_neg (fun hh => hB hh.2)] at hv
          repeat (first | refine go_on ?_ | simp only [go_sem, hg, hp', hw1, hg2, hB'])
          refine tri_condF ?_
          repeat (first | refine go_on ?_ | simp only [go_sem, hw])
          exact ⟨i + 1, ⟨h1, hv⟩, by omega, rfl⟩
      · have hp' : decide ((0 : Int) < (i : Int)) = false := by rw [decide_eq_false_iff_not]; omega
        rw [if_neg (fun hh => hp hh.1)] at hv
        repeat (first | refine go_on ?_ | simp only [go_sem, hp'])
        refine tri_condF ?_
        repeat (first | refine go_on ?_ | simp only [go_sem, hw])
        exact ⟨i + 1, ⟨h1, hv⟩, by omega, rfl⟩
  · have h1 : i = l.length := by simp at h; omega
    subst h1
    rw [← hv, vFrom_end (by omega)]
    try refine go_on ?_
    refine ⟨_, (by first | rfl | exact evd), .inl ?_⟩; (try simp only [go_sem, Nat.reduceAdd, Nat.reduceSub, Nat.reduceMul, Nat.reduceLT, Nat.reduceLeDiff, Nat.reduceEqDiff, reduceIte, Int.reduceToNat, Int.reduceLT, Int.reduceLE, Int.reduceEq, Int.reduceNeg, reduceCtorEq, Int.reduceBEq, Int.reduceBNe])

theorem svlist_walk (l : List Int) (cl : Bool) (n : Int) (hb : l.length ≤ 140737488355328) : PC Try.prog 18 [.sl 1 cl (nums .i64 l), .int .i64 n] (.int .i64 (vErr l n)) := by
  refine PC.fact 6 f_ref4_ValidateList (by simp) ⟨Pu_nums .i64 l, trivial, trivial⟩ trivial ?_
  unfold c_ref4_ValidateList vErr
  by_cases h0 : l = []
  · subst h0
    rw [if_pos rfl]
    try refine go_on ?_
    refine tri_condT ?_
    try refine go_on ?_
    refine ⟨_, (by first | rfl | exact evd), .inl ?_⟩; (try simp only [go_sem, Nat.reduceAdd, Nat.reduceSub, Nat.reduceMul, Nat.reduceLT, Nat.reduceLeDiff, Nat.reduceEqDiff, reduceIte, Int.reduceToNat, Int.reduceLT, Int.reduceLE, Int.reduceEq, Int.reduceNeg, reduceCtorEq, Int.reduceBEq, Int.reduceBNe])
  rw [if_neg h0]
  have hl : 0 < l.length := List.length_pos_iff.2 h0
  have hl' : ((l.length : Int) == 0) = false := by simp; omega
  repeat (first | refine go_on ?_ | simp only [go_sem, hl'])
  refine tri_condF ?_ (by (try simp only [go_sem, hl']); try exact evd)
  try refine go_on ?_
  refine tri_loopF (fun i : Nat => ⟨6, [.sl 1 cl (nums .i64 l), .int .i64 n, .dead, .dead, .int .i64 0, .int .i64 i], []⟩) (fun _ => []) (fun i => l.length - i) (fun i => i ≤ l.length ∧ vFrom l n i = vFrom l n 0) [] 0 ⟨by omega, rfl⟩ evd rfl ?_
  rintro i ⟨hi, hv⟩
  try dsimp only
  try refine go_on ?_
  refine tri_cond evd (fun h => ?_) (fun h => ?_)
  · have h1 : i < l.length := by simp at h; omega
    have hg := gd_nums (k := .i64) h1
    have hi' : ((i : Int) + 1) = ((i + 1 : Nat) : Int) := by omega
    have hw := wrap_i64_succ h1 (by omega)
    rw [vFrom_step h1] at hv
    generalize hx : l.getD i 0 = x at *
    by_cases hA : x < 0 ∨ n ≤ x
    · rw [if_pos hA] at hv
      rw [← hv]
      by_cases hx0 : x < 0
      · have hx0' : decide (x < 0) = true := by simpa using hx0
        repeat (first | refine go_on ?_ | simp only [go_sem, hg, hx0'])
        refine tri_condT ?_
        try refine go_on ?_
        refine ⟨_, (by first | rfl | exact evd), .inl ?_⟩; (try simp only [go_sem, Nat.reduceAdd, Nat.reduceSub, Nat.reduceMul, Nat.reduceLT, Nat.reduceLeDiff, Nat.reduceEqDiff, reduceIte, Int.reduceToNat, Int.reduceLT, Int.reduceLE, Int.reduceEq, Int.reduceNeg, reduceCtorEq, Int.reduceBEq, Int.reduceBNe])
      · have hx0' : decide (x < 0) = false := by simpa using hx0
        have hx1 : decide (n ≤ x) = true := by rw [decide_eq_true_eq]; omega
        repeat (first | refine go_on ?_ | simp only [go_sem, hg, hx0', hx1])
        refine tri_condT ?_
        try refine go_on ?_
        refine ⟨_, (by first | rfl | exact evd), .inl ?_⟩; (try simp only [go_sem, Nat.reduceAdd, Nat.reduceSub, Nat.reduceMul, Nat.reduceLT, Nat.reduceLeDiff, Nat.reduceEqDiff, reduceIte, Int.reduceToNat, Int.reduceLT, Int.reduceLE, Int.reduceEq, Int.reduceNeg, reduceCtorEq, Int.reduceBEq, Int.reduceBNe])
    · rw [if_neg hA] at hv
      have hx0' : decide (x < 0) = false := by rw [decide_eq_false_iff_not]; omega
      have hx1 : decide (n ≤ x) = false := by rw [decide_eq_false_iff_not]; omega
      repeat (first | refine go_on ?_ | simp only [go_sem, hg, hx0', hx1])
      refine tri_condF ?_
      by_cases hp : 0 < i
      · have hp' : decide ((0 : Int) < (i : Int)) = true := by rw [decide_eq_true_eq]; omega
        have hw1 : IntKind.i64.wrap ((i : Int) - 1) = ((i - 1 : Nat) : Int) := by rw [wrap_i64_in (by omega) (by omega)]; omega
        have hg2 := gd_nums (k := .i64) (show i - 1 < l.length by omega)
        by_cases hB : x ≤ l.getD (i - 1) 0
        · have hB' : decide (x ≤ l.getD (i - 1) 0) = true := by simpa using hB
          rw [if_pos ⟨hp, hB⟩] at hv
          rw [← hv]
          repeat (first | refine go_on ?_ | simp only [go_sem, hg, hp', hw1, hg2, hB'])
          refine tri_condT ?_
          try refine go_on ?_
          refine ⟨_, (by first | rfl | exact evd), .inl ?_⟩; (try simp only [go_sem, Nat.reduceAdd, Nat.reduceSub, Nat.reduceMul, Nat.reduceLT, Nat.reduceLeDiff, Nat.reduceEqDiff, reduceIte, Int.reduceToNat, Int.reduceLT, Int.reduceLE, Int.reduceEq, Int.reduceNeg, reduceCtorEq, Int.reduceBEq, Int.reduceBNe])
        · have hB' : decide (x ≤ l.getD (i - 1) 0) = false := by simpa using hB
          rw [if_neg (fun hh => hB hh.2)] at hv
          repeat (first | refine go_on ?_ | simp only [go_sem, hg, hp', hw1, hg2, hB'])
          refine tri_condF ?_
          repeat (first | refine go_on ?_ | simp only [go_sem, hw])
          exact ⟨i + 1, ⟨h1, hv⟩, by omega, rfl⟩
      · have hp' : decide ((0 : Int) < (i : Int)) = false := by rw [decide_eq_false_iff_not]; omega
        rw [if_neg (fun hh => hp hh.1)] at hv
        repeat (first | refine go_on ?_ | simp only [go_sem, hp'])
        refine tri_condF ?_
        repeat (first | refine go_on ?_ | simp only [go_sem, hw])
        exact ⟨i + 1, ⟨h1, hv⟩, by omega, rfl⟩
  · have h1 : i = l.length := by simp at h; omega
    subst h1
    rw [← hv, vFrom_end (by omega)]
    try refine go_on ?_
    refine ⟨_, (by first | rfl | exact evd), .inl ?_⟩; (try simp only [go_sem, Nat.reduceAdd, Nat.reduceSub, Nat.reduceMul, Nat.reduceLT, Nat.reduceLeDiff, Nat.reduceEqDiff, reduceIte, Int.reduceToNat, Int.reduceLT, Int.reduceLE, Int.reduceEq, Int.reduceNeg, reduceCtorEq, Int.reduceBEq, Int.reduceBNe])
end Go.Proofs.Ytdkahoohedljhaa

namespace Go.Proofs.Ytdkahoohedljhaa
open Go Go.FH
set_option linter.unusedVariables false
set_option linter.unusedSimpArgs false

/-- A function that appends e to its first argument, which it owns. -/
def AppO (f : FuncId) (xs : List AV) (e : List UInt8) : Prop := ∀ bs : List UInt8, bs.length + e.length ≤ 140737488355328 → ACall Try.prog f (.hs 1 0 0 bs.length :: xs) [.vec 1 (bts bs)] (.hs 1 1 0 (bs.length + e.length)) [.gone, .vec 1 (bts (bs ++ e))]

end Go.Proofs.Ytdkahoohedljhaa
