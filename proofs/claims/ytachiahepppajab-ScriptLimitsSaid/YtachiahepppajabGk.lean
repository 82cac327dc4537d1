/-
  Operations: the reference decodes a script; what is exported; lists of operations are compared.
-/
import Derived.Test.YtachiahepppajabGj
namespace Go.Proofs.Ytachiahepppajab
open Go Go.FH Go.RowKit
set_option linter.unusedVariables false
set_option linter.unusedSimpArgs false

theorem drop_suf {s b : List UInt8} (h : s <:+ b) : List.drop (b.length - s.length) b = s := by
  obtain ⟨p, rfl⟩ := h
  rw [len_behind, List.drop_left]

/-- What the reference reads. -/
def dAll (b : List UInt8) : List OpV × Int × Int := if 1048576 < b.length then ([], 0, 11) else ((dFrom [] b).1, ((b.length - (dFrom [] b).2.1.length : Nat) : Int), (dFrom [] b).2.2)

/-- What Decode answers. -/
def decO (b : List UInt8) : List OpV × Int := if (dAll b).2.2 ≠ 0 then ([], (dAll b).2.2) else ((dAll b).1, 0)
theorem rdec_ops (b : List UInt8) (hb : b.length ≤ 140737488355328) :
    PC Try.prog 5 [.sl 1 false (bts b)] (.tup [.sl 446 false (ops (decO b).1), .int .i64 (decO b).2]) := by
  refine PC.fact 7 f_script_Decode (by simp) ⟨Pu_bts b, trivial⟩ ⟨Pu_ops _, trivial, trivial⟩ ?_
  unfold c_script_Decode decO dAll
  by_cases hbig : 1048576 < b.length
  · have db : decide ((1048576 : Int) < (b.length : Int)) = true := by rw [decide_eq_true_eq]; omega
    simp only [if_pos hbig]
    try refine go_on ?_
    refine tri_condT ?_ (by (try simp only [go_sem, db]); try exact evd)
    try refine go_on ?_
    refine ⟨_, (by first | rfl | exact evd), .inr ⟨.tup [.sl 0 true [], .int .i64 11], evd, ⟨trivial, trivial, trivial⟩, Wk.tup ⟨Wk.empty _ _ _, Wk.refl _, trivial⟩⟩⟩
  have db : decide ((1048576 : Int) < (b.length : Int)) = false := by rw [decide_eq_false_iff_not]; omega
  simp only [if_neg hbig]
  have k := rdecode_walk b hb
  generalize dFrom [] b = R at *
  obtain ⟨l, n, e⟩ := R
  dsimp only at k ⊢
  try refine go_on ?_
  refine tri_condF ?_ (by (try simp only [go_sem, db]); try exact evd)
  try refine go_on ?_
  refine pcall k ?_
  try refine go_on ?_
  by_cases he : e = 0
  · subst he
    rw [if_neg (by simp)]
    refine tri_condF ?_
    try refine go_on ?_
    refine ⟨_, (by first | rfl | exact evd), .inl ?_⟩; (try simp only [go_sem, Nat.reduceAdd, Nat.reduceSub, Nat.reduceMul, Nat.reduceLT, Nat.reduceLeDiff, Nat.reduceEqDiff, reduceIte, Int.reduceToNat, Int.reduceLT, Int.reduceLE, Int.reduceEq, Int.reduceNeg, reduceCtorEq, Int.reduceBEq, Int.reduceBNe])
  · have he' : (e != 0) = true := by simpa using he
    rw [if_pos he]
    refine tri_condT ?_ (by (try simp only [go_sem, he']); try exact evd)
    try refine go_on ?_
    refine ⟨_, (by first | rfl | exact evd), .inr ⟨.tup [.sl 0 true [], .int .i64 e], evd, ⟨trivial, trivial, trivial⟩, Wk.tup ⟨Wk.empty _ _ _, Wk.refl _, trivial⟩⟩⟩
theorem rpre_ops (b : List UInt8) (hb : b.length ≤ 140737488355328) :
    PC Try.prog 6 [.sl 1 false (bts b)] (.tup [.sl 446 false (ops (dAll b).1), .int .i64 (dAll b).2.1]) := by
  refine PC.fact 4 f_script_Prefix (by simp) ⟨Pu_bts b, trivial⟩ ⟨Pu_ops _, trivial, trivial⟩ ?_
  unfold c_script_Prefix dAll
  by_cases hbig : 1048576 < b.length
  · have db : decide ((1048576 : Int) < (b.length : Int)) = true := by rw [decide_eq_true_eq]; omega
    simp only [if_pos hbig]
    try refine go_on ?_
    refine tri_condT ?_ (by (try simp only [go_sem, db]); try exact evd)
    try refine go_on ?_
    refine ⟨_, (by first | rfl | exact evd), .inr ⟨.tup [.sl 0 true [], .int .i64 0], evd, ⟨trivial, trivial, trivial⟩, Wk.tup ⟨Wk.empty _ _ _, Wk.refl _, trivial⟩⟩⟩
  have db : decide ((1048576 : Int) < (b.length : Int)) = false := by rw [decide_eq_false_iff_not]; omega
  simp only [if_neg hbig]
  have k := rdecode_walk b hb
  generalize dFrom [] b = R at *
  obtain ⟨l, n, e⟩ := R
  dsimp only at k ⊢
  try refine go_on ?_
  refine tri_condF ?_ (by (try simp only [go_sem, db]); try exact evd)
  try refine go_on ?_
  refine pcall k ?_
  try refine go_on ?_
  refine ⟨_, (by first | rfl | exact evd), .inl ?_⟩; (try simp only [go_sem, Nat.reduceAdd, Nat.reduceSub, Nat.reduceMul, Nat.reduceLT, Nat.reduceLeDiff, Nat.reduceEqDiff, reduceIte, Int.reduceToNat, Int.reduceLT, Int.reduceLE, Int.reduceEq, Int.reduceNeg, reduceCtorEq, Int.reduceBEq, Int.reduceBNe])

end Go.Proofs.Ytachiahepppajab
