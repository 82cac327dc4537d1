/-
  Operations: the reference decodes a script; what is exported; lists of operations are compared.
-/
import Derived.Test.YtachiahepppajaaGj
namespace Go.Proofs.Ytachiahepppajaa
open Go Go.FH Go.RowKit
set_option linter.unusedVariables false
set_option linter.unusedSimpArgs false

theorem drop_suf {s b : List UInt8} (h : s <:+ b) : List.drop (b.length - s.length) b = s := by
  obtain ⟨p, rfl⟩ := h
  rw [len_behind, List.drop_left]

/-- What the reference reads. -/
def dAll (b : List UInt8) : List OpV × Int × Int := if 1048576 < b.length then ([], 0, 11) else ((dFrom [] b).1, ((b.length - (dFrom [] b).2.1.length : Nat) : Int), (dFrom [] b).2.2)

set_option maxRecDepth 100000 in
set_option maxHeartbeats 4000000 in
theorem sdecode_walk (b : List UInt8) (hb : b.length ≤ 140737488355328) :
    PC Try.prog 116 [.sl 1 false (bts b)] (.tup [.sl 446 false (ops (dAll b).1), .int .i64 (dAll b).2.1, .int .i64 (dAll b).2.2]) := by
  refine PC.fact 10 f_ref4_decode (by simp) ⟨Pu_bts b, trivial⟩ ⟨Pu_ops _, trivial, trivial, trivial⟩ ?_
  unfold c_ref4_decode dAll
  by_cases hbig : 1048576 < b.length
  · have db : decide ((1048576 : Int) < (b.length : Int)) = true := by rw [decide_eq_true_eq]; omega
    rw [if_pos hbig]
    try refine go_on ?_
    refine tri_condT ?_ (by (try simp only [go_sem, db]); try exact evd)
    try refine go_on ?_
    refine ⟨_, (by first | rfl | exact evd), .inr ⟨.tup [.sl 0 true [], .int .i64 0, .int .i64 11], evd, ⟨trivial, trivial, trivial, trivial⟩, Wk.tup ⟨Wk.empty _ _ _, Wk.refl _, Wk.refl _, trivial⟩⟩⟩
  have db : decide ((1048576 : Int) < (b.length : Int)) = false := by rw [decide_eq_false_iff_not]; omega
  rw [if_neg hbig]
  generalize hR : dFrom [] b = R
  try refine go_on ?_
  refine tri_condF ?_ (by (try simp only [go_sem, db]); try exact evd)
  try refine go_on ?_
  refine tri_loopG (fun x : Bool × List OpV × List UInt8 => ⟨10, [.sl 1 false (bts b), .dead, .sl 0 true [], .int .i64 0, .int .i64 0, if x.1 then .hs 446 0 0 x.2.1.length else .sl 0 true [], .int .i64 ((b.length - x.2.2.length : Nat) : Int), .dead, .dead, .dead], []⟩)
    (fun x => if x.1 then [.vec 446 (ops x.2.1)] else []) (fun x => 4096 - x.2.1.length)
    (fun x => x.2.1.length ≤ 4096 ∧ (x.1 = false → x.2.1 = []) ∧ x.2.2 <:+ b ∧ dFrom x.2.1 x.2.2 = R) (false, [], b) ⟨by simp, by simp, List.suffix_refl _, hR⟩ ?_ ?_
  · simp only [Nat.sub_self]
    refine GC.mk' [] [] (by simp) rfl (by simp) (by simp) evd evd
  rintro ⟨st, l, bs⟩ ⟨i1, i2, i3, i4⟩
  dsimp only at i1 i2 i3 i4 ⊢
  have hle := i3.length_le
  rw [dFrom] at i4
  by_cases h0 : bs = []
  · subst h0
    rw [if_pos rfl] at i4
    subst i4
    dsimp only
    have dp : decide ((b.length : Int) < (b.length : Int)) = false := by simp
    cases st
    · obtain rfl := i2 rfl
      try refine go_on ?_
      refine tri_condF ?_ (by (try simp only [go_sem, dp]); try exact evd)
      try refine go_on ?_
      refine ⟨_, (by first | rfl | exact evd), .inr ⟨.tup [.sl 0 true [], .int .i64 ((b.length : Nat) : Int), .int .i64 0], evd, ⟨trivial, trivial, trivial, trivial⟩, Wk.tup ⟨Wk.empty _ _ _, Wk.refl _, Wk.refl _, trivial⟩⟩⟩
    · try refine go_on ?_
      refine tri_condF ?_ (by (try simp only [go_sem, dp]); try exact evd)
      try refine go_on ?_
      refine ⟨_, (by first | rfl | exact evd), .inl ?_⟩; (try simp only [go_sem, Nat.reduceAdd, Nat.reduceSub, Nat.reduceMul, Nat.reduceLT, Nat.reduceLeDiff, Nat.reduceEqDiff, reduceIte, Int.reduceToNat, Int.reduceLT, Int.reduceLE, Int.reduceEq, Int.reduceNeg, reduceCtorEq, Int.reduceBEq, Int.reduceBNe])
  rw [if_neg h0] at i4
  have hp : 0 < bs.length := List.length_pos_iff.2 h0
  have hdr := drop_suf i3
  obtain ⟨a, ha⟩ : ∃ a : Nat, b.length - bs.length = a := ⟨_, rfl⟩
  rw [ha] at hdr
  rw [ha]
  have htk : List.take (b.length - a) bs = bs := List.take_of_length_le (by omega)
  have ha2 : (a : Int) ≤ (b.length : Int) := by omega
  have dp : decide ((a : Int) < (b.length : Int)) = true := by rw [decide_eq_true_eq]; omega
  by_cases h1 : 4096 ≤ l.length
  · rw [if_pos h1] at i4
    subst i4
    dsimp only
    have e4 : ((l.length : Int) == 4096) = true := by rw [beq_iff_eq]; omega
    rw [ha]
    cases st
    · obtain rfl := i2 rfl
      simp at h1
    · try refine go_on ?_
      refine tri_condT ?_ (by (try simp only [go_sem, dp]); try exact evd)
      try refine go_on ?_
      refine tri_condT ?_ (by (try simp only [go_sem, e4]); try exact evd)
      try refine go_on ?_
      refine ⟨_, (by first | rfl | exact evd), .inl ?_⟩; (try simp only [go_sem, Nat.reduceAdd, Nat.reduceSub, Nat.reduceMul, Nat.reduceLT, Nat.reduceLeDiff, Nat.reduceEqDiff, reduceIte, Int.reduceToNat, Int.reduceLT, Int.reduceLE, Int.reduceEq, Int.reduceNeg, reduceCtorEq, Int.reduceBEq, Int.reduceBNe])
  rw [if_neg h1] at i4
  have e4 : ((l.length : Int) == 4096) = false := by rw [beq_eq_false_iff_ne]; omega
  have co := nop_walk bs (by omega)
  have hs := rOp_suf bs
  have hn := @nOp_ok bs
  have hn2 := @nOp_bad bs
  generalize rOp bs = X at *
  obtain ⟨x, b2, e⟩ := X
  dsimp only at hs i4
  by_cases he : e = 0
  · subst he
    rw [hn rfl] at co
    rw [if_neg (by simp)] at i4
    have hl2 := hs.length_le
    dsimp only at co
    obtain ⟨u, hu⟩ : ∃ u : Nat, bs.length - b2.length = u := ⟨_, rfl⟩
    rw [hu] at co
    have hw : IntKind.i64.wrap ((a : Int) + (u : Int)) = ((b.length - b2.length : Nat) : Int) := by rw [wrap_i64_in (by omega) (by omega)]; omega
    cases st
    · obtain rfl := i2 rfl
      try refine go_on ?_
      refine tri_condT ?_ (by (try simp only [go_sem, dp]); try exact evd)
      try refine go_on ?_
      refine tri_condF ?_ (by (try simp only [go_sem, e4]); try exact evd)
      repeat (first | refine go_on ?_ | simp only [go_sem, hdr, htk])
      refine pcall co ?_
      try refine go_on ?_
      refine tri_condF ?_
      repeat (first | refine go_on ?_ | simp only [go_sem, hw])
      refine ⟨(true, [] ++ [x], b2), ⟨by simp, by simp, hs.trans i3, i4⟩, by simp only [List.length_append, List.length_cons, List.length_nil] at h1 ⊢; omega, ?_⟩
      refine GC.mk' [] [1] (by simp) rfl (by simp) (by simp) evd evd
    · try refine go_on ?_
      refine tri_condT ?_ (by (try simp only [go_sem, dp]); try exact evd)
      try refine go_on ?_
      refine tri_condF ?_ (by (try simp only [go_sem, e4]); try exact evd)
      repeat (first | refine go_on ?_ | simp only [go_sem, hdr, htk])
      refine pcall co ?_
      try refine go_on ?_
      refine tri_condF ?_
      repeat (first | refine go_on ?_ | simp only [go_sem, hw])
      refine ⟨(true, l ++ [x], b2), ⟨by simp only [List.length_append, List.length_cons, List.length_nil]; omega, by simp, hs.trans i3, i4⟩, by simp only [List.length_append, List.length_cons, List.length_nil]; omega, ?_⟩
      refine GC.mk' [] [2] (by simp) rfl (by simp) (by simp) evd evd
  · have he' : (e != 0) = true := by simpa using he
    rw [hn2 rfl he] at co
    dsimp only at co
    rw [if_pos he] at i4
    subst i4
    dsimp only
    rw [ha]
    cases st
    · obtain rfl := i2 rfl
      try refine go_on ?_
      refine tri_condT ?_ (by (try simp only [go_sem, dp]); try exact evd)
      try refine go_on ?_
      refine tri_condF ?_ (by (try simp only [go_sem, e4]); try exact evd)
      repeat (first | refine go_on ?_ | simp only [go_sem, hdr, htk])
      refine pcall co ?_
      try refine go_on ?_
      refine tri_condT ?_ (by (try simp only [go_sem, he']); try exact evd)
      try refine go_on ?_
      refine ⟨_, (by first | rfl | exact evd), .inr ⟨.tup [.sl 0 true [], .int .i64 (a : Int), .int .i64 e], evd, ⟨trivial, trivial, trivial, trivial⟩, Wk.tup ⟨Wk.empty _ _ _, Wk.refl _, Wk.refl _, trivial⟩⟩⟩
    · try refine go_on ?_
      refine tri_condT ?_ (by (try simp only [go_sem, dp]); try exact evd)
      try refine go_on ?_
      refine tri_condF ?_ (by (try simp only [go_sem, e4]); try exact evd)
      repeat (first | refine go_on ?_ | simp only [go_sem, hdr, htk])
      refine pcall co ?_
      try refine go_on ?_
      refine tri_condT ?_ (by (try simp only [go_sem, he']); try exact evd)
      try refine go_on ?_
      refine ⟨_, (by first | rfl | exact evd), .inl ?_⟩; (try simp only [go_sem, Nat.reduceAdd, Nat.reduceSub, Nat.reduceMul, Nat.reduceLT, Nat.reduceLeDiff, Nat.reduceEqDiff, reduceIte, Int.reduceToNat, Int.reduceLT, Int.reduceLE, Int.reduceEq, Int.reduceNeg, reduceCtorEq, Int.reduceBEq, Int.reduceBNe])

/-- What Decode answers. -/
def decO (b : List UInt8) : List OpV × Int := if (dAll b).2.2 ≠ 0 then ([], (dAll b).2.2) else ((dAll b).1, 0)
theorem sdec_ops (b : List UInt8) (hb : b.length ≤ 140737488355328) :
    PC Try.prog 76 [.sl 1 false (bts b)] (.tup [.sl 446 false (ops (decO b).1), .int .i64 (decO b).2]) := by
  refine PC.fact 7 f_ref4_DecodeOps (by simp) ⟨Pu_bts b, trivial⟩ ⟨Pu_ops _, trivial, trivial⟩ ?_
  unfold c_ref4_DecodeOps decO
  have k := sdecode_walk b hb
  generalize dAll b = R at *
  obtain ⟨l, n, e⟩ := R
  dsimp only at k ⊢
  try refine go_on ?_
  refine pcall k ?_
  try refine go_on ?_
  by_cases he : e = 0
  · subst he
    rw [if_neg (by simp)]
    refine tri_condF ?_
    try refine go_on ?_
    refine ⟨_, (by first | rfl | exact evd), .inl ?_⟩; (try simp only [go_sem, Nat.reduceAdd, Nat.reduceSub, Nat.reduceMul, Nat.reduceLT, Nat.reduceLeDiff, Nat.reduceEqDiff, reduceIte, Int.reduceToNat, Int.reduceLT, Int.reduceLE, Int.reduceEq, Int.reduceNeg, reduceCtorEq, Int.reduceBEq, Int.reduceBNe])
  · have he' : (e != 0) = true := by simpa using he
    rw [if_pos he]
    refine tri_condT ?_ (by (try simp only [go_sem, he']); try exact evd)
    try refine go_on ?_
    refine ⟨_, (by first | rfl | exact evd), .inr ⟨.tup [.sl 0 true [], .int .i64 e], evd, ⟨trivial, trivial, trivial⟩, Wk.tup ⟨Wk.empty _ _ _, Wk.refl _, trivial⟩⟩⟩
theorem rdec_ops (b : List UInt8) (hb : b.length ≤ 140737488355328) :
    PC Try.prog 75 [.sl 1 false (bts b)] (.tup [.sl 446 false (ops (decO b).1), .int .i64 (decO b).2]) := by
  refine PC.fact 7 f_script_Decode (by simp) ⟨Pu_bts b, trivial⟩ ⟨Pu_ops _, trivial, trivial⟩ ?_
  unfold c_script_Decode decO dAll
  by_cases hbig : 1048576 < b.length
  · have db : decide ((1048576 : Int) < (b.length : Int)) = true := by rw [decide_eq_true_eq]; omega
    simp only [if_pos hbig]
    try refine go_on ?_
    refine tri_condT ?_ (by (try simp only [go_sem, db]); try exact evd)
    try refine go_on ?_
    refine ⟨_, (by first | rfl | exact evd), .inr ⟨.tup [.sl 0 true [], .int .i64 11], evd, ⟨trivial, trivial, trivial⟩, Wk.tup ⟨Wk.empty _ _ _, Wk.refl _, trivial⟩⟩⟩
  have db : decide ((1048576 : Int) < (b.length : Int)) = false := by rw [decide_eq_false_iff_not]; omega
  simp only [if_neg hbig]
  have k := rdecode_walk b hb
  generalize dFrom [] b = R at *
  obtain ⟨l, n, e⟩ := R
  dsimp only at k ⊢
  try refine go_on ?_
  refine tri_condF ?_ (by (try simp only [go_sem, db]); try exact evd)
  try refine go_on ?_
  refine pcall k ?_
  try refine go_on ?_
  by_cases he : e = 0
  · subst he
    rw [if_neg (by simp)]
    refine tri_condF ?_
    try refine go_on ?_
    refine ⟨_, (by first | rfl | exact evd), .inl ?_⟩; (try simp only [go_sem, Nat.reduceAdd, Nat.reduceSub, Nat.reduceMul, Nat.reduceLT, Nat.reduceLeDiff, Nat.reduceEqDiff, reduceIte, Int.reduceToNat, Int.reduceLT, Int.reduceLE, Int.reduceEq, Int.reduceNeg, reduceCtorEq, Int.reduceBEq, Int.reduceBNe])
  · have he' : (e != 0) = true := by simpa using he
    rw [if_pos he]
    refine tri_condT ?_ (by (try simp only [go_sem, he']); try exact evd)
    try refine go_on ?_
    refine ⟨_, (by first | rfl | exact evd), .inr ⟨.tup [.sl 0 true [], .int .i64 e], evd, ⟨trivial, trivial, trivial⟩, Wk.tup ⟨Wk.empty _ _ _, Wk.refl _, trivial⟩⟩⟩
theorem spre_ops (b : List UInt8) (hb : b.length ≤ 140737488355328) :
    PC Try.prog 78 [.sl 1 false (bts b)] (.tup [.sl 446 false (ops (dAll b).1), .int .i64 (dAll b).2.1]) := by
  refine PC.fact 7 f_ref4_Prefix (by simp) ⟨Pu_bts b, trivial⟩ ⟨Pu_ops _, trivial, trivial⟩ ?_
  unfold c_ref4_Prefix
  have k := sdecode_walk b hb
  generalize dAll b = R at *
  obtain ⟨l, n, e⟩ := R
  dsimp only at k ⊢
  try refine go_on ?_
  refine pcall k ?_
  try refine go_on ?_
  refine ⟨_, (by first | rfl | exact evd), .inl ?_⟩; (try simp only [go_sem, Nat.reduceAdd, Nat.reduceSub, Nat.reduceMul, Nat.reduceLT, Nat.reduceLeDiff, Nat.reduceEqDiff, reduceIte, Int.reduceToNat, Int.reduceLT, Int.reduceLE, Int.reduceEq, Int.reduceNeg, reduceCtorEq, Int.reduceBEq, Int.reduceBNe])
theorem rpre_ops (b : List UInt8) (hb : b.length ≤ 140737488355328) :
    PC Try.prog 77 [.sl 1 false (bts b)] (.tup [.sl 446 false (ops (dAll b).1), .int .i64 (dAll b).2.1]) := by
  refine PC.fact 4 f_script_Prefix (by simp) ⟨Pu_bts b, trivial⟩ ⟨Pu_ops _, trivial, trivial⟩ ?_
  unfold c_script_Prefix dAll
  by_cases hbig : 1048576 < b.length
  · have db : decide ((1048576 : Int) < (b.length : Int)) = true := by rw [decide_eq_true_eq]; omega
    simp only [if_pos hbig]
    try refine go_on ?_
    refine tri_condT ?_ (by (try simp only [go_sem, db]); try exact evd)
    try refine go_on ?_
    refine ⟨_, (by first | rfl | exact evd), .inr ⟨.tup [.sl 0 true [], .int .i64 0], evd, ⟨trivial, trivial, trivial⟩, Wk.tup ⟨Wk.empty _ _ _, Wk.refl _, trivial⟩⟩⟩
  have db : decide ((1048576 : Int) < (b.length : Int)) = false := by rw [decide_eq_false_iff_not]; omega
  simp only [if_neg hbig]
  have k := rdecode_walk b hb
  generalize dFrom [] b = R at *
  obtain ⟨l, n, e⟩ := R
  dsimp only at k ⊢
  try refine go_on ?_
  refine tri_condF ?_ (by (try simp only [go_sem, db]); try exact evd)
  try refine go_on ?_
  refine pcall k ?_
  try refine go_on ?_
  refine ⟨_, (by first | rfl | exact evd), .inl ?_⟩; (try simp only [go_sem, Nat.reduceAdd, Nat.reduceSub, Nat.reduceMul, Nat.reduceLT, Nat.reduceLeDiff, Nat.reduceEqDiff, reduceIte, Int.reduceToNat, Int.reduceLT, Int.reduceLE, Int.reduceEq, Int.reduceNeg, reduceCtorEq, Int.reduceBEq, Int.reduceBNe])

/-- A list of operations is the same as itself. -/
theorem same_ops (l : List OpV) (hl : l.length ≤ 4096) (hu : ∀ x ∈ l, OpLen x) : PC Try.prog 79 [.sl 446 false (ops l), .sl 446 false (ops l)] (.bool true) := by
  refine PC.fact 6 f_ref4_SameOps (by simp) ⟨Pu_ops l, Pu_ops l, trivial⟩ trivial ?_
  unfold c_ref4_SameOps
  have e0 : ((l.length : Int) != (l.length : Int)) = false := by simp
  try refine go_on ?_
  refine tri_condF ?_ (by (try simp only [go_sem, e0]); try exact evd)
  try refine go_on ?_
  refine tri_loopG (fun i : Nat => ⟨6, [.sl 446 false (ops l), .sl 446 false (ops l), .dead, .dead, .bool false, .int .i64 i], []⟩) (fun _ => []) (fun i => l.length - i) (fun i => i ≤ l.length) 0 (by omega) ?_ ?_
  · refine GC.mk' [] [] (by simp) rfl (by simp) (by simp) evd evd
  intro i hi
  try dsimp only
  try refine go_on ?_
  refine tri_cond evd (fun h => ?_) (fun h => ?_)
  · have h1 : i < l.length := by simpa using h
    have hg := getD_ops h1
    have hw := wrap_i64_succ h1 (by omega)
    have k := same_op l[i] l[i] (hu _ (List.getElem_mem h1)) (hu _ (List.getElem_mem h1))
    rw [sameOp_self] at k
    repeat (first | refine go_on ?_ | simp only [go_sem, hg])
    refine dpcall (k) ?_
    try refine go_on ?_
    refine tri_condF ?_
    repeat (first | refine go_on ?_ | simp only [go_sem, hw])
    refine ⟨i + 1, h1, by omega, ?_⟩
    refine GC.mk' [] [] (by simp) rfl (by simp) (by simp) evd evd
  · try refine go_on ?_
    refine ⟨_, (by first | rfl | exact evd), .inl ?_⟩; (try simp only [go_sem, Nat.reduceAdd, Nat.reduceSub, Nat.reduceMul, Nat.reduceLT, Nat.reduceLeDiff, Nat.reduceEqDiff, reduceIte, Int.reduceToNat, Int.reduceLT, Int.reduceLE, Int.reduceEq, Int.reduceNeg, reduceCtorEq, Int.reduceBEq, Int.reduceBNe])
end Go.Proofs.Ytachiahepppajaa
