/-
  Operations: the reference encodes the field that a kind uses.
-/
import Derived.Test.YtachiahepppajaaGc
namespace Go.Proofs.Ytachiahepppajaa
open Go Go.FH Go.RowKit
set_option linter.unusedVariables false
set_option linter.unusedSimpArgs false

set_option maxHeartbeats 4000000 in
theorem sfield_walk (x : OpV) (hx : OpU x) : PC Try.prog 112 [.agg (sOpC (opL x))] (.tup [.sl 1 false (bts (fld x).1), .int .i64 (fld x).2]) := by
  refine PC.fact 4 f_ref4_field (by simp) ⟨PuL_opL x, trivial⟩ ⟨Pu_bts _, trivial, trivial⟩ ?_
  unfold c_ref4_field fld
  by_cases h2 : x.kind = 2
  · rw [if_pos h2]
    have e2 : (x.kind == 2) = true := by simp [h2]
    try refine go_on ?_
    refine tri_condT ?_ (by (try simp only [go_sem, e2]); try exact evd)
    try refine go_on ?_
    refine pcall (senc_blk x.blk hx.blk) ?_
    try refine go_on ?_
    refine ⟨_, (by first | rfl | exact evd), .inl ?_⟩; (try simp only [go_sem, Nat.reduceAdd, Nat.reduceSub, Nat.reduceMul, Nat.reduceLT, Nat.reduceLeDiff, Nat.reduceEqDiff, reduceIte, Int.reduceToNat, Int.reduceLT, Int.reduceLE, Int.reduceEq, Int.reduceNeg, reduceCtorEq, Int.reduceBEq, Int.reduceBNe])
  rw [if_neg h2]
  have n2 : (x.kind == 2) = false := by simp [h2]
  by_cases h3 : x.kind = 3
  · rw [if_pos h3]
    have e3 : (x.kind == 3) = true := by simp [h3]
    have k3 := senc_att (attL x.att) x.att.2.2.2 false rfl hx.att hx.slot hx.ep
    try refine go_on ?_
    refine tri_condF ?_ (by (try simp only [go_sem, n2]); try exact evd)
    try refine go_on ?_
    refine tri_condT ?_ (by (try simp only [go_sem, e3]); try exact evd)
    try refine go_on ?_
    refine pcall k3 ?_
    try refine go_on ?_
    refine ⟨_, (by first | rfl | exact evd), .inl ?_⟩; (try simp only [go_sem, Nat.reduceAdd, Nat.reduceSub, Nat.reduceMul, Nat.reduceLT, Nat.reduceLeDiff, Nat.reduceEqDiff, reduceIte, Int.reduceToNat, Int.reduceLT, Int.reduceLE, Int.reduceEq, Int.reduceNeg, reduceCtorEq, Int.reduceBEq, Int.reduceBNe])
  rw [if_neg h3]
  have n3 : (x.kind == 3) = false := by simp [h3]
  by_cases h4 : x.kind = 4
  · rw [if_pos h4]
    have e4 : (x.kind == 4) = true := by simp [h4]
    have k4 := senc_slg (slgL x.slg) x.slg.1.2.2.2 x.slg.2.2.2.2 false false hx.fst hx.snd
    try refine go_on ?_
    refine tri_condF ?_ (by (try simp only [go_sem, n2]); try exact evd)
    try refine go_on ?_
    refine tri_condF ?_ (by (try simp only [go_sem, n3]); try exact evd)
    try refine go_on ?_
    refine tri_condT ?_ (by (try simp only [go_sem, e4]); try exact evd)
    try refine go_on ?_
    refine pcall k4 ?_
    try refine go_on ?_
    refine ⟨_, (by first | rfl | exact evd), .inl ?_⟩; (try simp only [go_sem, Nat.reduceAdd, Nat.reduceSub, Nat.reduceMul, Nat.reduceLT, Nat.reduceLeDiff, Nat.reduceEqDiff, reduceIte, Int.reduceToNat, Int.reduceLT, Int.reduceLE, Int.reduceEq, Int.reduceNeg, reduceCtorEq, Int.reduceBEq, Int.reduceBNe])
  rw [if_neg h4]
  have n4 : (x.kind == 4) = false := by simp [h4]
  by_cases h5 : x.kind = 5
  · rw [if_pos h5]
    have e5 : (x.kind == 5) = true := by simp [h5]
    have k5 := senc_tab (tabL x.tab) x.tab.2 false hx.tab
    try refine go_on ?_
    refine tri_condF ?_ (by (try simp only [go_sem, n2]); try exact evd)
    try refine go_on ?_
    refine tri_condF ?_ (by (try simp only [go_sem, n3]); try exact evd)
    try refine go_on ?_
    refine tri_condF ?_ (by (try simp only [go_sem, n4]); try exact evd)
    try refine go_on ?_
    refine tri_condT ?_ (by (try simp only [go_sem, e5]); try exact evd)
    try refine go_on ?_
    refine pcall k5 ?_
    try refine go_on ?_
    refine ⟨_, (by first | rfl | exact evd), .inl ?_⟩; (try simp only [go_sem, Nat.reduceAdd, Nat.reduceSub, Nat.reduceMul, Nat.reduceLT, Nat.reduceLeDiff, Nat.reduceEqDiff, reduceIte, Int.reduceToNat, Int.reduceLT, Int.reduceLE, Int.reduceEq, Int.reduceNeg, reduceCtorEq, Int.reduceBEq, Int.reduceBNe])
  rw [if_neg h5]
  have n5 : (x.kind == 5) = false := by simp [h5]
  by_cases h6 : x.kind = 6
  · rw [if_pos h6]
    have e6 : (x.kind == 6) = true := by simp [h6]
    have k6 := senc_vdt x.vdt hx.tag
    try refine go_on ?_
    refine tri_condF ?_ (by (try simp only [go_sem, n2]); try exact evd)
    try refine go_on ?_
    refine tri_condF ?_ (by (try simp only [go_sem, n3]); try exact evd)
    try refine go_on ?_
    refine tri_condF ?_ (by (try simp only [go_sem, n4]); try exact evd)
    try refine go_on ?_
    refine tri_condF ?_ (by (try simp only [go_sem, n5]); try exact evd)
    try refine go_on ?_
    refine tri_condT ?_ (by (try simp only [go_sem, e6]); try exact evd)
    try refine go_on ?_
    refine pcall k6 ?_
    try refine go_on ?_
    refine ⟨_, (by first | rfl | exact evd), .inl ?_⟩; (try simp only [go_sem, Nat.reduceAdd, Nat.reduceSub, Nat.reduceMul, Nat.reduceLT, Nat.reduceLeDiff, Nat.reduceEqDiff, reduceIte, Int.reduceToNat, Int.reduceLT, Int.reduceLE, Int.reduceEq, Int.reduceNeg, reduceCtorEq, Int.reduceBEq, Int.reduceBNe])
  rw [if_neg h6]
  have n6 : (x.kind == 6) = false := by simp [h6]
  try refine go_on ?_
  refine tri_condF ?_ (by (try simp only [go_sem, n2]); try exact evd)
  try refine go_on ?_
  refine tri_condF ?_ (by (try simp only [go_sem, n3]); try exact evd)
  try refine go_on ?_
  refine tri_condF ?_ (by (try simp only [go_sem, n4]); try exact evd)
  try refine go_on ?_
  refine tri_condF ?_ (by (try simp only [go_sem, n5]); try exact evd)
  try refine go_on ?_
  refine tri_condF ?_ (by (try simp only [go_sem, n6]); try exact evd)
  try refine go_on ?_
  by_cases h8 : x.kind = 8
  · rw [if_pos h8]
    have e8 : (x.kind == 8) = true := by simp [h8]
    refine tri_condT ?_ (by (try simp only [go_sem, e8]); try exact evd)
    by_cases a1 : x.write < 0
    · have d1 : decide (x.write < 0) = true := by simpa using a1
      have hb : bad8 x = true := by simp [bad8]; omega
      rw [hb]
      simp only [if_true]
      repeat (first | refine go_on ?_ | simp only [go_sem, d1])
      refine tri_condT ?_
      try refine go_on ?_
      refine ⟨_, rfl, .inr ⟨.tup [.sl 0 true [], .int .i64 3], evd, ⟨trivial, trivial, trivial⟩, Wk.tup ⟨Wk.empty _ _ _, Wk.refl _, trivial⟩⟩⟩
    have d1 : decide (x.write < 0) = false := by simpa using a1
    by_cases a2 : 32768 < x.write
    · have d2 : decide (32768 < x.write) = true := by simpa using a2
      have hb : bad8 x = true := by simp [bad8]; omega
      rw [hb]
      simp only [if_true]
      repeat (first | refine go_on ?_ | simp only [go_sem, d1, d2])
      refine tri_condT ?_
      try refine go_on ?_
      refine ⟨_, rfl, .inr ⟨.tup [.sl 0 true [], .int .i64 3], evd, ⟨trivial, trivial, trivial⟩, Wk.tup ⟨Wk.empty _ _ _, Wk.refl _, trivial⟩⟩⟩
    have d2 : decide (32768 < x.write) = false := by simpa using a2
    by_cases a3 : x.keep < 0
    · have d3 : decide (x.keep < 0) = true := by simpa using a3
      have hb : bad8 x = true := by simp [bad8]; omega
      rw [hb]
      simp only [if_true]
      repeat (first | refine go_on ?_ | simp only [go_sem, d1, d2, d3])
      refine tri_condT ?_
      try refine go_on ?_
      refine ⟨_, rfl, .inr ⟨.tup [.sl 0 true [], .int .i64 3], evd, ⟨trivial, trivial, trivial⟩, Wk.tup ⟨Wk.empty _ _ _, Wk.refl _, trivial⟩⟩⟩
    have d3 : decide (x.keep < 0) = false := by simpa using a3
    by_cases a4 : 32768 < x.keep
    · have d4 : decide (32768 < x.keep) = true := by simpa using a4
      have hb : bad8 x = true := by simp [bad8]; omega
      rw [hb]
      simp only [if_true]
      repeat (first | refine go_on ?_ | simp only [go_sem, d1, d2, d3, d4])
      refine tri_condT ?_
      try refine go_on ?_
      refine ⟨_, rfl, .inr ⟨.tup [.sl 0 true [], .int .i64 3], evd, ⟨trivial, trivial, trivial⟩, Wk.tup ⟨Wk.empty _ _ _, Wk.refl _, trivial⟩⟩⟩
    have d4 : decide (32768 < x.keep) = false := by simpa using a4
    have hb : bad8 x = false := by simp [bad8]; omega
    have w1 : IntKind.u64.wrap x.write = x.write := wrap_u64_in (by omega) (by omega)
    have w2 : IntKind.u64.wrap x.keep = x.keep := wrap_u64_in (by omega) (by omega)
    have q1 := uenc_len10 (n := x.write.toNat) (by omega)
    have q2 := uenc_len10 (n := x.keep.toNat) (by omega)
    have p1 := (suint_app x.write (by omega) (by omega)).nil (by omega)
    have p2 := (suint_app x.keep (by omega) (by omega)).own (uenc x.write.toNat) (by omega)
    rw [hb]
    simp only [Bool.false_eq_true, if_false]
    repeat (first | refine go_on ?_ | simp only [go_sem, d1, d2, d3, d4])
    refine tri_condF ?_
    repeat (first | refine go_on ?_ | simp only [go_sem, w1, w2])
    refine dcalls [] (p1) (by simp) evd (PickS.mk' (by simp) (by simp) evd) ?_; refine evg ?_
    repeat (first | refine go_on ?_ | simp only [go_sem, w1, w2])
    refine dcalls [1] (p2) (by simp) evd (PickS.mk' (by simp) (by simp) evd) ?_; refine evg ?_
    try refine go_on ?_
    refine ⟨_, (by first | rfl | exact evd), .inl ?_⟩; (try simp only [go_sem, Nat.reduceAdd, Nat.reduceSub, Nat.reduceMul, Nat.reduceLT, Nat.reduceLeDiff, Nat.reduceEqDiff, reduceIte, Int.reduceToNat, Int.reduceLT, Int.reduceLE, Int.reduceEq, Int.reduceNeg, reduceCtorEq, Int.reduceBEq, Int.reduceBNe])
  · rw [if_neg h8]
    have n8 : (x.kind == 8) = false := by simp [h8]
    refine tri_condF ?_ (by (try simp only [go_sem, n8]); try exact evd)
    try refine go_on ?_
    refine ⟨_, rfl, .inr ⟨.tup [.sl 0 true [], .int .i64 0], evd, ⟨trivial, trivial, trivial⟩, Wk.tup ⟨Wk.empty _ _ _, Wk.refl _, trivial⟩⟩⟩
end Go.Proofs.Ytachiahepppajaa
