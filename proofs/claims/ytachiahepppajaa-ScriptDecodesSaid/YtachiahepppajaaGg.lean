/-
  Operations: the reference encodes a script.
-/
import Derived.Test.YtachiahepppajaaGf
namespace Go.Proofs.Ytachiahepppajaa
open Go Go.FH Go.RowKit
set_option linter.unusedVariables false
set_option linter.unusedSimpArgs false

set_option maxHeartbeats 4000000 in
theorem senc_ops (l : List OpV) (hu : ∀ x ∈ l, OpU x) (hl : l.length ≤ 140737488355328) :
    PC Try.prog 72 [.sl 446 false (ops l)] (.tup [.sl 1 false (bts (encOps l).1), .int .i64 (encOps l).2]) := by
  refine PC.fact 9 f_ref4_EncodeOps (by simp) ⟨Pu_ops l, trivial⟩ ⟨Pu_bts _, trivial, trivial⟩ ?_
  unfold c_ref4_EncodeOps encOps
  by_cases h0 : 4096 < l.length
  · have d0 : decide ((4096 : Int) < (l.length : Int)) = true := by rw [decide_eq_true_eq]; omega
    rw [if_pos h0]
    repeat (first | refine go_on ?_ | simp only [go_sem, d0])
    refine tri_condT ?_
    try refine go_on ?_
    refine ⟨_, rfl, .inr ⟨.tup [.sl 0 true [], .int .i64 11], evd, ⟨trivial, trivial, trivial⟩, Wk.tup ⟨Wk.empty _ _ _, Wk.refl _, trivial⟩⟩⟩
  have d0 : decide ((4096 : Int) < (l.length : Int)) = false := by rw [decide_eq_false_iff_not]; omega
  rw [if_neg h0]
  repeat (first | refine go_on ?_ | simp only [go_sem, d0])
  refine tri_condF ?_
  try refine go_on ?_
  refine tri_loopG (fun x : Bool × List UInt8 × Nat => ⟨9, [.sl 446 false (ops l), .dead, .sl 0 true [], .int .i64 0, if x.1 then .hs 1 0 0 x.2.1.length else .sl 0 true [], .int .i64 x.2.2, .dead, .dead, .dead], []⟩)
    (fun x => if x.1 then [.vec 1 (bts x.2.1)] else []) (fun x => l.length - x.2.2)
    (fun x => x.2.2 ≤ l.length ∧ x.2.1.length ≤ 40000 * x.2.2 ∧ (x.1 = false → x.2.1 = []) ∧ (eFrom (l.drop x.2.2)).2 = (eFrom l).2 ∧ ((eFrom l).2 = 0 → (eFrom l).1 = x.2.1 ++ (eFrom (l.drop x.2.2)).1)) (false, [], 0) ⟨by simp, by simp, by simp, rfl, fun _ => rfl⟩ ?_ ?_
  · refine GC.mk' [] [] (by simp) rfl (by simp) (by simp) evd evd
  rintro ⟨st, bs, i⟩ ⟨i1, i2, i3, i4, i5⟩
  dsimp only at i1 i2 i3 i4 i5 ⊢
  by_cases hi : i < l.length
  · have hg := getD_ops hi
    have hw := wrap_i64_succ hi (by omega)
    have hd : decide ((i : Int) < (l.length : Int)) = true := by rw [decide_eq_true_eq]; omega
    have ux : OpU l[i] := hu _ (List.getElem_mem hi)
    have k1 := svalid_walk l[i] ux
    have k2 := sfield_walk l[i] ux
    rw [eFrom_s hi] at i4 i5
    by_cases hv : vOp l[i] = 0
    · rw [hv] at k1
      simp only [hv, ne_eq, not_true_eq_false, if_false] at i4 i5
      have hk := vOp_kind hv
      have hf := fld_le ux
      have hq := uenc_len10 (n := l[i].kind.toNat) (by omega)
      have hwk : IntKind.u64.wrap l[i].kind = l[i].kind := wrap_u64_in (by omega) (by omega)
      have ho : oenc l[i] = uenc l[i].kind.toNat ++ (fld l[i]).1 := rfl
      have hol : (oenc l[i]).length = (uenc l[i].kind.toNat).length + (fld l[i]).1.length := by rw [ho, List.length_append]
      generalize oenc l[i] = O at *
      generalize fld l[i] = F at *
      obtain ⟨f, e⟩ := F
      dsimp only at k2 hf ho hol
      cases st
      · obtain rfl := i3 rfl
        have p1 := (suint_app l[i].kind (by omega) (by omega)).nil (by omega)
        repeat (first | refine go_on ?_ | simp only [go_sem, hg, hd])
        refine tri_condT ?_
        repeat (first | refine go_on ?_ | simp only [go_sem, hg, hd])
        refine pcall k1 ?_
        try refine go_on ?_
        refine tri_condF ?_
        repeat (first | refine go_on ?_ | simp only [go_sem, hg])
        refine pcall k2 ?_
        repeat (first | refine go_on ?_ | simp only [go_sem, hg, hwk])
        refine ocall [] (p1) evd (Picks.mk' (by simp) evd) ?_; refine evg ?_
        repeat (first | refine go_on ?_ | simp only [go_sem, hw])
        refine ⟨(true, O, i + 1), ⟨hi, by dsimp only; omega, by simp, i4, fun h => by rw [i5 h]; simp⟩, by dsimp only; omega, ?_⟩
        rw [ho]
        refine GC.mk' [] [1] (by simp) rfl (by simp) (by simp) evd evd
      · have p1 := (suint_app l[i].kind (by omega) (by omega)).own bs (by omega)
        repeat (first | refine go_on ?_ | simp only [go_sem, hg, hd])
        refine tri_condT ?_
        repeat (first | refine go_on ?_ | simp only [go_sem, hg, hd])
        refine pcall k1 ?_
        try refine go_on ?_
        refine tri_condF ?_
        repeat (first | refine go_on ?_ | simp only [go_sem, hg])
        refine pcall k2 ?_
        repeat (first | refine go_on ?_ | simp only [go_sem, hg, hwk])
        refine ocall [0] (p1) evd (Picks.mk' (by simp) evd) ?_; refine evg ?_
        repeat (first | refine go_on ?_ | simp only [go_sem, hw])
        refine ⟨(true, bs ++ O, i + 1), ⟨hi, by dsimp only; rw [List.length_append]; omega, by simp, i4, fun h => by rw [i5 h]; simp⟩, by dsimp only; omega, ?_⟩
        rw [ho, ← List.append_assoc]
        refine GC.mk' [] [2] (by simp) rfl (by simp) (by simp) evd evd
    · have hv' : (vOp l[i] != 0) = true := by simpa using hv
      simp only [hv, ne_eq, not_false_eq_true, if_true] at i4 i5
      rw [← i4, if_pos hv]
      cases st
      · repeat (first | refine go_on ?_ | simp only [go_sem, hg, hd])
        refine tri_condT ?_
        repeat (first | refine go_on ?_ | simp only [go_sem, hg, hd])
        refine pcall k1 ?_
        try refine go_on ?_
        refine tri_condT ?_ (by (try simp only [go_sem, hv']); try exact evd)
        try refine go_on ?_
        refine ⟨_, rfl, .inr ⟨.tup [.sl 0 true [], .int .i64 (vOp l[i])], evd, ⟨trivial, trivial, trivial⟩, Wk.tup ⟨Wk.empty _ _ _, Wk.refl _, trivial⟩⟩⟩
      · repeat (first | refine go_on ?_ | simp only [go_sem, hg, hd])
        refine tri_condT ?_
        repeat (first | refine go_on ?_ | simp only [go_sem, hg, hd])
        refine pcall k1 ?_
        try refine go_on ?_
        refine tri_condT ?_ (by (try simp only [go_sem, hv']); try exact evd)
        try refine go_on ?_
        refine ⟨_, rfl, .inr ⟨.tup [.sl 0 true [], .int .i64 (vOp l[i])], evd, ⟨trivial, trivial, trivial⟩, Wk.tup ⟨Wk.empty _ _ _, Wk.refl _, trivial⟩⟩⟩
  · have hd : decide ((i : Int) < (l.length : Int)) = false := by rw [decide_eq_false_iff_not]; omega
    rw [eFrom_end (by omega)] at i4 i5
    have i5 := i5 i4.symm
    rw [List.append_nil] at i5
    rw [if_neg (by rw [← i4]; simp), i5]
    cases st
    · obtain rfl := i3 rfl
      repeat (first | refine go_on ?_ | simp only [go_sem, hd])
      refine tri_condF ?_
      try refine go_on ?_
      refine tri_condF ?_
      try refine go_on ?_
      refine ⟨_, rfl, .inr ⟨.tup [.sl 0 true [], .int .i64 0], evd, ⟨trivial, trivial, trivial⟩, Wk.tup ⟨Wk.empty _ _ _, Wk.refl _, trivial⟩⟩⟩
    · by_cases hb : 1048576 < bs.length
      · have db : decide ((1048576 : Int) < (bs.length : Int)) = true := by rw [decide_eq_true_eq]; omega
        rw [if_pos hb]
        repeat (first | refine go_on ?_ | simp only [go_sem, hd])
        refine tri_condF ?_
        try refine go_on ?_
        refine tri_condT ?_ (by (try simp only [go_sem, db]); try exact evd)
        try refine go_on ?_
        refine ⟨_, rfl, .inr ⟨.tup [.sl 0 true [], .int .i64 11], evd, ⟨trivial, trivial, trivial⟩, Wk.tup ⟨Wk.empty _ _ _, Wk.refl _, trivial⟩⟩⟩
      · have db : decide ((1048576 : Int) < (bs.length : Int)) = false := by rw [decide_eq_false_iff_not]; omega
        rw [if_neg hb]
        repeat (first | refine go_on ?_ | simp only [go_sem, hd])
        refine tri_condF ?_
        try refine go_on ?_
        refine tri_condF ?_ (by (try simp only [go_sem, db]); try exact evd)
        try refine go_on ?_
        refine ⟨_, (by first | rfl | exact evd), .inl ?_⟩; (try simp only [go_sem, Nat.reduceAdd, Nat.reduceSub, Nat.reduceMul, Nat.reduceLT, Nat.reduceLeDiff, Nat.reduceEqDiff, reduceIte, Int.reduceToNat, Int.reduceLT, Int.reduceLE, Int.reduceEq, Int.reduceNeg, reduceCtorEq, Int.reduceBEq, Int.reduceBNe])
end Go.Proofs.Ytachiahepppajaa
