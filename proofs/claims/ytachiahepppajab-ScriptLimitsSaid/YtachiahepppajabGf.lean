/-
  Operations: a script is encoded.
-/
import Derived.Test.YtachiahepppajabGe
namespace Go.Proofs.Ytachiahepppajab
open Go Go.FH Go.RowKit
set_option linter.unusedVariables false
set_option linter.unusedSimpArgs false

/-- Operations as elements. -/
def ops (l : List OpV) : List (List AV) := l.map fun x => sOpC (opL x)
theorem length_ops (l : List OpV) : (ops l).length = l.length := by simp [ops]
theorem getD_ops {l : List OpV} {i : Nat} (h : i < l.length) : (ops l).getD i [] = sOpC (opL l[i]) := by simp [ops, h]
theorem Pu_ops (l : List OpV) : PuLL (ops l) := by
  induction l with
  | nil => trivial
  | cons x l ih => exact ⟨PuL_opL x, ih⟩
theorem renLL_ops (ρ : Nat → Nat) (l : List OpV) : renLL ρ (ops l) = ops l := (Pu_ops l).ren ρ
theorem fzLL_ops (σ : St) (zs : List Nat) (l : List OpV) : fzLL σ zs (ops l) = ops l := (Pu_ops l).fz σ zs
theorem ops_snoc (l : List OpV) (x : OpV) : ops l ++ [sOpC (opL x)] = ops (l ++ [x]) := by simp [ops]
attribute [go_sem] length_ops renLL_ops fzLL_ops ops_snoc

/-- The bytes of an operation. -/
def oenc (x : OpV) : List UInt8 := uenc x.kind.toNat ++ (fld x).1
def eFrom : List OpV → List UInt8 × Int
  | [] => ([], 0)
  | x :: l => if vOp x ≠ 0 then ([], vOp x) else (oenc x ++ (eFrom l).1, (eFrom l).2)
/-- The bytes of a script, or an error. -/
def encOps (l : List OpV) : List UInt8 × Int :=
  if 4096 < l.length then ([], 11) else if (eFrom l).2 ≠ 0 then ([], (eFrom l).2) else if 1048576 < (eFrom l).1.length then ([], 11) else ((eFrom l).1, 0)
theorem eFrom_s {l : List OpV} {i : Nat} (h : i < l.length) : eFrom (l.drop i) = if vOp l[i] ≠ 0 then ([], vOp l[i]) else (oenc l[i] ++ (eFrom (l.drop (i + 1))).1, (eFrom (l.drop (i + 1))).2) := by
  rw [List.drop_eq_getElem_cons h]; rfl
theorem eFrom_end {l : List OpV} {i : Nat} (h : l.length ≤ i) : eFrom (l.drop i) = ([], 0) := by rw [List.drop_eq_nil_of_le h]; rfl
theorem kenc_le {x : Blk} (u : BlkU x) : (kenc x).length ≤ 1000 := by
  have r1 := x.root.2
  have r2 := x.parent.2
  have r3 := x.payload.2
  have r4 := (wbytes x.diff).2
  have r5 := (wbytes x.pdiff).2
  have q1 := u.slot.len
  have q2 := cenc_le u.just
  have q3 := cenc_le u.fin
  have q4 := cenc_le u.j
  have q5 := cenc_le u.f
  have q6 : (benc x.timely).length ≤ 1 := by cases x.timely <;> simp [benc]
  simp only [kenc, List.length_append]; omega
theorem fld_le {x : OpV} (u : OpU x) : (fld x).1.length ≤ 30000 := by
  unfold fld
  split
  · have := kenc_le u.blk
    simp only; omega
  split
  · simp only
    split
    · rename_i he
      have q1 := u.slot.len
      have q2 := cenc_le u.ep
      have q3 := lenc_le he
      have q4 := x.att.2.1.2
      simp only [aenc, attL, List.length_append]; omega
    · simp
  split
  · simp only
    split
    · rename_i he
      have e1 : vErr x.slg.1.2.2.2 1024 = 0 := by
        unfold slErr at he
        split at he
        · assumption
        · contradiction
      have e2 : vErr x.slg.2.2.2.2 1024 = 0 := by
        unfold slErr at he
        rwa [if_pos e1] at he
      have q1 := clenc_le u.fst e1
      have q2 := clenc_le u.snd e2
      simp only [slenc, slgL, List.length_append]; omega
    · simp
  split
  · simp only
    split
    · simp
    · have q1 := cenc_le u.tab.ep
      have q2 := uenc_len10 (n := x.tab.2.length) (by omega)
      have q3 := nenc_le u.tab.all
      simp only [tenc, List.length_append]; omega
  split
  · simp only
    split
    · simp
    · rename_i hv
      have q1 := u.tag.len
      have q2 := uenc_len10 (n := x.vdt.kind.toNat) (by unfold vBad at hv; omega)
      have q3 := x.vdt.latest.2
      simp only [venc, List.length_append]; omega
  split
  · split
    · simp
    · rename_i hb
      have hb : bad8 x = false := by simpa using hb
      simp [bad8] at hb
      have q1 := uenc_len10 (n := x.write.toNat) (by omega)
      have q2 := uenc_len10 (n := x.keep.toNat) (by omega)
      simp only [List.length_append]; omega
  · simp
theorem vOp_kind {x : OpV} (h : vOp x = 0) : 1 ≤ x.kind ∧ x.kind ≤ 8 := by
  unfold vOp at h
  split at h
  · contradiction
  · omega

set_option maxHeartbeats 4000000 in
theorem renc_ops (l : List OpV) (hu : ∀ x ∈ l, OpU x) (hl : l.length ≤ 140737488355328) :
    PC Try.prog 4 [.sl 446 false (ops l)] (.tup [.sl 1 false (bts (encOps l).1), .int .i64 (encOps l).2]) := by
  refine PC.fact 10 f_script_Encode (by simp) ⟨Pu_ops l, trivial⟩ ⟨Pu_bts _, trivial, trivial⟩ ?_
  unfold c_script_Encode encOps
  by_cases h0 : 4096 < l.length
  · have d0 : decide ((4096 : Int) < (l.length : Int)) = true := by rw [decide_eq_true_eq]; omega
    rw [if_pos h0]
    repeat (first | refine go_on ?_ | simp only [go_sem, d0])
    refine tri_condT ?_
    try refine go_on ?_
    refine ⟨_, rfl, .inr ⟨.tup [.sl 0 true [], .int .i64 11], evd, ⟨trivial, trivial, trivial⟩, Wk.tup ⟨Wk.empty _ _ _, Wk.refl _, trivial⟩⟩⟩
  have d0 : decide ((4096 : Int) < (l.length : Int)) = false := by rw [decide_eq_false_iff_not]; omega
  rw [if_neg h0]
  repeat (first | refine go_on ?_ | simp only [go_sem, d0])
  refine tri_condF ?_
  try refine go_on ?_
  refine tri_loopG (fun x : Bool × List UInt8 × Nat => ⟨10, [.dead, .dead, .sl 0 true [], .int .i64 0, if x.1 then .hs 1 0 0 x.2.1.length else .sl 0 true [], .dead, .dead, .dead, .dead, .dead], [(15, .int .i64 x.2.2), (14, .int .i64 l.length), (13, .sl 446 false (ops l))]⟩)
    (fun x => if x.1 then [.vec 1 (bts x.2.1)] else []) (fun x => l.length - x.2.2)
    (fun x => x.2.2 ≤ l.length ∧ x.2.1.length ≤ 40000 * x.2.2 ∧ (x.1 = false → x.2.1 = []) ∧ (eFrom (l.drop x.2.2)).2 = (eFrom l).2 ∧ ((eFrom l).2 = 0 → (eFrom l).1 = x.2.1 ++ (eFrom (l.drop x.2.2)).1)) (false, [], 0) ⟨by simp, by simp, by simp, rfl, fun _ => rfl⟩ ?_ ?_
  · refine GC.mkT [] [] (by simp) rfl (by simp) (by simp) evd evd evd
  rintro ⟨st, bs, i⟩ ⟨i1, i2, i3, i4, i5⟩
  dsimp only at i1 i2 i3 i4 i5 ⊢
  by_cases hi : i < l.length
  · have hg := getD_ops hi
    have hw := wrap_i64_succ hi (by omega)
    have hd : decide ((i : Int) < (l.length : Int)) = true := by rw [decide_eq_true_eq]; omega
    have ux : OpU l[i] := hu _ (List.getElem_mem hi)
    have k1 := valid_walk l[i] ux
    have k2 := rfield_walk l[i] ux
    rw [eFrom_s hi] at i4 i5
    by_cases hv : vOp l[i] = 0
    · rw [hv] at k1
      simp only [hv, ne_eq, not_true_eq_false, if_false] at i4 i5
      have hk := vOp_kind hv
      have hf := fld_le ux
      have hq := uenc_len10 (n := l[i].kind.toNat) (by omega)
      have hwk : IntKind.u64.wrap l[i].kind = l[i].kind := wrap_u64_in (by omega) (by omega)
      have ho : oenc l[i] = uenc l[i].kind.toNat ++ (fld l[i]).1 := rfl
      have hol : (oenc l[i]).length = (uenc l[i].kind.toNat).length + (fld l[i]).1.length := by rw [ho, List.length_append]
      generalize oenc l[i] = O at *
      generalize fld l[i] = F at *
      obtain ⟨f, e⟩ := F
      dsimp only at k2 hf ho hol
      cases st
      · obtain rfl := i3 rfl
        have p1 := (ruint_app l[i].kind (by omega) (by omega)).nil (by omega)
        repeat (first | refine go_on ?_ | simp only [go_sem, hg, hd])
        refine tri_condT ?_
        repeat (first | refine go_on ?_ | simp only [go_sem, hg, hd])
        refine pcall k1 ?_
        try refine go_on ?_
        refine tri_condF ?_
        repeat (first | refine go_on ?_ | simp only [go_sem, hg])
        refine pcall k2 ?_
        repeat (first | refine go_on ?_ | simp only [go_sem, hg, hwk])
        refine ocall [] (p1) evd (Picks.mk' (by simp) evd) ?_; refine evg ?_
        repeat (first | refine go_on ?_ | simp only [go_sem, hw])
        refine ⟨(true, O, i + 1), ⟨hi, by dsimp only; omega, by simp, i4, fun h => by rw [i5 h]; simp⟩, by dsimp only; omega, ?_⟩
        rw [ho]
        refine GC.mkT [] [2] (by simp) rfl (by simp) (by simp) evd evd evd
      · have p1 := (ruint_app l[i].kind (by omega) (by omega)).own bs (by omega)
        repeat (first | refine go_on ?_ | simp only [go_sem, hg, hd])
        refine tri_condT ?_
        repeat (first | refine go_on ?_ | simp only [go_sem, hg, hd])
        refine pcall k1 ?_
        try refine go_on ?_
        refine tri_condF ?_
        repeat (first | refine go_on ?_ | simp only [go_sem, hg])
        refine pcall k2 ?_
        repeat (first | refine go_on ?_ | simp only [go_sem, hg, hwk])
        refine ocall [0] (p1) evd (Picks.mk' (by simp) evd) ?_; refine evg ?_
        repeat (first | refine go_on ?_ | simp only [go_sem, hw])
        refine ⟨(true, bs ++ O, i + 1), ⟨hi, by dsimp only; rw [List.length_append]; omega, by simp, i4, fun h => by rw [i5 h]; simp⟩, by dsimp only; omega, ?_⟩
        rw [ho, ← List.append_assoc]
        refine GC.mkT [] [3] (by simp) rfl (by simp) (by simp) evd evd evd
    · have hv' : (vOp l[i] != 0) = true := by simpa using hv
      simp only [hv, ne_eq, not_false_eq_true, if_true] at i4 i5
      rw [← i4, if_pos hv]
      cases st
      · repeat (first | refine go_on ?_ | simp only [go_sem, hg, hd])
        refine tri_condT ?_
        repeat (first | refine go_on ?_ | simp only [go_sem, hg, hd])
        refine pcall k1 ?_
        try refine go_on ?_
        refine tri_condT ?_ (by (try simp only [go_sem, hv']); try exact evd)
        try refine go_on ?_
        refine ⟨_, rfl, .inr ⟨.tup [.sl 0 true [], .int .i64 (vOp l[i])], evd, ⟨trivial, trivial, trivial⟩, Wk.tup ⟨Wk.empty _ _ _, Wk.refl _, trivial⟩⟩⟩
      · repeat (first | refine go_on ?_ | simp only [go_sem, hg, hd])
        refine tri_condT ?_
        repeat (first | refine go_on ?_ | simp only [go_sem, hg, hd])
        refine pcall k1 ?_
        try refine go_on ?_
        refine tri_condT ?_ (by (try simp only [go_sem, hv']); try exact evd)
        try refine go_on ?_
        refine ⟨_, rfl, .inr ⟨.tup [.sl 0 true [], .int .i64 (vOp l[i])], evd, ⟨trivial, trivial, trivial⟩, Wk.tup ⟨Wk.empty _ _ _, Wk.refl _, trivial⟩⟩⟩
  · have hd : decide ((i : Int) < (l.length : Int)) = false := by rw [decide_eq_false_iff_not]; omega
    rw [eFrom_end (by omega)] at i4 i5
    have i5 := i5 i4.symm
    rw [List.append_nil] at i5
    rw [if_neg (by rw [← i4]; simp), i5]
    cases st
    · obtain rfl := i3 rfl
      repeat (first | refine go_on ?_ | simp only [go_sem, hd])
      refine tri_condF ?_
      try refine go_on ?_
      refine tri_condF ?_
      try refine go_on ?_
      refine ⟨_, rfl, .inr ⟨.tup [.sl 0 true [], .int .i64 0], evd, ⟨trivial, trivial, trivial⟩, Wk.tup ⟨Wk.empty _ _ _, Wk.refl _, trivial⟩⟩⟩
    · by_cases hb : 1048576 < bs.length
      · have db : decide ((1048576 : Int) < (bs.length : Int)) = true := by rw [decide_eq_true_eq]; omega
        rw [if_pos hb]
        repeat (first | refine go_on ?_ | simp only [go_sem, hd])
        refine tri_condF ?_
        try refine go_on ?_
        refine tri_condT ?_ (by (try simp only [go_sem, db]); try exact evd)
        try refine go_on ?_
        refine ⟨_, rfl, .inr ⟨.tup [.sl 0 true [], .int .i64 11], evd, ⟨trivial, trivial, trivial⟩, Wk.tup ⟨Wk.empty _ _ _, Wk.refl _, trivial⟩⟩⟩
      · have db : decide ((1048576 : Int) < (bs.length : Int)) = false := by rw [decide_eq_false_iff_not]; omega
        rw [if_neg hb]
        repeat (first | refine go_on ?_ | simp only [go_sem, hd])
        refine tri_condF ?_
        try refine go_on ?_
        refine tri_condF ?_ (by (try simp only [go_sem, db]); try exact evd)
        try refine go_on ?_
        refine ⟨_, (by first | rfl | exact evd), .inl ?_⟩; (try simp only [go_sem, Nat.reduceAdd, Nat.reduceSub, Nat.reduceMul, Nat.reduceLT, Nat.reduceLeDiff, Nat.reduceEqDiff, reduceIte, Int.reduceToNat, Int.reduceLT, Int.reduceLE, Int.reduceEq, Int.reduceNeg, reduceCtorEq, Int.reduceBEq, Int.reduceBNe])
end Go.Proofs.Ytachiahepppajab
