/-
  Operations: they are compared; the field that a kind uses is encoded.
-/
import Derived.Test.YtachiahepppajabGa
import Derived.Test.YtachiahepppajabFe
namespace Go.Proofs.Ytachiahepppajab
open Go Go.FH Go.RowKit
set_option linter.unusedVariables false
set_option linter.unusedSimpArgs false

/-- Its lists are no longer than memory. -/
structure OpLen (x : OpV) : Prop where
  att : x.att.2.2.2.length ≤ 140737488355328
  fst : x.slg.1.2.2.2.length ≤ 140737488355328
  snd : x.slg.2.2.2.2.length ≤ 140737488355328
  tab : x.tab.2.length ≤ 140737488355328
def sAtt (a b : Int × Rt × Cp × List Int) : Bool := decide (a.1 = b.1 ∧ a.2.1 = b.2.1 ∧ a.2.2.1 = b.2.2.1 ∧ a.2.2.2 = b.2.2.2)
def sClm (a b : Cv) : Bool := decide (a.1 = b.1 ∧ a.2.1 = b.2.1 ∧ a.2.2.1 = b.2.2.1 ∧ a.2.2.2 = b.2.2.2)
def sTab (a b : Tv) : Bool := decide (a.1 = b.1 ∧ a.2 = b.2)
def sameOp (x y : OpV) : Bool := (x.kind == y.kind) && (decide (x.blk = y.blk) && (sAtt x.att y.att && ((sClm x.slg.1 y.slg.1 && sClm x.slg.2 y.slg.2) && (sTab x.tab y.tab && (decide (x.vdt = y.vdt) && ((x.write == y.write) && (x.keep == y.keep)))))))
theorem sameOp_self (x : OpV) : sameOp x x = true := by simp [sameOp, sAtt, sClm, sTab]

/-- Its numbers fit. -/
structure OpU (x : OpV) : Prop where
  blk : BlkU x.blk
  slot : U64 x.att.1
  ep : U64 x.att.2.2.1.ep
  att : x.att.2.2.2.length ≤ 140737488355328
  fst : ClmU (clmL x.slg.1) x.slg.1.2.2.2 false
  snd : ClmU (clmL x.slg.2) x.slg.2.2.2.2 false
  tab : TabU (tabL x.tab) x.tab.2 false
  tag : U64 x.vdt.tag
theorem OpU.len {x : OpV} (h : OpU x) : OpLen x := ⟨h.att, h.fst.len, h.snd.len, h.tab.len⟩
def bad8 (x : OpV) : Bool := !(decide (0 ≤ x.write ∧ x.write ≤ 32768) && decide (0 ≤ x.keep ∧ x.keep ≤ 32768))
/-- The bytes of the field that an operation uses, or an error. -/
def fld (x : OpV) : List UInt8 × Int :=
  if x.kind = 2 then (kenc x.blk, 0)
  else if x.kind = 3 then (if vErr x.att.2.2.2 1024 = 0 then aenc (attL x.att) x.att.2.2.2 else [], vErr x.att.2.2.2 1024)
  else if x.kind = 4 then (if slErr x.slg.1.2.2.2 x.slg.2.2.2.2 = 0 then slenc (slgL x.slg) x.slg.1.2.2.2 x.slg.2.2.2.2 else [], slErr x.slg.1.2.2.2 x.slg.2.2.2.2)
  else if x.kind = 5 then (if 1024 < x.tab.2.length then [] else tenc (tabL x.tab) x.tab.2, if 1024 < x.tab.2.length then 3 else 0)
  else if x.kind = 6 then (if vBad x.vdt then [] else venc x.vdt, if vBad x.vdt then 3 else 0)
  else if x.kind = 8 then (if bad8 x then ([], 3) else (uenc x.write.toNat ++ uenc x.keep.toNat, 0))
  else ([], 0)

set_option maxHeartbeats 4000000 in
theorem rfield_walk (x : OpV) (hx : OpU x) : PC Try.prog 9 [.agg (sOpC (opL x))] (.tup [.sl 1 false (bts (fld x).1), .int .i64 (fld x).2]) := by
  refine PC.fact 4 f_script_field (by simp) ⟨PuL_opL x, trivial⟩ ⟨Pu_bts _, trivial, trivial⟩ ?_
  unfold c_script_field fld
  by_cases h2 : x.kind = 2
  · rw [if_pos h2]
    have e2 : (x.kind == 2) = true := by simp [h2]
    try refine go_on ?_
    refine tri_condT ?_ (by (try simp only [go_sem, e2]); try exact evd)
    try refine go_on ?_
    refine pcall (renc_blk x.blk hx.blk) ?_
    try refine go_on ?_
    refine ⟨_, (by first | rfl | exact evd), .inl ?_⟩; (try simp only [go_sem, Nat.reduceAdd, Nat.reduceSub, Nat.reduceMul, Nat.reduceLT, Nat.reduceLeDiff, Nat.reduceEqDiff, reduceIte, Int.reduceToNat, Int.reduceLT, Int.reduceLE, Int.reduceEq, Int.reduceNeg, reduceCtorEq, Int.reduceBEq, Int.reduceBNe])
  rw [if_neg h2]
  have n2 : (x.kind == 2) = false := by simp [h2]
  by_cases h3 : x.kind = 3
  · rw [if_pos h3]
    have e3 : (x.kind == 3) = true := by simp [h3]
    have k3 := renc_att (attL x.att) x.att.2.2.2 false rfl hx.att hx.slot hx.ep
    try refine go_on ?_
    refine tri_condF ?_ (by (try simp only [go_sem, n2]); try exact evd)
    try refine go_on ?_
    refine tri_condT ?_ (by (try simp only [go_sem, e3]); try exact evd)
    try refine go_on ?_
    refine pcall k3 ?_
    try refine go_on ?_
    refine ⟨_, (by first | rfl | exact evd), .inl ?_⟩; (try simp only [go_sem, Nat.reduceAdd, Nat.reduceSub, Nat.reduceMul, Nat.reduceLT, Nat.reduceLeDiff, Nat.reduceEqDiff, reduceIte, Int.reduceToNat, Int.reduceLT, Int.reduceLE, Int.reduceEq, Int.reduceNeg, reduceCtorEq, Int.reduceBEq, Int.reduceBNe])
  rw [if_neg h3]
  have n3 : (x.kind == 3) = false := by simp [h3]
  by_cases h4 : x.kind = 4
  · rw [if_pos h4]
    have e4 : (x.kind == 4) = true := by simp [h4]
    have k4 := renc_slg (slgL x.slg) x.slg.1.2.2.2 x.slg.2.2.2.2 false false hx.fst hx.snd
    try refine go_on ?_
    refine tri_condF ?_ (by (try simp only [go_sem, n2]); try exact evd)
    try refine go_on ?_
    refine tri_condF ?_ (by (try simp only [go_sem, n3]); try exact evd)
    try refine go_on ?_
    refine tri_condT ?_ (by (try simp only [go_sem, e4]); try exact evd)
    try refine go_on ?_
    refine pcall k4 ?_
    try refine go_on ?_
    refine ⟨_, (by first | rfl | exact evd), .inl ?_⟩; (try simp only [go_sem, Nat.reduceAdd, Nat.reduceSub, Nat.reduceMul, Nat.reduceLT, Nat.reduceLeDiff, Nat.reduceEqDiff, reduceIte, Int.reduceToNat, Int.reduceLT, Int.reduceLE, Int.reduceEq, Int.reduceNeg, reduceCtorEq, Int.reduceBEq, Int.reduceBNe])
  rw [if_neg h4]
  have n4 : (x.kind == 4) = false := by simp [h4]
  by_cases h5 : x.kind = 5
  · rw [if_pos h5]
    have e5 : (x.kind == 5) = true := by simp [h5]
    have k5 := renc_tab (tabL x.tab) x.tab.2 false hx.tab
    try refine go_on ?_
    refine tri_condF ?_ (by (try simp only [go_sem, n2]); try exact evd)
    try refine go_on ?_
    refine tri_condF ?_ (by (try simp only [go_sem, n3]); try exact evd)
    try refine go_on ?_
    refine tri_condF ?_ (by (try simp only [go_sem, n4]); try exact evd)
    try refine go_on ?_
    refine tri_condT ?_ (by (try simp only [go_sem, e5]); try exact evd)
    try refine go_on ?_
    refine pcall k5 ?_
    try refine go_on ?_
    refine ⟨_, (by first | rfl | exact evd), .inl ?_⟩; (try simp only [go_sem, Nat.reduceAdd, Nat.reduceSub, Nat.reduceMul, Nat.reduceLT, Nat.reduceLeDiff, Nat.reduceEqDiff, reduceIte, Int.reduceToNat, Int.reduceLT, Int.reduceLE, Int.reduceEq, Int.reduceNeg, reduceCtorEq, Int.reduceBEq, Int.reduceBNe])
  rw [if_neg h5]
  have n5 : (x.kind == 5) = false := by simp [h5]
  by_cases h6 : x.kind = 6
  · rw [if_pos h6]
    have e6 : (x.kind == 6) = true := by simp [h6]
    have k6 := renc_vdt x.vdt hx.tag
    try refine go_on ?_
    refine tri_condF ?_ (by (try simp only [go_sem, n2]); try exact evd)
    try refine go_on ?_
    refine tri_condF ?_ (by (try simp only [go_sem, n3]); try exact evd)
    try refine go_on ?_
    refine tri_condF ?_ (by (try simp only [go_sem, n4]); try exact evd)
    try refine go_on ?_
    refine tri_condF ?_ (by (try simp only [go_sem, n5]); try exact evd)
    try refine go_on ?_
    refine tri_condT ?_ (by (try simp only [go_sem, e6]); try exact evd)
    try refine go_on ?_
    refine pcall k6 ?_
    try refine go_on ?_
    refine ⟨_, (by first | rfl | exact evd), .inl ?_⟩; (try simp only [go_sem, Nat.reduceAdd, Nat.reduceSub, Nat.reduceMul, Nat.reduceLT, Nat.reduceLeDiff, Nat.reduceEqDiff, reduceIte, Int.reduceToNat, Int.reduceLT, Int.reduceLE, Int.reduceEq, Int.reduceNeg, reduceCtorEq, Int.reduceBEq, Int.reduceBNe])
  rw [if_neg h6]
  have n6 : (x.kind == 6) = false := by simp [h6]
  try refine go_on ?_
  refine tri_condF ?_ (by (try simp only [go_sem, n2]); try exact evd)
  try refine go_on ?_
  refine tri_condF ?_ (by (try simp only [go_sem, n3]); try exact evd)
  try refine go_on ?_
  refine tri_condF ?_ (by (try simp only [go_sem, n4]); try exact evd)
  try refine go_on ?_
  refine tri_condF ?_ (by (try simp only [go_sem, n5]); try exact evd)
  try refine go_on ?_
  refine tri_condF ?_ (by (try simp only [go_sem, n6]); try exact evd)
  try refine go_on ?_
  by_cases h8 : x.kind = 8
  · rw [if_pos h8]
    have e8 : (x.kind == 8) = true := by simp [h8]
    refine tri_condT ?_ (by (try simp only [go_sem, e8]); try exact evd)
    have s1 := sector_walk x.write
    have s2 := sector_walk x.keep
    by_cases hw : 0 ≤ x.write ∧ x.write ≤ 32768
    · rw [decide_eq_true hw] at s1
      by_cases hk : 0 ≤ x.keep ∧ x.keep ≤ 32768
      · rw [decide_eq_true hk] at s2
        have hb : bad8 x = false := by simp [bad8, hw, hk]
        have w1 : IntKind.u64.wrap x.write = x.write := wrap_u64_in (by omega) (by omega)
        have w2 : IntKind.u64.wrap x.keep = x.keep := wrap_u64_in (by omega) (by omega)
        have q1 := uenc_len10 (n := x.write.toNat) (by omega)
        have q2 := uenc_len10 (n := x.keep.toNat) (by omega)
        have p1 := (ruint_app x.write (by omega) (by omega)).nil (by omega)
        have p2 := (ruint_app x.keep (by omega) (by omega)).own (uenc x.write.toNat) (by omega)
        rw [hb]
        simp only [Bool.false_eq_true, if_false]
        repeat (first | refine go_on ?_ | simp only [go_sem, w1, w2])
        refine pcall s1 ?_
        repeat (first | refine go_on ?_ | simp only [go_sem, w1, w2])
        refine pcall s2 ?_
        repeat (first | refine go_on ?_ | simp only [go_sem, w1, w2])
        refine tri_condF ?_
        repeat (first | refine go_on ?_ | simp only [go_sem, w1, w2])
        refine dcalls [] (p1) (by simp) evd (PickS.mk' (by simp) (by simp) evd) ?_; refine evg ?_
        repeat (first | refine go_on ?_ | simp only [go_sem, w1, w2])
        refine dcalls [1] (p2) (by simp) evd (PickS.mk' (by simp) (by simp) evd) ?_; refine evg ?_
        try refine go_on ?_
        refine ⟨_, (by first | rfl | exact evd), .inl ?_⟩; (try simp only [go_sem, Nat.reduceAdd, Nat.reduceSub, Nat.reduceMul, Nat.reduceLT, Nat.reduceLeDiff, Nat.reduceEqDiff, reduceIte, Int.reduceToNat, Int.reduceLT, Int.reduceLE, Int.reduceEq, Int.reduceNeg, reduceCtorEq, Int.reduceBEq, Int.reduceBNe])
      · rw [decide_eq_false hk] at s2
        have hb : bad8 x = true := by simp [bad8, hk]
        rw [hb]
        simp only [if_true]
        try refine go_on ?_
        refine pcall s1 ?_
        try refine go_on ?_
        refine pcall s2 ?_
        try refine go_on ?_
        refine tri_condT ?_
        try refine go_on ?_
        refine ⟨_, rfl, .inr ⟨.tup [.sl 0 true [], .int .i64 3], evd, ⟨trivial, trivial, trivial⟩, Wk.tup ⟨Wk.empty _ _ _, Wk.refl _, trivial⟩⟩⟩
    · rw [decide_eq_false hw] at s1
      have hb : bad8 x = true := by simp [bad8, hw]
      rw [hb]
      simp only [if_true]
      try refine go_on ?_
      refine pcall s1 ?_
      try refine go_on ?_
      refine tri_condT ?_
      try refine go_on ?_
      refine ⟨_, rfl, .inr ⟨.tup [.sl 0 true [], .int .i64 3], evd, ⟨trivial, trivial, trivial⟩, Wk.tup ⟨Wk.empty _ _ _, Wk.refl _, trivial⟩⟩⟩
  · rw [if_neg h8]
    have n8 : (x.kind == 8) = false := by simp [h8]
    refine tri_condF ?_ (by (try simp only [go_sem, n8]); try exact evd)
    try refine go_on ?_
    refine ⟨_, rfl, .inr ⟨.tup [.sl 0 true [], .int .i64 0], evd, ⟨trivial, trivial, trivial⟩, Wk.tup ⟨Wk.empty _ _ _, Wk.refl _, trivial⟩⟩⟩
end Go.Proofs.Ytachiahepppajab
