/-
  My texts Ef, Eg, Eh, Ei, joined.
-/
import Derived.Test.YtachiahepppajabMe
import Derived.Test.YtachiahepppajabMd
import Derived.Test.YtachiahepppajabMc
namespace Go.Proofs.Ytachiahepppajab
open Go Go.FH Go.RowKit
set_option linter.unusedVariables false
set_option linter.unusedSimpArgs false

theorem vErr_lt {l : List Int} {n : Int} (h : vErr l n = 0) : ∀ j, j < l.length → (j : Int) ≤ l.getD j 0
  | 0, hj => by have := ((vErr_ok h).2 0 hj).1; omega
  | j + 1, hj => by
    have h1 := vErr_lt h j (by omega)
    have h2 := ((vErr_ok h).2 (j + 1) hj).2.2 (by omega)
    simp only [Nat.add_sub_cancel] at h2
    omega
theorem vErr_len {l : List Int} {n : Nat} (h : vErr l n = 0) : l.length ≤ n := by
  by_cases h0 : l.length = 0
  · omega
  · have h1 := vErr_lt h (l.length - 1) (by omega)
    have h2 := ((vErr_ok h).2 (l.length - 1) (by omega)).2.1
    omega
theorem lFrom_le {l : List Int} (hv : vErr l 1024 = 0) : ∀ (k i : Nat), l.length - i = k → (lFrom l i).length ≤ 10 * k
  | 0, i, hk => by rw [lFrom_end (by omega)]; simp
  | k + 1, i, hk => by
    rw [lFrom_step (by omega), List.length_append]
    have h1 := lFrom_le hv k (i + 1) (by omega)
    have h2 := vErr_step hv (j := i) (by omega)
    have h3 := uenc_len10 (n := (dstep l i).toNat) (by omega)
    omega
theorem lenc_le {l : List Int} (hv : vErr l 1024 = 0) : (lenc l).length ≤ 10250 := by
  have h1 := vErr_len (n := 1024) hv
  have h2 := lFrom_le hv _ 0 rfl
  have h3 := uenc_len10 (n := l.length) (by omega)
  rw [lenc, List.length_append]
  omega

/-- The bytes of an attestation. -/
def aenc (x : Att) (l : List Int) : List UInt8 := uenc x.slot.toNat ++ x.root.1 ++ cenc x.target ++ lenc l
structure U64 (n : Int) : Prop where
  lo : 0 ≤ n
  hi : n < 18446744073709551616
theorem U64.len {n : Int} (h : U64 n) : (uenc n.toNat).length ≤ 10 := uenc_len10 (by have := h.lo; have := h.hi; omega)
theorem cenc_le {c : Cp} (h : U64 c.ep) : (cenc c).length ≤ 42 := by
  have := h.len
  have := c.rt.2
  rw [cenc, List.length_append]; omega

theorem renc_att (x : Att) (l : List Int) (cl : Bool) (hx : x.vals = .sl 1 cl (nums .i64 l)) (hl : l.length ≤ 140737488355328) (h1 : U64 x.slot) (h2 : U64 x.target.ep) :
    PC Try.prog 14 [.agg (attC x)] (.tup [.sl 1 false (bts (if vErr l 1024 = 0 then aenc x l else [])), .int .i64 (vErr l 1024)]) := by
  refine PC.fact 6 f_records_EncodeAttestation (by simp) ⟨(PuL_attC x).2 (by rw [Att.Pure, hx]; exact Pu_nums _ _), trivial⟩ ⟨Pu_bts _, trivial, trivial⟩ ?_
  unfold c_records_EncodeAttestation
  have hc := vlist_walk l cl 1024 hl
  have hg : x.good = true := by rw [Att.good, hx]; rfl
  by_cases hv : vErr l 1024 = 0
  · have hr := x.root.2
    have q1 := h1.len
    have q2 := cenc_le h2
    have q3 := lenc_le hv
    have p1 := (ruint_app x.slot h1.lo h1.hi).nil (by omega)
    have p2 := (rroot_app x.root).own (uenc x.slot.toNat) (by omega)
    have p3 := (rcp_app x.target h2.lo h2.hi).own (uenc x.slot.toNat ++ x.root.1) (by rw [List.length_append]; omega)
    have p4 := rlist_app l cl hv (uenc x.slot.toNat ++ x.root.1 ++ cenc x.target) (by simp only [List.length_append]; omega)
    rw [if_pos hv]
    rw [hv] at hc ⊢
    repeat (first | refine go_on ?_ | simp only [go_sem, hx, hg])
    refine pcall hc ?_
    try refine go_on ?_
    refine tri_condF ?_
    try refine go_on ?_
    refine dcalls [] (p1) (by simp) evd (PickS.mk' (by simp) (by simp) evd) ?_; refine evg ?_
    try refine go_on ?_
    refine dcalls [1] (p2) (by simp) evd (PickS.mk' (by simp) (by simp) evd) ?_; refine evg ?_
    try refine go_on ?_
    refine dcalls [2] (p3) (by simp) evd (PickS.mk' (by simp) (by simp) evd) ?_; refine evg ?_
    repeat (first | refine go_on ?_ | simp only [go_sem, hx])
    refine dcalls [3] (p4) (by simp) evd (PickS.mk' (by simp) (by simp) evd) ?_; refine evg ?_
    try refine go_on ?_
    refine ⟨_, (by first | rfl | exact evd), .inl ?_⟩; (try simp only [go_sem, Nat.reduceAdd, Nat.reduceSub, Nat.reduceMul, Nat.reduceLT, Nat.reduceLeDiff, Nat.reduceEqDiff, reduceIte, Int.reduceToNat, Int.reduceLT, Int.reduceLE, Int.reduceEq, Int.reduceNeg, reduceCtorEq, Int.reduceBEq, Int.reduceBNe])
    rfl
  · have hv' : (vErr l 1024 != 0) = true := by simpa using hv
    rw [if_neg hv]
    repeat (first | refine go_on ?_ | simp only [go_sem, hx, hg])
    refine pcall hc ?_
    try refine go_on ?_
    refine tri_condT ?_ (by (try simp only [go_sem, hv']); try exact evd)
    try refine go_on ?_
    refine ⟨_, rfl, .inr ⟨.tup [.sl 0 true [], .int .i64 (vErr l 1024)], evd, ⟨trivial, trivial, trivial⟩, Wk.tup ⟨Wk.empty _ _ _, Wk.refl _, trivial⟩⟩⟩

end Go.Proofs.Ytachiahepppajab

namespace Go.Proofs.Ytachiahepppajab
open Go Go.FH Go.RowKit
set_option linter.unusedVariables false
set_option linter.unusedSimpArgs false

/-- The bytes of a verdict. -/
def venc (x : Vdt) : List UInt8 := uenc x.tag.toNat ++ uenc x.kind.toNat ++ x.latest.1
def vBad (x : Vdt) : Prop := x.kind < 1 ∨ 4 < x.kind
instance (x : Vdt) : Decidable (vBad x) := inferInstanceAs (Decidable (_ ∨ _))
theorem renc_vdt (x : Vdt) (h1 : U64 x.tag) :
    PC Try.prog 17 [.agg (vdtC x)] (.tup [.sl 1 false (bts (if vBad x then [] else venc x)), .int .i64 (if vBad x then 3 else 0)]) := by
  refine PC.fact 4 f_records_EncodeVerdict (by simp) ⟨PuL_vdtC x, trivial⟩ ⟨Pu_bts _, trivial, trivial⟩ ?_
  unfold c_records_EncodeVerdict
  by_cases hv : vBad x
  · rw [if_pos hv, if_pos hv]
    unfold vBad at hv
    by_cases ha : x.kind < 1
    · have ha' : decide (x.kind < 1) = true := by simpa using ha
      repeat (first | refine go_on ?_ | simp only [go_sem, ha'])
      refine tri_condT ?_
      try refine go_on ?_
      refine ⟨_, rfl, .inr ⟨.tup [.sl 0 true [], .int .i64 3], evd, ⟨trivial, trivial, trivial⟩, Wk.tup ⟨Wk.empty _ _ _, Wk.refl _, trivial⟩⟩⟩
    · have ha' : decide (x.kind < 1) = false := by simpa using ha
      have hb' : decide (4 < x.kind) = true := by rw [decide_eq_true_eq]; omega
      repeat (first | refine go_on ?_ | simp only [go_sem, ha', hb'])
      refine tri_condT ?_
      try refine go_on ?_
      refine ⟨_, rfl, .inr ⟨.tup [.sl 0 true [], .int .i64 3], evd, ⟨trivial, trivial, trivial⟩, Wk.tup ⟨Wk.empty _ _ _, Wk.refl _, trivial⟩⟩⟩
  · rw [if_neg hv, if_neg hv]
    unfold vBad at hv
    have ha' : decide (x.kind < 1) = false := by rw [decide_eq_false_iff_not]; omega
    have hb' : decide (4 < x.kind) = false := by rw [decide_eq_false_iff_not]; omega
    have hw : IntKind.u64.wrap x.kind = x.kind := wrap_u64_in (by omega) (by omega)
    have hr := x.latest.2
    have q1 := h1.len
    have q2 := uenc_len10 (n := x.kind.toNat) (by omega)
    have p1 := (ruint_app x.tag h1.lo h1.hi).nil (by omega)
    have p2 := (ruint_app x.kind (by omega) (by omega)).own (uenc x.tag.toNat) (by omega)
    have p3 := (rroot_app x.latest).own (uenc x.tag.toNat ++ uenc x.kind.toNat) (by rw [List.length_append]; omega)
    repeat (first | refine go_on ?_ | simp only [go_sem, ha', hb'])
    refine tri_condF ?_
    repeat (first | refine go_on ?_ | simp only [go_sem, hw])
    refine dcalls [] (p1) (by simp) evd (PickS.mk' (by simp) (by simp) evd) ?_; refine evg ?_
    repeat (first | refine go_on ?_ | simp only [go_sem, hw])
    refine dcalls [1] (p2) (by simp) evd (PickS.mk' (by simp) (by simp) evd) ?_; refine evg ?_
    try refine go_on ?_
    refine dcalls [2] (p3) (by simp) evd (PickS.mk' (by simp) (by simp) evd) ?_; refine evg ?_
    try refine go_on ?_
    refine ⟨_, (by first | rfl | exact evd), .inl ?_⟩; (try simp only [go_sem, Nat.reduceAdd, Nat.reduceSub, Nat.reduceMul, Nat.reduceLT, Nat.reduceLeDiff, Nat.reduceEqDiff, reduceIte, Int.reduceToNat, Int.reduceLT, Int.reduceLE, Int.reduceEq, Int.reduceNeg, reduceCtorEq, Int.reduceBEq, Int.reduceBNe])
    rfl
/-- The bytes of a block. -/
def kenc (x : Blk) : List UInt8 := uenc x.slot.toNat ++ x.root.1 ++ x.parent.1 ++ x.payload.1 ++ (wbytes x.diff).1 ++ (wbytes x.pdiff).1 ++ cenc x.just ++ cenc x.fin ++ cenc x.pul.j ++ cenc x.pul.f ++ benc x.timely
structure BlkU (x : Blk) : Prop where
  slot : U64 x.slot
  just : U64 x.just.ep
  fin : U64 x.fin.ep
  j : U64 x.pul.j.ep
  f : U64 x.pul.f.ep
theorem renc_blk (x : Blk) (hx : BlkU x) : PC Try.prog 13 [.agg (blkC x)] (.sl 1 false (bts (kenc x))) := by
  refine PC.fact 8 f_records_EncodeBlock (by simp) ⟨PuL_blkC x, trivial⟩ (Pu_bts _) ?_
  unfold c_records_EncodeBlock
  have r1 := x.root.2
  have r2 := x.parent.2
  have r3 := x.payload.2
  have r4 := (wbytes x.diff).2
  have r5 := (wbytes x.pdiff).2
  have q1 := hx.slot.len
  have q2 := cenc_le hx.just
  have q3 := cenc_le hx.fin
  have q4 := cenc_le hx.j
  have q5 := cenc_le hx.f
  have q6 : (benc x.timely).length ≤ 1 := by cases x.timely <;> simp [benc]
  have p1 := (ruint_app x.slot hx.slot.lo hx.slot.hi).nil (by omega)
  have p2 := (rroot_app x.root).own (uenc x.slot.toNat) (by omega)
  have p3 := (rroot_app x.parent).own _ (by simp only [List.length_append]; omega : (uenc x.slot.toNat ++ x.root.1).length + x.parent.1.length ≤ 140737488355328)
  have p4 := (rroot_app x.payload).own _ (by simp only [List.length_append]; omega : (uenc x.slot.toNat ++ x.root.1 ++ x.parent.1).length + x.payload.1.length ≤ 140737488355328)
  have p5 := (rwide_app x.diff).own _ (by simp only [List.length_append]; omega : (uenc x.slot.toNat ++ x.root.1 ++ x.parent.1 ++ x.payload.1).length + (wbytes x.diff).1.length ≤ 140737488355328)
  have p6 := (rwide_app x.pdiff).own _ (by simp only [List.length_append]; omega : (uenc x.slot.toNat ++ x.root.1 ++ x.parent.1 ++ x.payload.1 ++ (wbytes x.diff).1).length + (wbytes x.pdiff).1.length ≤ 140737488355328)
  have p7 := (rcp_app x.just hx.just.lo hx.just.hi).own _ (by simp only [List.length_append]; omega : (uenc x.slot.toNat ++ x.root.1 ++ x.parent.1 ++ x.payload.1 ++ (wbytes x.diff).1 ++ (wbytes x.pdiff).1).length + (cenc x.just).length ≤ 140737488355328)
  have p8 := (rcp_app x.fin hx.fin.lo hx.fin.hi).own _ (by simp only [List.length_append]; omega : (uenc x.slot.toNat ++ x.root.1 ++ x.parent.1 ++ x.payload.1 ++ (wbytes x.diff).1 ++ (wbytes x.pdiff).1 ++ cenc x.just).length + (cenc x.fin).length ≤ 140737488355328)
  have p9 := (rcp_app x.pul.j hx.j.lo hx.j.hi).own _ (by simp only [List.length_append]; omega : (uenc x.slot.toNat ++ x.root.1 ++ x.parent.1 ++ x.payload.1 ++ (wbytes x.diff).1 ++ (wbytes x.pdiff).1 ++ cenc x.just ++ cenc x.fin).length + (cenc x.pul.j).length ≤ 140737488355328)
  have p10 := (rcp_app x.pul.f hx.f.lo hx.f.hi).own _ (by simp only [List.length_append]; omega : (uenc x.slot.toNat ++ x.root.1 ++ x.parent.1 ++ x.payload.1 ++ (wbytes x.diff).1 ++ (wbytes x.pdiff).1 ++ cenc x.just ++ cenc x.fin ++ cenc x.pul.j).length + (cenc x.pul.f).length ≤ 140737488355328)
  have p11 := (rbool_app x.timely).own _ (by simp only [List.length_append]; omega : (uenc x.slot.toNat ++ x.root.1 ++ x.parent.1 ++ x.payload.1 ++ (wbytes x.diff).1 ++ (wbytes x.pdiff).1 ++ cenc x.just ++ cenc x.fin ++ cenc x.pul.j ++ cenc x.pul.f).length + (benc x.timely).length ≤ 140737488355328)
  try refine go_on ?_
  refine ocall [] (p1) evd (Picks.mk' (by simp) evd) ?_; refine evg ?_
  try refine go_on ?_
  refine tri_unroll 4 (unr_s ?_)
  try refine go_on ?_
  refine tri_condT ?_
  try refine go_on ?_
  refine ocall [1] (p2) evd (Picks.mk' (by simp) evd) ?_; refine evg ?_
  try refine go_on ?_
  refine unr_s ?_
  try refine go_on ?_
  refine tri_condT ?_
  try refine go_on ?_
  refine ocall [3] (p3) evd (Picks.mk' (by simp) evd) ?_; refine evg ?_
  try refine go_on ?_
  refine unr_s ?_
  try refine go_on ?_
  refine tri_condT ?_
  try refine go_on ?_
  refine ocall [5] (p4) evd (Picks.mk' (by simp) evd) ?_; refine evg ?_
  try refine go_on ?_
  refine unr_s ?_
  try refine go_on ?_
  refine tri_condF ?_
  try refine go_on ?_
  refine dcalls [7] (p5) (by simp) evd (PickS.mk' (by simp) (by simp) evd) ?_; refine evg ?_
  try refine go_on ?_
  refine dcalls [8] (p6) (by simp) evd (PickS.mk' (by simp) (by simp) evd) ?_; refine evg ?_
  try refine go_on ?_
  refine tri_unroll 5 (unr_s ?_)
  try refine go_on ?_
  refine tri_condT ?_
  try refine go_on ?_
  refine ocall [9] (p7) evd (Picks.mk' (by simp) evd) ?_; refine evg ?_
  try refine go_on ?_
  refine unr_s ?_
  try refine go_on ?_
  refine tri_condT ?_
  try refine go_on ?_
  refine ocall [11] (p8) evd (Picks.mk' (by simp) evd) ?_; refine evg ?_
  try refine go_on ?_
  refine unr_s ?_
  try refine go_on ?_
  refine tri_condT ?_
  try refine go_on ?_
  refine ocall [13] (p9) evd (Picks.mk' (by simp) evd) ?_; refine evg ?_
  try refine go_on ?_
  refine unr_s ?_
  try refine go_on ?_
  refine tri_condT ?_
  try refine go_on ?_
  refine ocall [15] (p10) evd (Picks.mk' (by simp) evd) ?_; refine evg ?_
  try refine go_on ?_
  refine unr_s ?_
  try refine go_on ?_
  refine tri_condF ?_
  try refine go_on ?_
  refine ocall [17] (p11) evd (Picks.mk' (by simp) evd) ?_; refine evg ?_
  try refine go_on ?_
  refine ⟨_, (by first | rfl | exact evd), .inl ?_⟩; (try simp only [go_sem, Nat.reduceAdd, Nat.reduceSub, Nat.reduceMul, Nat.reduceLT, Nat.reduceLeDiff, Nat.reduceEqDiff, reduceIte, Int.reduceToNat, Int.reduceLT, Int.reduceLE, Int.reduceEq, Int.reduceNeg, reduceCtorEq, Int.reduceBEq, Int.reduceBNe])
  rfl
end Go.Proofs.Ytachiahepppajab

namespace Go.Proofs.Ytachiahepppajab
open Go Go.FH Go.RowKit
set_option linter.unusedVariables false
set_option linter.unusedSimpArgs false

/-- The bytes of a claim. -/
def clenc (x : Clm) (l : List Int) : List UInt8 := uenc x.src.toNat ++ uenc x.tgt.toNat ++ x.root.1 ++ lenc l
structure ClmU (x : Clm) (l : List Int) (cl : Bool) : Prop where
  src : U64 x.src
  tgt : U64 x.tgt
  vals : x.vals = .sl 1 cl (nums .i64 l)
  len : l.length ≤ 140737488355328
theorem clenc_le {x : Clm} {l : List Int} {cl : Bool} (h : ClmU x l cl) (hv : vErr l 1024 = 0) : (clenc x l).length ≤ 10302 := by
  have := h.src.len
  have := h.tgt.len
  have := lenc_le hv
  have := x.root.2
  simp only [clenc, List.length_append]; omega
theorem ClmU.good {x : Clm} {l : List Int} {cl : Bool} (h : ClmU x l cl) : x.good = true := by rw [Clm.good, h.vals]; rfl
theorem ClmU.pu {x : Clm} {l : List Int} {cl : Bool} (h : ClmU x l cl) : x.Pure := by rw [Clm.Pure, h.vals]; exact Pu_nums _ _

theorem ClmU.map {x : Clm} {l : List Int} {cl : Bool} (h : ClmU x l cl) (ρ : Nat → Nat) : x.map (ren ρ) = x := by
  have hv := h.vals
  obtain ⟨s, t, r, v⟩ := x
  simp only at hv
  subst hv
  simp only [Clm.map, ren, renLL_nums]

def slErr (l1 l2 : List Int) : Int := if vErr l1 1024 = 0 then vErr l2 1024 else vErr l1 1024
/-- The bytes of a slashing. -/
def slenc (x : Slg) (l1 l2 : List Int) : List UInt8 := clenc x.fst l1 ++ clenc x.snd l2

theorem renc_slg (x : Slg) (l1 l2 : List Int) (c1 c2 : Bool) (h1 : ClmU x.fst l1 c1) (h2 : ClmU x.snd l2 c2) :
    PC Try.prog 15 [.agg (slgC x)] (.tup [.sl 1 false (bts (if slErr l1 l2 = 0 then slenc x l1 l2 else [])), .int .i64 (slErr l1 l2)]) := by
  refine PC.fact 8 f_records_EncodeSlashing (by simp) ⟨(PuL_slgC x).2 ⟨h1.pu, h2.pu⟩, trivial⟩ ⟨Pu_bts _, trivial, trivial⟩ ?_
  unfold c_records_EncodeSlashing
  have hg : x.good = true := by rw [Slg.good, h1.good, h2.good]; rfl
  have g1 := h1.good
  have g2 := h2.good
  have hv1 := h1.vals
  have hv2 := h2.vals
  have k1 := vlist_walk l1 c1 1024 h1.len
  have k2 := vlist_walk l2 c2 1024 h2.len
  unfold slErr
  by_cases e1 : vErr l1 1024 = 0
  · simp only [e1, if_true]
    rw [e1] at k1
    have q1 := clenc_le h1 e1
    simp only [clenc, List.length_append] at q1
    have p1 := (ruint_app x.fst.src h1.src.lo h1.src.hi).nil (by omega)
    have p2 := (ruint_app x.fst.tgt h1.tgt.lo h1.tgt.hi).own (uenc x.fst.src.toNat) (by omega)
    have p3 := (rroot_app x.fst.root).own (uenc x.fst.src.toNat ++ uenc x.fst.tgt.toNat) (by simp only [List.length_append]; omega)
    have p4 := rlist_app l1 c1 e1 (uenc x.fst.src.toNat ++ uenc x.fst.tgt.toNat ++ x.fst.root.1) (by simp only [List.length_append]; omega)
    repeat (first | refine go_on ?_ | simp only [go_sem, hg, g1, g2, hv1, hv2])
    refine tri_unroll 3 (unr_s ?_)
    try refine go_on ?_
    refine tri_condT ?_
    repeat (first | refine go_on ?_ | simp only [go_sem, hg, g1, g2, hv1, hv2])
    refine pcall k1 ?_
    try refine go_on ?_
    refine tri_condF ?_
    repeat (first | refine go_on ?_ | simp only [go_sem, hg, g1, g2, hv1, hv2])
    refine dcalls [] (p1) (by simp) evd (PickS.mk' (by simp) (by simp) evd) ?_; refine evg ?_
    try refine go_on ?_
    refine dcalls [2] (p2) (by simp) evd (PickS.mk' (by simp) (by simp) evd) ?_; refine evg ?_
    try refine go_on ?_
    refine dcalls [3] (p3) (by simp) evd (PickS.mk' (by simp) (by simp) evd) ?_; refine evg ?_
    repeat (first | refine go_on ?_ | simp only [go_sem, hv1])
    refine ocall [4] (p4) evd (Picks.mk' (by simp) evd) ?_; refine evg ?_
    try refine go_on ?_
    refine unr_s ?_
    try refine go_on ?_
    refine tri_condT ?_
    repeat (first | refine go_on ?_ | simp only [go_sem, hg, g1, g2, hv1, hv2])
    by_cases e2 : vErr l2 1024 = 0
    · rw [e2] at k2
      simp only [e2, if_true]
      have q2 := clenc_le h2 e2
      simp only [clenc, List.length_append] at q2
      have s1 := (ruint_app x.snd.src h2.src.lo h2.src.hi).own (uenc x.fst.src.toNat ++ uenc x.fst.tgt.toNat ++ x.fst.root.1 ++ lenc l1) (by simp only [List.length_append]; omega)
      have s2 := (ruint_app x.snd.tgt h2.tgt.lo h2.tgt.hi).own (uenc x.fst.src.toNat ++ uenc x.fst.tgt.toNat ++ x.fst.root.1 ++ lenc l1 ++ uenc x.snd.src.toNat) (by simp only [List.length_append]; omega)
      have s3 := (rroot_app x.snd.root).own (uenc x.fst.src.toNat ++ uenc x.fst.tgt.toNat ++ x.fst.root.1 ++ lenc l1 ++ uenc x.snd.src.toNat ++ uenc x.snd.tgt.toNat) (by simp only [List.length_append]; omega)
      have s4 := rlist_app l2 c2 e2 (uenc x.fst.src.toNat ++ uenc x.fst.tgt.toNat ++ x.fst.root.1 ++ lenc l1 ++ uenc x.snd.src.toNat ++ uenc x.snd.tgt.toNat ++ x.snd.root.1) (by simp only [List.length_append]; omega)
      refine pcall k2 ?_
      try refine go_on ?_
      refine tri_condF ?_
      repeat (first | refine go_on ?_ | simp only [go_sem, hg, g1, g2, hv1, hv2])
      refine dcalls [5] (s1) (by simp) evd (PickS.mk' (by simp) (by simp) evd) ?_; refine evg ?_
      try refine go_on ?_
      refine dcalls [7] (s2) (by simp) evd (PickS.mk' (by simp) (by simp) evd) ?_; refine evg ?_
      try refine go_on ?_
      refine dcalls [8] (s3) (by simp) evd (PickS.mk' (by simp) (by simp) evd) ?_; refine evg ?_
      repeat (first | refine go_on ?_ | simp only [go_sem, hv2])
      refine ocall [9] (s4) evd (Picks.mk' (by simp) evd) ?_; refine evg ?_
      try refine go_on ?_
      refine unr_s ?_
      try refine go_on ?_
      refine tri_condF ?_
      try refine go_on ?_
      refine ⟨_, (by first | rfl | exact evd), .inl ?_⟩; (try simp only [go_sem, Nat.reduceAdd, Nat.reduceSub, Nat.reduceMul, Nat.reduceLT, Nat.reduceLeDiff, Nat.reduceEqDiff, reduceIte, Int.reduceToNat, Int.reduceLT, Int.reduceLE, Int.reduceEq, Int.reduceNeg, reduceCtorEq, Int.reduceBEq, Int.reduceBNe])
      simp only [slenc, clenc, List.append_assoc]
    · have e2' : (vErr l2 1024 != 0) = true := by simpa using e2
      rw [if_neg e2]
      refine pcall k2 ?_
      try refine go_on ?_
      refine tri_condT ?_ (by (try simp only [go_sem, e2']); try exact evd)
      try refine go_on ?_
      refine ⟨_, rfl, .inr ⟨.tup [.sl 0 true [], .int .i64 (vErr l2 1024)], evd, ⟨trivial, trivial, trivial⟩, Wk.tup ⟨Wk.empty _ _ _, Wk.refl _, trivial⟩⟩⟩
  · have e1' : (vErr l1 1024 != 0) = true := by simpa using e1
    simp only [e1, if_false]
    repeat (first | refine go_on ?_ | simp only [go_sem, hg, g1, g2, hv1, hv2])
    refine tri_unroll 3 (unr_s ?_)
    try refine go_on ?_
    refine tri_condT ?_
    repeat (first | refine go_on ?_ | simp only [go_sem, hg, g1, g2, hv1, hv2])
    refine pcall k1 ?_
    try refine go_on ?_
    refine tri_condT ?_ (by (try simp only [go_sem, e1']); try exact evd)
    try refine go_on ?_
    refine ⟨_, rfl, .inr ⟨.tup [.sl 0 true [], .int .i64 (vErr l1 1024)], evd, ⟨trivial, trivial, trivial⟩, Wk.tup ⟨Wk.empty _ _ _, Wk.refl _, trivial⟩⟩⟩
end Go.Proofs.Ytachiahepppajab

namespace Go.Proofs.Ytachiahepppajab
open Go Go.FH Go.RowKit
set_option linter.unusedVariables false
set_option linter.unusedSimpArgs false

structure TabU (x : Tab) (l : List Int) (cl : Bool) : Prop where
  ep : U64 x.cp.ep
  bals : x.bals = .sl 1 cl (nums .u64 l)
  all : ∀ n ∈ l, U64 n
  len : l.length ≤ 140737488355328
/-- The bytes of a table. -/
def tenc (x : Tab) (l : List Int) : List UInt8 := cenc x.cp ++ uenc l.length ++ nenc l
theorem nenc_le : ∀ {l : List Int}, (∀ n ∈ l, U64 n) → (nenc l).length ≤ 10 * l.length
  | [], _ => by simp [nenc]
  | n :: l, h => by
    have h1 := nenc_le (l := l) (fun m hm => h m (by simp [hm]))
    have h2 := (h n (by simp)).len
    simp only [nenc, List.length_append, List.length_cons]; omega
theorem nenc_drop {l : List Int} {i : Nat} (h : i < l.length) : nenc (l.drop i) = uenc (l.getD i 0).toNat ++ nenc (l.drop (i + 1)) := by
  rw [List.drop_eq_getElem_cons h, nenc, List.getD_eq_getElem?_getD, List.getElem?_eq_getElem h]; rfl
theorem TabU.good {x : Tab} {l : List Int} {cl : Bool} (h : TabU x l cl) : x.good = true := by rw [Tab.good, h.bals]; rfl
theorem TabU.pu {x : Tab} {l : List Int} {cl : Bool} (h : TabU x l cl) : x.Pure := by rw [Tab.Pure, h.bals]; exact Pu_nums _ _
theorem TabU.getD {x : Tab} {l : List Int} {cl : Bool} (h : TabU x l cl) {i : Nat} (hi : i < l.length) : U64 (l.getD i 0) := by
  rw [List.getD_eq_getElem?_getD, List.getElem?_eq_getElem hi]; exact h.all _ (List.getElem_mem hi)

theorem renc_tab (x : Tab) (l : List Int) (cl : Bool) (hx : TabU x l cl) :
    PC Try.prog 16 [.agg (tabC x)] (.tup [.sl 1 false (bts (if 1024 < l.length then [] else tenc x l)), .int .i64 (if 1024 < l.length then 3 else 0)]) := by
  refine PC.fact 23 f_records_EncodeTable (by simp) ⟨(PuL_tabC x).2 hx.pu, trivial⟩ ⟨Pu_bts _, trivial, trivial⟩ ?_
  unfold c_records_EncodeTable
  have hg := hx.good
  have hv := hx.bals
  by_cases h0 : 1024 < l.length
  · have h0' : decide ((1024 : Int) < (l.length : Int)) = true := by rw [decide_eq_true_eq]; omega
    rw [if_pos h0, if_pos h0]
    repeat (first | refine go_on ?_ | simp only [go_sem, hg, hv])
    refine tri_condT ?_ (by (try simp only [go_sem, h0']); try exact evd)
    try refine go_on ?_
    refine ⟨_, rfl, .inr ⟨.tup [.sl 0 true [], .int .i64 3], evd, ⟨trivial, trivial, trivial⟩, Wk.tup ⟨Wk.empty _ _ _, Wk.refl _, trivial⟩⟩⟩
  have h0' : decide ((1024 : Int) < (l.length : Int)) = false := by rw [decide_eq_false_iff_not]; omega
  rw [if_neg h0, if_neg h0]
  have q1 := cenc_le hx.ep
  have q2 := uenc_len10 (n := l.length) (by omega)
  have q3 := nenc_le hx.all
  have hw : IntKind.u64.wrap (l.length : Int) = l.length := wrap_u64_in (by omega) (by omega)
  have hm : ∀ ρ : Nat → Nat, x.map (ren ρ) = x := by
    intro ρ
    obtain ⟨c, v⟩ := x
    simp only at hv
    subst hv
    simp only [Tab.map, ren, renLL_nums]
  have hmf : ∀ (σ : St) (zs : List Nat), x.map (fz σ zs) = x := by
    intro σ zs
    obtain ⟨c, v⟩ := x
    simp only at hv
    subst hv
    simp only [Tab.map, fz, fzLL_nums]
  have p1 := (rcp_app x.cp hx.ep.lo hx.ep.hi).nil (by omega)
  have p2 := (ruint_app (l.length : Int) (by omega) (by omega)).own (cenc x.cp) (by rw [Int.toNat_natCast]; omega)
  rw [Int.toNat_natCast] at p2
  repeat (first | refine go_on ?_ | simp only [go_sem, hg, hv])
  refine tri_condF ?_ (by (try simp only [go_sem, h0']); try exact evd)
  repeat (first | refine go_on ?_ | simp only [go_sem, hg, hv, hw])
  refine dcalls [] (p1) (by simp) evd (PickS.mk' (by simp) (by simp) evd) ?_; refine evg ?_
  repeat (first | refine go_on ?_ | simp only [go_sem, hg, hv, hw])
  refine dcalls [1] (p2) (by simp) evd (PickS.mk' (by simp) (by simp) evd) ?_; refine evg ?_
  repeat (first | refine go_on ?_ | simp only [go_sem, hg, hv])
  refine tri_loopG (fun x' : List UInt8 × Nat => ⟨23, [.agg (tabC x), .ptr 0 0, .sl 0 true [], .int .i64 0, .hs 1 1 0 x'.1.length, .dead, .dead, .dead, .dead, .dead, .dead, .dead, .dead, .dead, .dead, .dead, .dead, .dead, .dead, .dead, .sl 1 cl (nums .u64 l), .int .i64 l.length, .int .i64 x'.2], []⟩)
    (fun x' => [.var (tabC x), .vec 1 (bts x'.1)]) (fun x' => l.length - x'.2) (fun x' => x'.2 ≤ l.length ∧ x'.1 ++ nenc (l.drop x'.2) = tenc x l) (cenc x.cp ++ uenc l.length, 0) ⟨by simp, by simp [tenc]⟩ ?_ ?_
  · simp only [List.length_append, cenc, ← List.append_assoc]
    refine GC.mk' [] [0, 2] (by simp) rfl (by simp) (by simp) (by (try simp only [go_sem, hm, hmf]); try exact evd) (by (try simp only [go_sem, hm, hmf]); try exact evd)
  rintro ⟨acc, i⟩ ⟨h1, h2⟩
  dsimp only at h1 h2 ⊢
  have hal := congrArg List.length h2
  simp only [tenc, List.length_append] at hal
  repeat (first | refine go_on ?_ | simp only [go_sem, hg, hv])
  refine tri_cond evd (fun h => ?_) (fun h => ?_)
  · have hi : i < l.length := by simpa using h
    have hgd := gd_nums (k := .u64) hi
    have hu := hx.getD hi
    rw [nenc_drop hi] at h2 hal
    rw [List.length_append] at hal
    have ha := (ruint_app (l.getD i 0) hu.lo hu.hi).own acc (by omega)
    have hwi := wrap_i64_succ hi (by omega)
    repeat (first | refine go_on ?_ | simp only [go_sem, hgd, hg, hv])
    refine ocall [1] (ha) evd (Picks.mk' (by simp) evd) ?_; refine evg ?_
    repeat (first | refine go_on ?_ | simp only [go_sem, hwi])
    refine ⟨(acc ++ uenc (l.getD i 0).toNat, i + 1), ⟨hi, by simpa using h2⟩, by dsimp only; omega, ?_⟩
    simp only [List.length_append]
    refine GC.mk' [] [0, 2] (by simp) rfl (by simp) (by simp) (by (try simp only [go_sem, hm, hmf]); try exact evd) (by (try simp only [go_sem, hm, hmf]); try exact evd)
  · have hi : i = l.length := by simp at h; omega
    subst hi
    rw [List.drop_length, nenc, List.append_nil] at h2
    rw [← h2]
    try refine go_on ?_
    refine ⟨_, (by first | rfl | exact evd), .inl ?_⟩; (try simp only [go_sem, Nat.reduceAdd, Nat.reduceSub, Nat.reduceMul, Nat.reduceLT, Nat.reduceLeDiff, Nat.reduceEqDiff, reduceIte, Int.reduceToNat, Int.reduceLT, Int.reduceLE, Int.reduceEq, Int.reduceNeg, reduceCtorEq, Int.reduceBEq, Int.reduceBNe])

end Go.Proofs.Ytachiahepppajab
