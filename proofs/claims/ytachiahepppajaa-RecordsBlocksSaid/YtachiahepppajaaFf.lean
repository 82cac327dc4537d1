/-
  The laws RecordsTables, RecordsBlocks.
-/
import Derived.Test.YtachiahepppajaaFe
import Derived.Test.YtachiahepppajaaBw
namespace Go.Proofs.Ytachiahepppajaa
open Go Go.FH Go.RowKit
set_option linter.unusedVariables false
set_option linter.unusedSimpArgs false

set_option maxRecDepth 100000 in
set_option maxHeartbeats 4000000 in
theorem pc_RecordsTables (x : Tab) (hx : x.Ok) (v : Vdt) (hvk : v.Ok) : PC Try.prog 12 [.agg (tabC x), .agg (vdtC v)] (.bool true) := by
  obtain ⟨l, hv, hl, hw⟩ := hx.bals
  have g1 : x.good = true := by rw [Tab.good, hv]; rfl
  have p1 : x.Pure := by rw [Tab.Pure, hv]; exact Pu_nums _ _
  refine PC.fact 19 f_law5_RecordsTables (by simp) ⟨(PuL_tabC x).2 p1, PuL_vdtC v, trivial⟩ trivial ?_
  unfold c_law5_RecordsTables
  by_cases h : 300 < l.length
  · have h' : decide ((300 : Int) < (l.length : Int)) = true := by rw [decide_eq_true_eq]; omega
    repeat (first | refine go_on ?_ | simp only [go_sem, g1, hv])
    refine tri_condT ?_ (by (try simp only [go_sem, h']); try exact evd)
    try refine go_on ?_
    refine pcall awake5_walk ?_
    try refine go_on ?_
    refine ⟨_, (by first | rfl | exact evd), .inl ?_⟩; (try simp only [go_sem, Nat.reduceAdd, Nat.reduceSub, Nat.reduceMul, Nat.reduceLT, Nat.reduceLeDiff, Nat.reduceEqDiff, reduceIte, Int.reduceToNat, Int.reduceLT, Int.reduceLE, Int.reduceEq, Int.reduceNeg, reduceCtorEq, Int.reduceBEq, Int.reduceBNe])
  have h' : decide ((300 : Int) < (l.length : Int)) = false := by rw [decide_eq_false_iff_not]; omega
  have u : TabU x l false := ⟨U64.of hx.cp.ep, hv, fun n hn => U64.of (hw n hn), by omega⟩
  have uv := U64.of hvk.tag
  have k1 := renc_tab x l false u
  have k2 := senc_tab x l false u
  rw [if_neg (by omega), if_neg (by omega)] at k1 k2
  have q1 := cenc_le u.ep
  have q2 := uenc_len10 (n := l.length) (by omega)
  have q3 := nenc_le u.all
  have k3 := rdec_tab (tenc x l) (by simp only [tenc, List.length_append]; omega)
  rw [rTab_full u (by omega)] at k3
  simp only [dec, ne_eq, not_true_eq_false, if_false, List.length_nil, Nat.sub_zero] at k3
  have k4 := same_tab x (tabL (x.cp, l)) l l false false hv rfl (by omega) (by omega)
  rw [decide_eq_true (⟨rfl, rfl⟩ : x.cp = (tabL (x.cp, l)).cp ∧ l = l)] at k4
  have k5 := renc_vdt v uv
  have k6 := senc_vdt v uv
  have gy : (tabL (x.cp, l)).good = true := rfl
  generalize tabL (x.cp, l) = y at *
  by_cases hb : vBad v
  · rw [if_pos hb, if_pos hb] at k5 k6
    repeat (first | refine go_on ?_ | simp only [go_sem, g1, hv])
    refine tri_condF ?_ (by (try simp only [go_sem, h']); try exact evd)
    repeat (first | refine go_on ?_ | simp only [go_sem, g1])
    refine pcall k1 ?_
    repeat (first | refine go_on ?_ | simp only [go_sem, g1])
    refine pcall k2 ?_
    try refine go_on ?_
    refine pcall k5 ?_
    try refine go_on ?_
    refine pcall k6 ?_
    try refine go_on ?_
    refine tri_condF ?_
    try refine go_on ?_
    refine pcall k3 ?_
    repeat (first | refine go_on ?_ | simp only [go_sem, gy, g1])
    refine pcall k4 ?_
    try refine go_on ?_
    refine tri_condF ?_
    try refine go_on ?_
    refine tri_condF ?_
    try refine go_on ?_
    refine pcall awake5_walk ?_
    try refine go_on ?_
    refine ⟨_, (by first | rfl | exact evd), .inl ?_⟩; (try simp only [go_sem, Nat.reduceAdd, Nat.reduceSub, Nat.reduceMul, Nat.reduceLT, Nat.reduceLeDiff, Nat.reduceEqDiff, reduceIte, Int.reduceToNat, Int.reduceLT, Int.reduceLE, Int.reduceEq, Int.reduceNeg, reduceCtorEq, Int.reduceBEq, Int.reduceBNe])
  · rw [if_neg hb, if_neg hb] at k5 k6
    have hb2 := hb
    unfold vBad at hb2
    have q4 := uv.len
    have q5 := uenc_len10 (n := v.kind.toNat) (by omega)
    have q6 := v.latest.2
    have k7 := rdec_vdt (venc v) (by simp only [venc, List.length_append]; omega)
    rw [rVdt_full v uv hb] at k7
    have hk : ¬ v.kind = 0 := by omega
    simp only [decV, ne_eq, not_true_eq_false, if_false, hk, List.length_nil, Nat.sub_zero] at k7
    repeat (first | refine go_on ?_ | simp only [go_sem, g1, hv])
    refine tri_condF ?_ (by (try simp only [go_sem, h']); try exact evd)
    repeat (first | refine go_on ?_ | simp only [go_sem, g1])
    refine pcall k1 ?_
    repeat (first | refine go_on ?_ | simp only [go_sem, g1])
    refine pcall k2 ?_
    try refine go_on ?_
    refine pcall k5 ?_
    try refine go_on ?_
    refine pcall k6 ?_
    try refine go_on ?_
    refine tri_condF ?_
    try refine go_on ?_
    refine pcall k3 ?_
    repeat (first | refine go_on ?_ | simp only [go_sem, gy, g1])
    refine pcall k4 ?_
    try refine go_on ?_
    refine tri_condF ?_
    try refine go_on ?_
    refine tri_condT ?_
    try refine go_on ?_
    refine pcall k7 ?_
    try refine go_on ?_
    refine tri_condF ?_
    try refine go_on ?_
    refine pcall awake5_walk ?_
    try refine go_on ?_
    refine ⟨_, (by first | rfl | exact evd), .inl ?_⟩; (try simp only [go_sem, Nat.reduceAdd, Nat.reduceSub, Nat.reduceMul, Nat.reduceLT, Nat.reduceLeDiff, Nat.reduceEqDiff, reduceIte, Int.reduceToNat, Int.reduceLT, Int.reduceLE, Int.reduceEq, Int.reduceNeg, reduceCtorEq, Int.reduceBEq, Int.reduceBNe])

set_option maxRecDepth 100000 in
set_option maxHeartbeats 4000000 in
theorem pc_RecordsBlocks (x : Blk) (hx : x.Ok) (tail : List UInt8) (ht : tail.length ≤ maxLen) : PC Try.prog 13 [.agg (blkC x), .sl 1 false (bts tail)] (.bool true) := by
  have u : BlkU x := ⟨U64.of hx.slot, U64.of hx.just.ep, U64.of hx.fin.ep, U64.of hx.pul.j.ep, U64.of hx.pul.f.ep⟩
  refine PC.fact 9 f_law5_RecordsBlocks (by simp) ⟨PuL_blkC x, Pu_bts _, trivial⟩ trivial ?_
  unfold c_law5_RecordsBlocks
  by_cases h : 100 < tail.length
  · have h' : decide ((100 : Int) < (tail.length : Int)) = true := by rw [decide_eq_true_eq]; omega
    try refine go_on ?_
    refine tri_condT ?_ (by (try simp only [go_sem, h']); try exact evd)
    try refine go_on ?_
    refine pcall awake5_walk ?_
    try refine go_on ?_
    refine ⟨_, (by first | rfl | exact evd), .inl ?_⟩; (try simp only [go_sem, Nat.reduceAdd, Nat.reduceSub, Nat.reduceMul, Nat.reduceLT, Nat.reduceLeDiff, Nat.reduceEqDiff, reduceIte, Int.reduceToNat, Int.reduceLT, Int.reduceLE, Int.reduceEq, Int.reduceNeg, reduceCtorEq, Int.reduceBEq, Int.reduceBNe])
  have h' : decide ((100 : Int) < (tail.length : Int)) = false := by rw [decide_eq_false_iff_not]; omega
  have k1 := renc_blk x u
  have k2 := senc_blk x u
  have hlen : (kenc x).length ≤ 1000 := by
    have r1 := x.root.2
    have r2 := x.parent.2
    have r3 := x.payload.2
    have r4 := (wbytes x.diff).2
    have r5 := (wbytes x.pdiff).2
    have q1 := u.slot.len
    have q2 := cenc_le u.just
    have q3 := cenc_le u.fin
    have q4 := cenc_le u.j
    have q5 := cenc_le u.f
    have q6 : (benc x.timely).length ≤ 1 := by cases x.timely <;> simp [benc]
    simp only [kenc, List.length_append]; omega
  have k3 := rdec_blk (kenc x ++ tail) (by rw [List.length_append]; omega)
  rw [rBlk_full x u hx.diff hx.pdiff] at k3
  simp only [dec, ne_eq, not_true_eq_false, if_false, List.length_append, Nat.add_sub_cancel] at k3
  generalize kenc x = E at *
  have k4 := ACall.give (σ := [.vec 1 (bts (E ++ tail))]) (args := [.hs 1 0 0 (E.length + tail.length)]) (r := _) (by (try simp only [go_sem, List.length_cons, List.length_nil, List.range_succ, List.range_zero]); exact k3)
  try refine go_on ?_
  refine tri_condF ?_ (by (try simp only [go_sem, h']); try exact evd)
  try refine go_on ?_
  refine pcall k1 ?_
  try refine go_on ?_
  refine ocall [2] (k4) evd (Picks.mk' (by simp) evd) ?_; refine evg ?_
  try refine go_on ?_
  refine dpcall (k2) ?_
  try refine go_on ?_
  refine dpcall (awake5_walk) ?_
  try refine go_on ?_
  refine ⟨_, (by first | rfl | exact evd), .inl ?_⟩; (try simp only [go_sem, Nat.reduceAdd, Nat.reduceSub, Nat.reduceMul, Nat.reduceLT, Nat.reduceLeDiff, Nat.reduceEqDiff, reduceIte, Int.reduceToNat, Int.reduceLT, Int.reduceLE, Int.reduceEq, Int.reduceNeg, reduceCtorEq, Int.reduceBEq, Int.reduceBNe])
end Go.Proofs.Ytachiahepppajaa
