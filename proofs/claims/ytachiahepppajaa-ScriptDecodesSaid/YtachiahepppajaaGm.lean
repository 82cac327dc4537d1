/-
  The laws ScriptOps, ScriptDecodes.
-/
import Derived.Test.YtachiahepppajaaGl
import Derived.Test.YtachiahepppajaaMc
namespace Go.Proofs.Ytachiahepppajaa
open Go Go.FH Go.RowKit
set_option linter.unusedVariables false
set_option linter.unusedSimpArgs false

/-- An operation that was given. -/
theorem sop_of {x : SOp} (h : x.Ok) : ∃ v : OpV, x = opL v ∧ (light v → OpU v) := by
  obtain ⟨kind, blk, ⟨as_, ar, at_, av⟩, ⟨⟨c1, c2, c3, c4⟩, ⟨d1, d2, d3, d4⟩⟩, ⟨tc, tb⟩, vdt, w, p⟩ := x
  obtain ⟨l, hv, hl, hw⟩ := h.att.vals
  obtain ⟨l1, hv1, hl1, hw1⟩ := h.slg.fst.vals
  obtain ⟨l2, hv2, hl2, hw2⟩ := h.slg.snd.vals
  obtain ⟨lt, hvt, hlt, hwt⟩ := h.tab.bals
  dsimp only at hv hv1 hv2 hvt
  subst hv hv1 hv2 hvt
  refine ⟨⟨kind, blk, (as_, ar, at_, l), ((c1, c2, c3, l1), (d1, d2, d3, l2)), (tc, lt), vdt, w, p⟩, rfl, fun ⟨b1, b2, b3, b4⟩ => ?_⟩
  dsimp only at b1 b2 b3 b4
  exact ⟨⟨U64.of h.blk.slot, U64.of h.blk.just.ep, U64.of h.blk.fin.ep, U64.of h.blk.pul.j.ep, U64.of h.blk.pul.f.ep⟩, U64.of h.att.slot, U64.of h.att.target.ep, by dsimp only; omega,
    ⟨U64.of h.slg.fst.src, U64.of h.slg.fst.tgt, rfl, by dsimp only; omega⟩, ⟨U64.of h.slg.snd.src, U64.of h.slg.snd.tgt, rfl, by dsimp only; omega⟩, ⟨U64.of h.tab.cp.ep, rfl, fun n hn => U64.of (hwt n hn), by dsimp only; omega⟩, U64.of h.vdt.tag⟩

set_option maxRecDepth 100000 in
set_option maxHeartbeats 4000000 in
theorem pc_ScriptOps (x : SOp) (hx : x.Ok) (y : SOp) (hy : y.Ok) : PC Try.prog 15 [.agg (sOpC x), .agg (sOpC y)] (.bool true) := by
  obtain ⟨u, rfl, hu⟩ := sop_of hx
  obtain ⟨v, rfl, hv⟩ := sop_of hy
  refine PC.fact 9 f_law6_ScriptOps (by simp) ⟨PuL_opL u, PuL_opL v, trivial⟩ trivial ?_
  unfold c_law6_ScriptOps
  have k1 := light_walk u
  have k2 := light_walk v
  by_cases h1 : light u
  case neg =>
    rw [decide_eq_false h1] at k1
    try refine go_on ?_
    refine pcall k1 ?_
    try refine go_on ?_
    refine tri_condT ?_
    try refine go_on ?_
    refine pcall awake6_walk ?_
    try refine go_on ?_
    refine ⟨_, (by first | rfl | exact evd), .inl ?_⟩; (try simp only [go_sem, Nat.reduceAdd, Nat.reduceSub, Nat.reduceMul, Nat.reduceLT, Nat.reduceLeDiff, Nat.reduceEqDiff, reduceIte, Int.reduceToNat, Int.reduceLT, Int.reduceLE, Int.reduceEq, Int.reduceNeg, reduceCtorEq, Int.reduceBEq, Int.reduceBNe])
  rw [decide_eq_true h1] at k1
  by_cases h2 : light v
  case neg =>
    rw [decide_eq_false h2] at k2
    try refine go_on ?_
    refine pcall k1 ?_
    try refine go_on ?_
    refine pcall k2 ?_
    try refine go_on ?_
    refine tri_condT ?_
    try refine go_on ?_
    refine pcall awake6_walk ?_
    try refine go_on ?_
    refine ⟨_, (by first | rfl | exact evd), .inl ?_⟩; (try simp only [go_sem, Nat.reduceAdd, Nat.reduceSub, Nat.reduceMul, Nat.reduceLT, Nat.reduceLeDiff, Nat.reduceEqDiff, reduceIte, Int.reduceToNat, Int.reduceLT, Int.reduceLE, Int.reduceEq, Int.reduceNeg, reduceCtorEq, Int.reduceBEq, Int.reduceBNe])
  rw [decide_eq_true h2] at k2
  have ou := hu h1
  have ov := hv h2
  have hall : ∀ z ∈ [u, v], OpU z := by
    intro z hz
    simp only [List.mem_cons, List.not_mem_nil, or_false] at hz
    rcases hz with rfl | rfl
    · exact ou
    · exact ov
  have c1 := renc_ops [u, v] hall (by simp)
  have c2 := senc_ops [u, v] hall (by simp)
  have c3 := valid_walk u ou
  have c4 := svalid_walk u ou
  have hw : Wk (.sl 446 true [sOpC (opL u), sOpC (opL v)]) (.sl 446 false (ops [u, v])) := Wk.open_ _ _ _
  have hp : PuL [.sl 446 true [sOpC (opL u), sOpC (opL v)]] := ⟨⟨PuL_opL u, PuL_opL v, trivial⟩, trivial⟩
  generalize encOps [u, v] = R at *
  obtain ⟨r, e⟩ := R
  generalize vOp u = V at *
  dsimp only at c1 c2
  generalize ops [u, v] = O at *
  try refine go_on ?_
  refine pcall k1 ?_
  try refine go_on ?_
  refine pcall k2 ?_
  try refine go_on ?_
  refine tri_condF ?_
  try refine go_on ?_
  refine pcallw c1 ⟨hw, trivial⟩ hp ?_
  try refine go_on ?_
  refine pcallw c2 ⟨hw, trivial⟩ hp ?_
  try refine go_on ?_
  refine dpcall (c3) ?_
  try refine go_on ?_
  refine dpcall (c4) ?_
  try refine go_on ?_
  refine dpcall (awake6_walk) ?_
  try refine go_on ?_
  refine ⟨_, (by first | rfl | exact evd), .inl ?_⟩; (try simp only [go_sem, Nat.reduceAdd, Nat.reduceSub, Nat.reduceMul, Nat.reduceLT, Nat.reduceLeDiff, Nat.reduceEqDiff, reduceIte, Int.reduceToNat, Int.reduceLT, Int.reduceLE, Int.reduceEq, Int.reduceNeg, reduceCtorEq, Int.reduceBEq, Int.reduceBNe])

theorem OpLen_Z (k w p : Int) : OpLen ⟨k, blk0, attZ, slgZ, tabZ, vdt0, w, p⟩ := (OpU_Z k w p).len
theorem rOp_cnt (b : List UInt8) : OpLen (rOp b).1 := by
  have hA := decA_cnt (rUint b 0 8).2.1
  have hS := decS_cnt (rUint b 0 8).2.1
  have hT := decT_cnt (rUint b 0 8).2.1
  unfold rOp
  dsimp only
  (repeat' split)
  · exact OpLen_Z 0 0 0
  · exact OpLen_Z 0 0 0
  · exact ⟨by simp [attZ], by simp [slgZ, clmZ], by simp [slgZ, clmZ], by simp [tabZ]⟩
  · exact ⟨by dsimp only; omega, by simp [slgZ, clmZ], by simp [slgZ, clmZ], by simp [tabZ]⟩
  · exact ⟨by simp [attZ], by dsimp only; omega, by dsimp only; omega, by simp [tabZ]⟩
  · exact ⟨by simp [attZ], by simp [slgZ, clmZ], by simp [slgZ, clmZ], by dsimp only; omega⟩
  · exact ⟨by simp [attZ], by simp [slgZ, clmZ], by simp [slgZ, clmZ], by simp [tabZ]⟩
  · exact OpLen_Z 8 _ _
  · exact OpLen_Z _ 0 0
theorem dFrom_all : ∀ (k : Nat) (l : List OpV) (b : List UInt8), 4096 - l.length = k → l.length ≤ 4096 → (∀ x ∈ l, OpLen x) → (dFrom l b).1.length ≤ 4096 ∧ ∀ x ∈ (dFrom l b).1, OpLen x
  | k, l, b, hk, hl, ha => by
    rw [dFrom]
    split
    · exact ⟨hl, ha⟩
    split
    · exact ⟨hl, ha⟩
    split
    · exact ⟨hl, ha⟩
    · have hlen : (l ++ [(rOp b).1]).length = l.length + 1 := by simp
      cases k with
      | zero => omega
      | succ k =>
        refine dFrom_all k _ _ (by omega) (by omega) fun x hx => ?_
        rcases List.mem_append.1 hx with hx | hx
        · exact ha x hx
        · obtain rfl : x = (rOp b).1 := by simpa using hx
          exact rOp_cnt b
theorem dAll_all (b : List UInt8) : (dAll b).1.length ≤ 4096 ∧ ∀ x ∈ (dAll b).1, OpLen x := by
  unfold dAll
  split
  · simp
  · exact dFrom_all _ [] b rfl (by simp) (by simp)
theorem decO_all (b : List UInt8) : (decO b).1.length ≤ 4096 ∧ ∀ x ∈ (decO b).1, OpLen x := by
  unfold decO
  split
  · simp
  · exact dAll_all b

set_option maxRecDepth 100000 in
set_option maxHeartbeats 4000000 in
theorem pc_ScriptDecodes (b : List UInt8) (hb : b.length ≤ maxLen) : PC Try.prog 16 [.sl 1 false (bts b)] (.bool true) := by
  refine PC.fact 11 f_law6_ScriptDecodes (by simp) ⟨Pu_bts _, trivial⟩ trivial ?_
  unfold c_law6_ScriptDecodes
  by_cases h : 2000 < b.length
  · have h' : decide ((2000 : Int) < (b.length : Int)) = true := by rw [decide_eq_true_eq]; omega
    try refine go_on ?_
    refine tri_condT ?_ (by (try simp only [go_sem, h']); try exact evd)
    try refine go_on ?_
    refine pcall awake6_walk ?_
    try refine go_on ?_
    refine ⟨_, (by first | rfl | exact evd), .inl ?_⟩; (try simp only [go_sem, Nat.reduceAdd, Nat.reduceSub, Nat.reduceMul, Nat.reduceLT, Nat.reduceLeDiff, Nat.reduceEqDiff, reduceIte, Int.reduceToNat, Int.reduceLT, Int.reduceLE, Int.reduceEq, Int.reduceNeg, reduceCtorEq, Int.reduceBEq, Int.reduceBNe])
  have h' : decide ((2000 : Int) < (b.length : Int)) = false := by rw [decide_eq_false_iff_not]; omega
  have c1 := rdec_ops b (by omega)
  have c2 := sdec_ops b (by omega)
  have c3 := rpre_ops b (by omega)
  have c4 := spre_ops b (by omega)
  have m1 := same_ops _ (decO_all b).1 (decO_all b).2
  have m2 := same_ops _ (dAll_all b).1 (dAll_all b).2
  generalize decO b = D at *
  generalize dAll b = E at *
  obtain ⟨l, e⟩ := D
  obtain ⟨p, n, f⟩ := E
  dsimp only at c1 c2 c3 c4 m1 m2
  try refine go_on ?_
  refine tri_condF ?_ (by (try simp only [go_sem, h']); try exact evd)
  try refine go_on ?_
  refine pcall c1 ?_
  try refine go_on ?_
  refine pcall c2 ?_
  try refine go_on ?_
  refine pcall c3 ?_
  try refine go_on ?_
  refine pcall c4 ?_
  try refine go_on ?_
  refine pcall m1 ?_
  try refine go_on ?_
  refine pcall m2 ?_
  try refine go_on ?_
  refine pcall awake6_walk ?_
  try refine go_on ?_
  refine ⟨_, (by first | rfl | exact evd), .inl ?_⟩; (try simp only [go_sem, Nat.reduceAdd, Nat.reduceSub, Nat.reduceMul, Nat.reduceLT, Nat.reduceLeDiff, Nat.reduceEqDiff, reduceIte, Int.reduceToNat, Int.reduceLT, Int.reduceLE, Int.reduceEq, Int.reduceNeg, reduceCtorEq, Int.reduceBEq, Int.reduceBNe])
end Go.Proofs.Ytachiahepppajaa
