/-
  Operations: they are validated.
-/
import Derived.Test.YtachiahepppajabGb
import Derived.Test.YtachiahepppajabGd
namespace Go.Proofs.Ytachiahepppajab
open Go Go.FH Go.RowKit
set_option linter.unusedVariables false
set_option linter.unusedSimpArgs false

/-- What is wrong with an operation. -/
def vOp (x : OpV) : Int := if x.kind < 1 ∨ 8 < x.kind then 2 else if (fld x).2 ≠ 0 then (fld x).2 else if idle x then 0 else 2
theorem idle_eq (x : OpV) : idle x = (((((2 : Int) == x.kind) || decide (x.blk = blk0))) && ((((3 : Int) == x.kind) || decide (x.att = attZ)) && ((((4 : Int) == x.kind) || (decide (x.slg.1 = clmZ) && decide (x.slg.2 = clmZ))) && ((((5 : Int) == x.kind) || (decide (x.tab.1 = cp0) && decide (x.tab.2 = []))) && ((((6 : Int) == x.kind) || decide (x.vdt = vdt0)) && (((8 : Int) == x.kind) || ((x.write == 0) && (x.keep == 0)))))))) := by
  unfold idle zeros
  rw [okF_s (by simp), okF_s (by simp), okF_s (by simp), okF_s (by simp), okF_s (by simp), okF_s (by simp), okF_end (by simp)]
  simp
theorem sAtt_Z (a : Int × Rt × Cp × List Int) : sAtt a attZ = decide (a = attZ) := by
  obtain ⟨s, r, c, l⟩ := a
  show decide (s = 0 ∧ r = rt0 ∧ c = cp0 ∧ l = []) = _
  rw [Bool.eq_iff_iff]
  simp [attZ]
theorem sClm_Z (a : Cv) : sClm a clmZ = decide (a = clmZ) := by
  obtain ⟨s, r, c, l⟩ := a
  show decide (s = 0 ∧ r = 0 ∧ c = rt0 ∧ l = []) = _
  rw [Bool.eq_iff_iff]
  simp [clmZ]
theorem sTab_Z (a : Tv) : sTab a tabZ = (decide (a.1 = cp0) && decide (a.2 = [])) := by show decide (a.1 = cp0 ∧ a.2 = []) = _; rw [Bool.eq_iff_iff]; simp
theorem sAtt_self (a : Int × Rt × Cp × List Int) : sAtt a a = true := by simp [sAtt]
theorem sClm_self (a : Cv) : sClm a a = true := by simp [sClm]
theorem sTab_self (a : Tv) : sTab a a = true := by simp [sTab]
/-- The operation with the used field alone. -/
def mask (x : OpV) : OpV :=
  if x.kind = 2 then ⟨x.kind, x.blk, attZ, slgZ, tabZ, vdt0, 0, 0⟩
  else if x.kind = 3 then ⟨x.kind, blk0, x.att, slgZ, tabZ, vdt0, 0, 0⟩
  else if x.kind = 4 then ⟨x.kind, blk0, attZ, x.slg, tabZ, vdt0, 0, 0⟩
  else if x.kind = 5 then ⟨x.kind, blk0, attZ, slgZ, x.tab, vdt0, 0, 0⟩
  else if x.kind = 6 then ⟨x.kind, blk0, attZ, slgZ, tabZ, x.vdt, 0, 0⟩
  else if x.kind = 8 then ⟨x.kind, blk0, attZ, slgZ, tabZ, vdt0, x.write, x.keep⟩
  else ⟨x.kind, blk0, attZ, slgZ, tabZ, vdt0, 0, 0⟩
theorem sameOp_mk (x : OpV) (k : Int) (b : Blk) (a : Int × Rt × Cp × List Int) (s : Sv) (t : Tv) (v : Vdt) (w p : Int) : sameOp x ⟨k, b, a, s, t, v, w, p⟩ = ((x.kind == k) && (decide (x.blk = b) && (sAtt x.att a && ((sClm x.slg.1 s.1 && sClm x.slg.2 s.2) && (sTab x.tab t && (decide (x.vdt = v) && ((x.write == w) && (x.keep == p)))))))) := rfl
theorem mask_same (x : OpV) : sameOp x (mask x) = idle x := by
  rw [idle_eq, Bool.eq_iff_iff]
  unfold mask
  split
  · rename_i h; rw [sameOp_mk]; simp [slgZ, sAtt_Z, sClm_Z, sTab_Z, h]
  split
  · rename_i h; rw [sameOp_mk]; simp [slgZ, sAtt_Z, sClm_Z, sTab_Z, sAtt_self, h]
  split
  · rename_i h; rw [sameOp_mk]; simp [slgZ, sAtt_Z, sClm_Z, sTab_Z, sClm_self, h]
  split
  · rename_i h; rw [sameOp_mk]; simp [slgZ, sAtt_Z, sClm_Z, sTab_Z, sTab_self, h]
  split
  · rename_i h; rw [sameOp_mk]; simp [slgZ, sAtt_Z, sClm_Z, sTab_Z, h]
  split
  · rename_i h; rw [sameOp_mk]; simp [slgZ, sAtt_Z, sClm_Z, sTab_Z, h]
  · rename_i h2 h3 h4 h5 h6 h8
    have n2 : ((2 : Int) == x.kind) = false := by simp; omega
    have n3 : ((3 : Int) == x.kind) = false := by simp; omega
    have n4 : ((4 : Int) == x.kind) = false := by simp; omega
    have n5 : ((5 : Int) == x.kind) = false := by simp; omega
    have n6 : ((6 : Int) == x.kind) = false := by simp; omega
    have n8 : ((8 : Int) == x.kind) = false := by simp; omega
    rw [sameOp_mk]; simp [slgZ, sAtt_Z, sClm_Z, sTab_Z, n2, n3, n4, n5, n6, n8]
theorem OpLen.mask {x : OpV} (h : OpLen x) : OpLen (mask x) := by
  unfold Go.Proofs.Ytachiahepppajab.mask
  (repeat' split) <;> exact ⟨by first | exact h.att | simp [attZ], by first | exact h.fst | simp [slgZ, clmZ], by first | exact h.snd | simp [slgZ, clmZ], by first | exact h.tab | simp [tabZ]⟩

theorem wkc_op {x y : SOp} (h1 : x.kind = y.kind) (h2 : x.blk = y.blk) (h3 : WkC (attC x.att) (attC y.att)) (h4 : WkC (slgC x.slg) (slgC y.slg)) (h5 : WkC (tabC x.tab) (tabC y.tab)) (h6 : x.vdt = y.vdt) (h7 : x.write = y.write) (h8 : x.keep = y.keep) : WkC (sOpC x) (sOpC y) := by
  obtain ⟨a1, a2, a3, a4, a5, a6, a7, a8⟩ := x
  obtain ⟨b1, b2, b3, b4, b5, b6, b7, b8⟩ := y
  simp only at h1 h2 h3 h4 h5 h6 h7 h8
  subst h1 h2 h6 h7 h8
  exact WkC.same _ ((WkC.refl _).app (h3.app (h4.app (h5.app ((WkC.refl _).app (WkC.refl _))))))
theorem wkc_att0 : WkC (attC att0) (attC (attL attZ)) := WkC.same _ ((WkC.refl (rtc rt0)).app ((WkC.refl (cpC cp0)).app (WkC.one (Wk.empty 0 1 false) fun h => h)))
theorem wkc_slg0 : WkC (slgC slg0) (slgC (slgL slgZ)) := (wkc_clm 0 0 rt0 (Wk.empty 0 1 false) fun h => h).app (wkc_clm 0 0 rt0 (Wk.empty 0 1 false) fun h => h)
theorem wkc_tab0 : WkC (tabC tab0) (tabC (tabL tabZ)) := (WkC.refl (cpC cp0)).app (WkC.one (Wk.empty 0 1 false) fun h => h)
theorem wkc_op0 : WkC (sOpC sOp0) (sOpC (opL opZ)) := wkc_op rfl rfl wkc_att0 wkc_slg0 wkc_tab0 rfl rfl rfl

set_option maxHeartbeats 4000000 in
theorem valid_walk (x : OpV) (hx : OpU x) : PC Try.prog 8 [.agg (sOpC (opL x))] (.int .i64 (vOp x)) := by
  refine PC.fact 5 f_script_Validate (by simp) ⟨PuL_opL x, trivial⟩ trivial ?_
  unfold c_script_Validate vOp
  have k1 := rfield_walk x hx
  have k2 := idle_walk x
  by_cases h1 : x.kind < 1
  · have d1 : decide (x.kind < 1) = true := by simpa using h1
    rw [if_pos (.inl h1)]
    repeat (first | refine go_on ?_ | simp only [go_sem, d1])
    refine tri_condT ?_
    try refine go_on ?_
    refine ⟨_, (by first | rfl | exact evd), .inl ?_⟩; (try simp only [go_sem, Nat.reduceAdd, Nat.reduceSub, Nat.reduceMul, Nat.reduceLT, Nat.reduceLeDiff, Nat.reduceEqDiff, reduceIte, Int.reduceToNat, Int.reduceLT, Int.reduceLE, Int.reduceEq, Int.reduceNeg, reduceCtorEq, Int.reduceBEq, Int.reduceBNe])
  have d1 : decide (x.kind < 1) = false := by simpa using h1
  by_cases h2 : 8 < x.kind
  · have d2 : decide (8 < x.kind) = true := by simpa using h2
    rw [if_pos (.inr h2)]
    repeat (first | refine go_on ?_ | simp only [go_sem, d1, d2])
    refine tri_condT ?_
    try refine go_on ?_
    refine ⟨_, (by first | rfl | exact evd), .inl ?_⟩; (try simp only [go_sem, Nat.reduceAdd, Nat.reduceSub, Nat.reduceMul, Nat.reduceLT, Nat.reduceLeDiff, Nat.reduceEqDiff, reduceIte, Int.reduceToNat, Int.reduceLT, Int.reduceLE, Int.reduceEq, Int.reduceNeg, reduceCtorEq, Int.reduceBEq, Int.reduceBNe])
  have d2 : decide (8 < x.kind) = false := by simpa using h2
  rw [if_neg (by omega)]
  repeat (first | refine go_on ?_ | simp only [go_sem, d1, d2])
  refine tri_condF ?_
  generalize fld x = F at *
  obtain ⟨f, e⟩ := F
  dsimp only at k1 ⊢
  try refine go_on ?_
  refine pcall k1 ?_
  try refine go_on ?_
  by_cases he : e = 0
  · subst he
    refine tri_condF ?_
    generalize idle x = I at *
    try refine go_on ?_
    refine pcall k2 ?_
    cases I
    · try refine go_on ?_
      refine tri_condT ?_
      try refine go_on ?_
      refine ⟨_, (by first | rfl | exact evd), .inl ?_⟩; (try simp only [go_sem, Nat.reduceAdd, Nat.reduceSub, Nat.reduceMul, Nat.reduceLT, Nat.reduceLeDiff, Nat.reduceEqDiff, reduceIte, Int.reduceToNat, Int.reduceLT, Int.reduceLE, Int.reduceEq, Int.reduceNeg, reduceCtorEq, Int.reduceBEq, Int.reduceBNe])
    · try refine go_on ?_
      refine tri_condF ?_
      try refine go_on ?_
      refine ⟨_, (by first | rfl | exact evd), .inl ?_⟩; (try simp only [go_sem, Nat.reduceAdd, Nat.reduceSub, Nat.reduceMul, Nat.reduceLT, Nat.reduceLeDiff, Nat.reduceEqDiff, reduceIte, Int.reduceToNat, Int.reduceLT, Int.reduceLE, Int.reduceEq, Int.reduceNeg, reduceCtorEq, Int.reduceBEq, Int.reduceBNe])
  · have he' : (e != 0) = true := by simpa using he
    rw [if_pos he]
    refine tri_condT ?_ (by (try simp only [go_sem, he']); try exact evd)
    try refine go_on ?_
    refine ⟨_, (by first | rfl | exact evd), .inl ?_⟩; (try simp only [go_sem, Nat.reduceAdd, Nat.reduceSub, Nat.reduceMul, Nat.reduceLT, Nat.reduceLeDiff, Nat.reduceEqDiff, reduceIte, Int.reduceToNat, Int.reduceLT, Int.reduceLE, Int.reduceEq, Int.reduceNeg, reduceCtorEq, Int.reduceBEq, Int.reduceBNe])

end Go.Proofs.Ytachiahepppajab
