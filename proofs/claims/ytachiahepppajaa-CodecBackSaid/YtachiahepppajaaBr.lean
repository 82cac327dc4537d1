/-
  The abstract walk, part 27: the program's structures as cells. Printed by a program of mine (structs.py).
-/
import Derived.Test.YtachiahepppajaaBq
namespace Go.FH
set_option linter.unusedVariables false
set_option linter.unusedSimpArgs false
open Go Go.RowKit

/-- ep, rt -/
structure Cp where
  ep : Int
  rt : Rt
  deriving Inhabited, DecidableEq
def cpC (x : Cp) : List AV := .int .u64 x.ep :: (rtc x.rt)
@[simp] theorem length_cpC (x : Cp) : (cpC x).length = 33 := by simp only [cpC, List.length_cons, List.length_append, List.length_nil, length_rtc]
theorem cpC_fold (ep : Int) (rt : Rt) : .int .u64 ep :: (rtc rt) = cpC ⟨ep, rt⟩ := rfl
theorem cpC_full (x : Cp) : cut (cpC x) 0 33 = cpC x := cut_full (length_cpC x)
theorem cpC_cut_ep (x : Cp) : cut (cpC x) 0 1 = [.int .u64 x.ep] := by unfold cpC; all_goals rfl
theorem cpC_spl_ep (x : Cp) (v : Int) : spl (cpC x) 0 [.int .u64 v] = cpC { x with ep := v } := by unfold cpC; all_goals rfl
theorem cpC_cut_rt (x : Cp) (o n : Nat) (h1 : 1 ≤ o) (h2 : o + n ≤ 33) : cut (cpC x) o n = cut (rtc x.rt) (o - 1) n := by unfold cpC; rw [cut_s _ _ _ _ (by omega)]; all_goals rfl
theorem cpC_spl_rt (x : Cp) (o : Nat) (vs : List AV) (h1 : 1 ≤ o) (h2 : o + vs.length ≤ 33) : spl (cpC x) o vs = .int .u64 x.ep :: (spl (rtc x.rt) (o - 1) vs) := by unfold cpC; rw [spl_s _ _ _ _ (by omega)]; all_goals rfl
theorem allCells_cpC (x : Cp) : allCells (cpC x) = true := by simp [cpC, allCells_cons, allCells_app, allCells_nil, AV.cell, allCells_rtc]
theorem PuL_cpC (x : Cp) : PuL (cpC x) := by simp [cpC, PuL_app, PuL, Pu, PuL_rtc]
theorem renL_cpC (ρ : Nat → Nat) (x : Cp) : renL ρ (cpC x) = cpC x := (PuL_cpC x).ren ρ
theorem fzL_cpC (σ : St) (zs : List Nat) (x : Cp) : fzL σ zs (cpC x) = cpC x := (PuL_cpC x).fz σ zs
theorem kinds_cpC (x : Cp) : (cpC x).map kindAV = expandK [(33, 1)] := by simp only [cpC, List.map_cons, List.map_append, List.map_nil, kindAV, kinds_rtc]; decide +kernel
theorem fits_cpC (x : Cp) : fitsK [(33, 1)] (cpC x) = true := fitsK_of (kinds_cpC x)
theorem aeqL_cpC (x y : Cp) : aeqL (cpC x) (cpC y) = some (decide (x = y)) := by cases x; cases y; simp [cpC, aeqL_app, aeqL, aeq1, length_rtc, length_wdc, aeqL_rtc, Bool.beq_eq_decide_eq, int_beq, Bool.and_assoc, Bool.decide_and]
def cp0 : Cp := ⟨0, rt0⟩
/-- j, f -/
structure Pul where
  j : Cp
  f : Cp
  deriving Inhabited, DecidableEq
def pulC (x : Pul) : List AV := cpC x.j ++ (cpC x.f)
@[simp] theorem length_pulC (x : Pul) : (pulC x).length = 66 := by simp only [pulC, List.length_cons, List.length_append, List.length_nil, length_cpC]
theorem pulC_fold (j : Cp) (f : Cp) : cpC j ++ (cpC f) = pulC ⟨j, f⟩ := rfl
theorem pulC_full (x : Pul) : cut (pulC x) 0 66 = pulC x := cut_full (length_pulC x)
theorem pulC_cut_j (x : Pul) (o n : Nat) (h1 : 0 ≤ o) (h2 : o + n ≤ 33) : cut (pulC x) o n = cut (cpC x.j) (o - 0) n := by unfold pulC; rw [cut_l _ _ _ _ (by rw [length_cpC]; omega)]; all_goals rfl
theorem pulC_spl_j (x : Pul) (o : Nat) (vs : List AV) (h1 : 0 ≤ o) (h2 : o + vs.length ≤ 33) : spl (pulC x) o vs = spl (cpC x.j) (o - 0) vs ++ (cpC x.f) := by unfold pulC; rw [spl_l _ _ _ _ (by rw [length_cpC]; omega)]; all_goals rfl
theorem pulC_cut_f (x : Pul) (o n : Nat) (h1 : 33 ≤ o) (h2 : o + n ≤ 66) : cut (pulC x) o n = cut (cpC x.f) (o - 33) n := by unfold pulC; rw [cut_r _ _ _ _ (by rw [length_cpC]; omega), length_cpC]; all_goals rfl
theorem pulC_spl_f (x : Pul) (o : Nat) (vs : List AV) (h1 : 33 ≤ o) (h2 : o + vs.length ≤ 66) : spl (pulC x) o vs = cpC x.j ++ (spl (cpC x.f) (o - 33) vs) := by unfold pulC; rw [spl_r _ _ _ _ (by rw [length_cpC]; omega), length_cpC]; all_goals rfl
theorem allCells_pulC (x : Pul) : allCells (pulC x) = true := by simp [pulC, allCells_cons, allCells_app, allCells_nil, AV.cell, allCells_cpC]
theorem PuL_pulC (x : Pul) : PuL (pulC x) := by simp [pulC, PuL_app, PuL, Pu, PuL_cpC]
theorem renL_pulC (ρ : Nat → Nat) (x : Pul) : renL ρ (pulC x) = pulC x := (PuL_pulC x).ren ρ
theorem fzL_pulC (σ : St) (zs : List Nat) (x : Pul) : fzL σ zs (pulC x) = pulC x := (PuL_pulC x).fz σ zs
theorem kinds_pulC (x : Pul) : (pulC x).map kindAV = expandK [(66, 1)] := by simp only [pulC, List.map_cons, List.map_append, List.map_nil, kindAV, kinds_cpC]; decide +kernel
theorem fits_pulC (x : Pul) : fitsK [(66, 1)] (pulC x) = true := fitsK_of (kinds_pulC x)
theorem aeqL_pulC (x y : Pul) : aeqL (pulC x) (pulC y) = some (decide (x = y)) := by cases x; cases y; simp [pulC, aeqL_app, aeqL, aeq1, length_rtc, length_wdc, aeqL_cpC, Bool.beq_eq_decide_eq, int_beq, Bool.and_assoc, Bool.decide_and]
def pul0 : Pul := ⟨cp0, cp0⟩
/-- pul, slot, root, parent, payload, diff, pdiff, just, fin, timely -/
structure Blk where
  pul : Pul
  slot : Int
  root : Rt
  parent : Rt
  payload : Rt
  diff : Wd
  pdiff : Wd
  just : Cp
  fin : Cp
  timely : Bool
  deriving Inhabited, DecidableEq
def blkC (x : Blk) : List AV := pulC x.pul ++ (.int .u64 x.slot :: (rtc x.root ++ (rtc x.parent ++ (rtc x.payload ++ (wdc x.diff ++ (wdc x.pdiff ++ (cpC x.just ++ (cpC x.fin ++ [.bool x.timely]))))))))
@[simp] theorem length_blkC (x : Blk) : (blkC x).length = 238 := by simp only [blkC, List.length_cons, List.length_append, List.length_nil, length_cpC, length_pulC, length_rtc, length_wdc]
theorem blkC_fold (pul : Pul) (slot : Int) (root : Rt) (parent : Rt) (payload : Rt) (diff : Wd) (pdiff : Wd) (just : Cp) (fin : Cp) (timely : Bool) : pulC pul ++ (.int .u64 slot :: (rtc root ++ (rtc parent ++ (rtc payload ++ (wdc diff ++ (wdc pdiff ++ (cpC just ++ (cpC fin ++ [.bool timely])))))))) = blkC ⟨pul, slot, root, parent, payload, diff, pdiff, just, fin, timely⟩ := rfl
theorem blkC_full (x : Blk) : cut (blkC x) 0 238 = blkC x := cut_full (length_blkC x)
theorem blkC_cut_pul (x : Blk) (o n : Nat) (h1 : 0 ≤ o) (h2 : o + n ≤ 66) : cut (blkC x) o n = cut (pulC x.pul) (o - 0) n := by unfold blkC; rw [cut_l _ _ _ _ (by rw [length_pulC]; omega)]; all_goals rfl
theorem blkC_spl_pul (x : Blk) (o : Nat) (vs : List AV) (h1 : 0 ≤ o) (h2 : o + vs.length ≤ 66) : spl (blkC x) o vs = spl (pulC x.pul) (o - 0) vs ++ (.int .u64 x.slot :: (rtc x.root ++ (rtc x.parent ++ (rtc x.payload ++ (wdc x.diff ++ (wdc x.pdiff ++ (cpC x.just ++ (cpC x.fin ++ [.bool x.timely])))))))) := by unfold blkC; rw [spl_l _ _ _ _ (by rw [length_pulC]; omega)]; all_goals rfl
theorem blkC_cut_slot (x : Blk) : cut (blkC x) 66 1 = [.int .u64 x.slot] := by unfold blkC; rw [cut_r _ _ _ _ (by rw [length_pulC]; omega), length_pulC]; simp only [Nat.reduceSub]; all_goals rfl
theorem blkC_spl_slot (x : Blk) (v : Int) : spl (blkC x) 66 [.int .u64 v] = blkC { x with slot := v } := by unfold blkC; rw [spl_r _ _ _ _ (by rw [length_pulC]; omega), length_pulC]; simp only [Nat.reduceSub]; all_goals rfl
theorem blkC_cut_root (x : Blk) (o n : Nat) (h1 : 67 ≤ o) (h2 : o + n ≤ 99) : cut (blkC x) o n = cut (rtc x.root) (o - 67) n := by unfold blkC; rw [cut_r _ _ _ _ (by rw [length_pulC]; omega), length_pulC]; rw [cut_s _ _ _ _ (by omega)]; rw [cut_l _ _ _ _ (by rw [length_rtc]; omega)]; rw [show o - 66 - 1 = o - 67 by omega]
theorem blkC_spl_root (x : Blk) (o : Nat) (vs : List AV) (h1 : 67 ≤ o) (h2 : o + vs.length ≤ 99) : spl (blkC x) o vs = pulC x.pul ++ (.int .u64 x.slot :: (spl (rtc x.root) (o - 67) vs ++ (rtc x.parent ++ (rtc x.payload ++ (wdc x.diff ++ (wdc x.pdiff ++ (cpC x.just ++ (cpC x.fin ++ [.bool x.timely])))))))) := by unfold blkC; rw [spl_r _ _ _ _ (by rw [length_pulC]; omega), length_pulC]; rw [spl_s _ _ _ _ (by omega)]; rw [spl_l _ _ _ _ (by rw [length_rtc]; omega)]; rw [show o - 66 - 1 = o - 67 by omega]
theorem blkC_cut_parent (x : Blk) (o n : Nat) (h1 : 99 ≤ o) (h2 : o + n ≤ 131) : cut (blkC x) o n = cut (rtc x.parent) (o - 99) n := by unfold blkC; rw [cut_r _ _ _ _ (by rw [length_pulC]; omega), length_pulC]; rw [cut_s _ _ _ _ (by omega)]; rw [cut_r _ _ _ _ (by rw [length_rtc]; omega), length_rtc]; rw [cut_l _ _ _ _ (by rw [length_rtc]; omega)]; rw [show o - 66 - 1 - 32 = o - 99 by omega]
theorem blkC_spl_parent (x : Blk) (o : Nat) (vs : List AV) (h1 : 99 ≤ o) (h2 : o + vs.length ≤ 131) : spl (blkC x) o vs = pulC x.pul ++ (.int .u64 x.slot :: (rtc x.root ++ (spl (rtc x.parent) (o - 99) vs ++ (rtc x.payload ++ (wdc x.diff ++ (wdc x.pdiff ++ (cpC x.just ++ (cpC x.fin ++ [.bool x.timely])))))))) := by unfold blkC; rw [spl_r _ _ _ _ (by rw [length_pulC]; omega), length_pulC]; rw [spl_s _ _ _ _ (by omega)]; rw [spl_r _ _ _ _ (by rw [length_rtc]; omega), length_rtc]; rw [spl_l _ _ _ _ (by rw [length_rtc]; omega)]; rw [show o - 66 - 1 - 32 = o - 99 by omega]
theorem blkC_cut_payload (x : Blk) (o n : Nat) (h1 : 131 ≤ o) (h2 : o + n ≤ 163) : cut (blkC x) o n = cut (rtc x.payload) (o - 131) n := by unfold blkC; rw [cut_r _ _ _ _ (by rw [length_pulC]; omega), length_pulC]; rw [cut_s _ _ _ _ (by omega)]; rw [cut_r _ _ _ _ (by rw [length_rtc]; omega), length_rtc]; rw [cut_r _ _ _ _ (by rw [length_rtc]; omega), length_rtc]; rw [cut_l _ _ _ _ (by rw [length_rtc]; omega)]; rw [show o - 66 - 1 - 32 - 32 = o - 131 by omega]
theorem blkC_spl_payload (x : Blk) (o : Nat) (vs : List AV) (h1 : 131 ≤ o) (h2 : o + vs.length ≤ 163) : spl (blkC x) o vs = pulC x.pul ++ (.int .u64 x.slot :: (rtc x.root ++ (rtc x.parent ++ (spl (rtc x.payload) (o - 131) vs ++ (wdc x.diff ++ (wdc x.pdiff ++ (cpC x.just ++ (cpC x.fin ++ [.bool x.timely])))))))) := by unfold blkC; rw [spl_r _ _ _ _ (by rw [length_pulC]; omega), length_pulC]; rw [spl_s _ _ _ _ (by omega)]; rw [spl_r _ _ _ _ (by rw [length_rtc]; omega), length_rtc]; rw [spl_r _ _ _ _ (by rw [length_rtc]; omega), length_rtc]; rw [spl_l _ _ _ _ (by rw [length_rtc]; omega)]; rw [show o - 66 - 1 - 32 - 32 = o - 131 by omega]
theorem blkC_cut_diff (x : Blk) (o n : Nat) (h1 : 163 ≤ o) (h2 : o + n ≤ 167) : cut (blkC x) o n = cut (wdc x.diff) (o - 163) n := by unfold blkC; rw [cut_r _ _ _ _ (by rw [length_pulC]; omega), length_pulC]; rw [cut_s _ _ _ _ (by omega)]; rw [cut_r _ _ _ _ (by rw [length_rtc]; omega), length_rtc]; rw [cut_r _ _ _ _ (by rw [length_rtc]; omega), length_rtc]; rw [cut_r _ _ _ _ (by rw [length_rtc]; omega), length_rtc]; rw [cut_l _ _ _ _ (by rw [length_wdc]; omega)]; rw [show o - 66 - 1 - 32 - 32 - 32 = o - 163 by omega]
theorem blkC_spl_diff (x : Blk) (o : Nat) (vs : List AV) (h1 : 163 ≤ o) (h2 : o + vs.length ≤ 167) : spl (blkC x) o vs = pulC x.pul ++ (.int .u64 x.slot :: (rtc x.root ++ (rtc x.parent ++ (rtc x.payload ++ (spl (wdc x.diff) (o - 163) vs ++ (wdc x.pdiff ++ (cpC x.just ++ (cpC x.fin ++ [.bool x.timely])))))))) := by unfold blkC; rw [spl_r _ _ _ _ (by rw [length_pulC]; omega), length_pulC]; rw [spl_s _ _ _ _ (by omega)]; rw [spl_r _ _ _ _ (by rw [length_rtc]; omega), length_rtc]; rw [spl_r _ _ _ _ (by rw [length_rtc]; omega), length_rtc]; rw [spl_r _ _ _ _ (by rw [length_rtc]; omega), length_rtc]; rw [spl_l _ _ _ _ (by rw [length_wdc]; omega)]; rw [show o - 66 - 1 - 32 - 32 - 32 = o - 163 by omega]
theorem blkC_cut_pdiff (x : Blk) (o n : Nat) (h1 : 167 ≤ o) (h2 : o + n ≤ 171) : cut (blkC x) o n = cut (wdc x.pdiff) (o - 167) n := by unfold blkC; rw [cut_r _ _ _ _ (by rw [length_pulC]; omega), length_pulC]; rw [cut_s _ _ _ _ (by omega)]; rw [cut_r _ _ _ _ (by rw [length_rtc]; omega), length_rtc]; rw [cut_r _ _ _ _ (by rw [length_rtc]; omega), length_rtc]; rw [cut_r _ _ _ _ (by rw [length_rtc]; omega), length_rtc]; rw [cut_r _ _ _ _ (by rw [length_wdc]; omega), length_wdc]; rw [cut_l _ _ _ _ (by rw [length_wdc]; omega)]; rw [show o - 66 - 1 - 32 - 32 - 32 - 4 = o - 167 by omega]
theorem blkC_spl_pdiff (x : Blk) (o : Nat) (vs : List AV) (h1 : 167 ≤ o) (h2 : o + vs.length ≤ 171) : spl (blkC x) o vs = pulC x.pul ++ (.int .u64 x.slot :: (rtc x.root ++ (rtc x.parent ++ (rtc x.payload ++ (wdc x.diff ++ (spl (wdc x.pdiff) (o - 167) vs ++ (cpC x.just ++ (cpC x.fin ++ [.bool x.timely])))))))) := by unfold blkC; rw [spl_r _ _ _ _ (by rw [length_pulC]; omega), length_pulC]; rw [spl_s _ _ _ _ (by omega)]; rw [spl_r _ _ _ _ (by rw [length_rtc]; omega), length_rtc]; rw [spl_r _ _ _ _ (by rw [length_rtc]; omega), length_rtc]; rw [spl_r _ _ _ _ (by rw [length_rtc]; omega), length_rtc]; rw [spl_r _ _ _ _ (by rw [length_wdc]; omega), length_wdc]; rw [spl_l _ _ _ _ (by rw [length_wdc]; omega)]; rw [show o - 66 - 1 - 32 - 32 - 32 - 4 = o - 167 by omega]
theorem blkC_cut_just (x : Blk) (o n : Nat) (h1 : 171 ≤ o) (h2 : o + n ≤ 204) : cut (blkC x) o n = cut (cpC x.just) (o - 171) n := by unfold blkC; rw [cut_r _ _ _ _ (by rw [length_pulC]; omega), length_pulC]; rw [cut_s _ _ _ _ (by omega)]; rw [cut_r _ _ _ _ (by rw [length_rtc]; omega), length_rtc]; rw [cut_r _ _ _ _ (by rw [length_rtc]; omega), length_rtc]; rw [cut_r _ _ _ _ (by rw [length_rtc]; omega), length_rtc]; rw [cut_r _ _ _ _ (by rw [length_wdc]; omega), length_wdc]; rw [cut_r _ _ _ _ (by rw [length_wdc]; omega), length_wdc]; rw [cut_l _ _ _ _ (by rw [length_cpC]; omega)]; rw [show o - 66 - 1 - 32 - 32 - 32 - 4 - 4 = o - 171 by omega]
theorem blkC_spl_just (x : Blk) (o : Nat) (vs : List AV) (h1 : 171 ≤ o) (h2 : o + vs.length ≤ 204) : spl (blkC x) o vs = pulC x.pul ++ (.int .u64 x.slot :: (rtc x.root ++ (rtc x.parent ++ (rtc x.payload ++ (wdc x.diff ++ (wdc x.pdiff ++ (spl (cpC x.just) (o - 171) vs ++ (cpC x.fin ++ [.bool x.timely])))))))) := by unfold blkC; rw [spl_r _ _ _ _ (by rw [length_pulC]; omega), length_pulC]; rw [spl_s _ _ _ _ (by omega)]; rw [spl_r _ _ _ _ (by rw [length_rtc]; omega), length_rtc]; rw [spl_r _ _ _ _ (by rw [length_rtc]; omega), length_rtc]; rw [spl_r _ _ _ _ (by rw [length_rtc]; omega), length_rtc]; rw [spl_r _ _ _ _ (by rw [length_wdc]; omega), length_wdc]; rw [spl_r _ _ _ _ (by rw [length_wdc]; omega), length_wdc]; rw [spl_l _ _ _ _ (by rw [length_cpC]; omega)]; rw [show o - 66 - 1 - 32 - 32 - 32 - 4 - 4 = o - 171 by omega]
theorem blkC_cut_fin (x : Blk) (o n : Nat) (h1 : 204 ≤ o) (h2 : o + n ≤ 237) : cut (blkC x) o n = cut (cpC x.fin) (o - 204) n := by unfold blkC; rw [cut_r _ _ _ _ (by rw [length_pulC]; omega), length_pulC]; rw [cut_s _ _ _ _ (by omega)]; rw [cut_r _ _ _ _ (by rw [length_rtc]; omega), length_rtc]; rw [cut_r _ _ _ _ (by rw [length_rtc]; omega), length_rtc]; rw [cut_r _ _ _ _ (by rw [length_rtc]; omega), length_rtc]; rw [cut_r _ _ _ _ (by rw [length_wdc]; omega), length_wdc]; rw [cut_r _ _ _ _ (by rw [length_wdc]; omega), length_wdc]; rw [cut_r _ _ _ _ (by rw [length_cpC]; omega), length_cpC]; rw [cut_l _ _ _ _ (by rw [length_cpC]; omega)]; rw [show o - 66 - 1 - 32 - 32 - 32 - 4 - 4 - 33 = o - 204 by omega]
theorem blkC_spl_fin (x : Blk) (o : Nat) (vs : List AV) (h1 : 204 ≤ o) (h2 : o + vs.length ≤ 237) : spl (blkC x) o vs = pulC x.pul ++ (.int .u64 x.slot :: (rtc x.root ++ (rtc x.parent ++ (rtc x.payload ++ (wdc x.diff ++ (wdc x.pdiff ++ (cpC x.just ++ (spl (cpC x.fin) (o - 204) vs ++ [.bool x.timely])))))))) := by unfold blkC; rw [spl_r _ _ _ _ (by rw [length_pulC]; omega), length_pulC]; rw [spl_s _ _ _ _ (by omega)]; rw [spl_r _ _ _ _ (by rw [length_rtc]; omega), length_rtc]; rw [spl_r _ _ _ _ (by rw [length_rtc]; omega), length_rtc]; rw [spl_r _ _ _ _ (by rw [length_rtc]; omega), length_rtc]; rw [spl_r _ _ _ _ (by rw [length_wdc]; omega), length_wdc]; rw [spl_r _ _ _ _ (by rw [length_wdc]; omega), length_wdc]; rw [spl_r _ _ _ _ (by rw [length_cpC]; omega), length_cpC]; rw [spl_l _ _ _ _ (by rw [length_cpC]; omega)]; rw [show o - 66 - 1 - 32 - 32 - 32 - 4 - 4 - 33 = o - 204 by omega]
theorem blkC_cut_timely (x : Blk) : cut (blkC x) 237 1 = [.bool x.timely] := by unfold blkC; rw [cut_r _ _ _ _ (by rw [length_pulC]; omega), length_pulC]; rw [cut_s _ _ _ _ (by omega)]; rw [cut_r _ _ _ _ (by rw [length_rtc]; omega), length_rtc]; rw [cut_r _ _ _ _ (by rw [length_rtc]; omega), length_rtc]; rw [cut_r _ _ _ _ (by rw [length_rtc]; omega), length_rtc]; rw [cut_r _ _ _ _ (by rw [length_wdc]; omega), length_wdc]; rw [cut_r _ _ _ _ (by rw [length_wdc]; omega), length_wdc]; rw [cut_r _ _ _ _ (by rw [length_cpC]; omega), length_cpC]; rw [cut_r _ _ _ _ (by rw [length_cpC]; omega), length_cpC]; simp only [Nat.reduceSub]; all_goals rfl
theorem blkC_spl_timely (x : Blk) (v : Bool) : spl (blkC x) 237 [.bool v] = blkC { x with timely := v } := by unfold blkC; rw [spl_r _ _ _ _ (by rw [length_pulC]; omega), length_pulC]; rw [spl_s _ _ _ _ (by omega)]; rw [spl_r _ _ _ _ (by rw [length_rtc]; omega), length_rtc]; rw [spl_r _ _ _ _ (by rw [length_rtc]; omega), length_rtc]; rw [spl_r _ _ _ _ (by rw [length_rtc]; omega), length_rtc]; rw [spl_r _ _ _ _ (by rw [length_wdc]; omega), length_wdc]; rw [spl_r _ _ _ _ (by rw [length_wdc]; omega), length_wdc]; rw [spl_r _ _ _ _ (by rw [length_cpC]; omega), length_cpC]; rw [spl_r _ _ _ _ (by rw [length_cpC]; omega), length_cpC]; simp only [Nat.reduceSub]; all_goals rfl
theorem allCells_blkC (x : Blk) : allCells (blkC x) = true := by simp [blkC, allCells_cons, allCells_app, allCells_nil, AV.cell, allCells_cpC, allCells_pulC, allCells_rtc, allCells_wdc]
theorem PuL_blkC (x : Blk) : PuL (blkC x) := by simp [blkC, PuL_app, PuL, Pu, PuL_cpC, PuL_pulC, PuL_rtc, PuL_wdc]
theorem renL_blkC (ρ : Nat → Nat) (x : Blk) : renL ρ (blkC x) = blkC x := (PuL_blkC x).ren ρ
theorem fzL_blkC (σ : St) (zs : List Nat) (x : Blk) : fzL σ zs (blkC x) = blkC x := (PuL_blkC x).fz σ zs
theorem kinds_blkC (x : Blk) : (blkC x).map kindAV = expandK [(237, 1), (1, 0)] := by simp only [blkC, List.map_cons, List.map_append, List.map_nil, kindAV, kinds_cpC, kinds_pulC, kinds_rtc, kinds_wdc]; decide +kernel
theorem fits_blkC (x : Blk) : fitsK [(237, 1), (1, 0)] (blkC x) = true := fitsK_of (kinds_blkC x)
theorem aeqL_blkC (x y : Blk) : aeqL (blkC x) (blkC y) = some (decide (x = y)) := by cases x; cases y; simp [blkC, aeqL_app, aeqL, aeq1, length_rtc, length_wdc, aeqL_cpC, aeqL_pulC, aeqL_rtc, aeqL_wdc, Bool.beq_eq_decide_eq, int_beq, Bool.and_assoc, Bool.decide_and]
def blk0 : Blk := ⟨pul0, 0, rt0, rt0, rt0, wd0, wd0, cp0, cp0, false⟩
/-- slot, root, target, vals -/
structure Att where
  slot : Int
  root : Rt
  target : Cp
  vals : AV
  deriving Inhabited
def attC (x : Att) : List AV := .int .u64 x.slot :: (rtc x.root ++ (cpC x.target ++ [x.vals]))
@[simp] theorem length_attC (x : Att) : (attC x).length = 67 := by simp only [attC, List.length_cons, List.length_append, List.length_nil, length_cpC, length_rtc]
theorem attC_fold (slot : Int) (root : Rt) (target : Cp) (vals : AV) : .int .u64 slot :: (rtc root ++ (cpC target ++ [vals])) = attC ⟨slot, root, target, vals⟩ := rfl
theorem attC_full (x : Att) : cut (attC x) 0 67 = attC x := cut_full (length_attC x)
theorem attC_cut_slot (x : Att) : cut (attC x) 0 1 = [.int .u64 x.slot] := by unfold attC; all_goals rfl
theorem attC_spl_slot (x : Att) (v : Int) : spl (attC x) 0 [.int .u64 v] = attC { x with slot := v } := by unfold attC; all_goals rfl
theorem attC_cut_root (x : Att) (o n : Nat) (h1 : 1 ≤ o) (h2 : o + n ≤ 33) : cut (attC x) o n = cut (rtc x.root) (o - 1) n := by unfold attC; rw [cut_s _ _ _ _ (by omega)]; rw [cut_l _ _ _ _ (by rw [length_rtc]; omega)]; all_goals rfl
theorem attC_spl_root (x : Att) (o : Nat) (vs : List AV) (h1 : 1 ≤ o) (h2 : o + vs.length ≤ 33) : spl (attC x) o vs = .int .u64 x.slot :: (spl (rtc x.root) (o - 1) vs ++ (cpC x.target ++ [x.vals])) := by unfold attC; rw [spl_s _ _ _ _ (by omega)]; rw [spl_l _ _ _ _ (by rw [length_rtc]; omega)]; all_goals rfl
theorem attC_cut_target (x : Att) (o n : Nat) (h1 : 33 ≤ o) (h2 : o + n ≤ 66) : cut (attC x) o n = cut (cpC x.target) (o - 33) n := by unfold attC; rw [cut_s _ _ _ _ (by omega)]; rw [cut_r _ _ _ _ (by rw [length_rtc]; omega), length_rtc]; rw [cut_l _ _ _ _ (by rw [length_cpC]; omega)]; rw [show o - 1 - 32 = o - 33 by omega]
theorem attC_spl_target (x : Att) (o : Nat) (vs : List AV) (h1 : 33 ≤ o) (h2 : o + vs.length ≤ 66) : spl (attC x) o vs = .int .u64 x.slot :: (rtc x.root ++ (spl (cpC x.target) (o - 33) vs ++ [x.vals])) := by unfold attC; rw [spl_s _ _ _ _ (by omega)]; rw [spl_r _ _ _ _ (by rw [length_rtc]; omega), length_rtc]; rw [spl_l _ _ _ _ (by rw [length_cpC]; omega)]; rw [show o - 1 - 32 = o - 33 by omega]
theorem attC_cut_vals (x : Att) : cut (attC x) 66 1 = [x.vals] := by unfold attC; rw [cut_s _ _ _ _ (by omega)]; rw [cut_r _ _ _ _ (by rw [length_rtc]; omega), length_rtc]; rw [cut_r _ _ _ _ (by rw [length_cpC]; omega), length_cpC]; simp only [Nat.reduceSub]; all_goals rfl
theorem attC_spl_vals (x : Att) (v : AV) : spl (attC x) 66 [v] = attC { x with vals := v } := by unfold attC; rw [spl_s _ _ _ _ (by omega)]; rw [spl_r _ _ _ _ (by rw [length_rtc]; omega), length_rtc]; rw [spl_r _ _ _ _ (by rw [length_cpC]; omega), length_cpC]; simp only [Nat.reduceSub]; all_goals rfl
def Att.map (g : AV → AV) (x : Att) : Att := { x with vals := g x.vals }
theorem Att.map_mk (g : AV → AV) (slot : Int) (root : Rt) (target : Cp) (vals : AV) : Att.map g ⟨slot, root, target, vals⟩ = ⟨slot, root, target, g vals⟩ := rfl
def Att.good (x : Att) : Bool := x.vals.cell
theorem Att.good_mk (slot : Int) (root : Rt) (target : Cp) (vals : AV) : Att.good ⟨slot, root, target, vals⟩ = (vals.cell) := rfl
def Att.Pure (x : Att) : Prop := Pu x.vals
theorem allCells_attC (x : Att) : allCells (attC x) = x.good := by simp [attC, Att.good, Bool.and_assoc, allCells_cons, allCells_app, allCells_nil, AV.cell, allCells_cpC, allCells_rtc]
theorem PuL_attC (x : Att) : PuL (attC x) ↔ x.Pure := by simp [attC, Att.Pure, PuL_app, PuL, Pu, PuL_cpC, PuL_rtc]
theorem renL_attC (ρ : Nat → Nat) (x : Att) : renL ρ (attC x) = attC (x.map (ren ρ)) := by simp only [attC, Att.map, renL_app, renL, ren, renL_cpC, renL_rtc]
theorem fzL_attC (σ : St) (zs : List Nat) (x : Att) : fzL σ zs (attC x) = attC (x.map (fz σ zs)) := by simp only [attC, Att.map, fzL_app, fzL, fz, fzL_cpC, fzL_rtc]
def att0 : Att := ⟨0, rt0, cp0, .sl 0 true []⟩
/-- src, tgt, root, vals -/
structure Clm where
  src : Int
  tgt : Int
  root : Rt
  vals : AV
  deriving Inhabited
def clmC (x : Clm) : List AV := .int .u64 x.src :: (.int .u64 x.tgt :: (rtc x.root ++ [x.vals]))
@[simp] theorem length_clmC (x : Clm) : (clmC x).length = 35 := by simp only [clmC, List.length_cons, List.length_append, List.length_nil, length_rtc]
theorem clmC_fold (src : Int) (tgt : Int) (root : Rt) (vals : AV) : .int .u64 src :: (.int .u64 tgt :: (rtc root ++ [vals])) = clmC ⟨src, tgt, root, vals⟩ := rfl
theorem clmC_full (x : Clm) : cut (clmC x) 0 35 = clmC x := cut_full (length_clmC x)
theorem clmC_cut_src (x : Clm) : cut (clmC x) 0 1 = [.int .u64 x.src] := by unfold clmC; all_goals rfl
theorem clmC_spl_src (x : Clm) (v : Int) : spl (clmC x) 0 [.int .u64 v] = clmC { x with src := v } := by unfold clmC; all_goals rfl
theorem clmC_cut_tgt (x : Clm) : cut (clmC x) 1 1 = [.int .u64 x.tgt] := by unfold clmC; rw [cut_s _ _ _ _ (by omega)]; simp only [Nat.reduceSub]; all_goals rfl
theorem clmC_spl_tgt (x : Clm) (v : Int) : spl (clmC x) 1 [.int .u64 v] = clmC { x with tgt := v } := by unfold clmC; rw [spl_s _ _ _ _ (by omega)]; simp only [Nat.reduceSub]; all_goals rfl
theorem clmC_cut_root (x : Clm) (o n : Nat) (h1 : 2 ≤ o) (h2 : o + n ≤ 34) : cut (clmC x) o n = cut (rtc x.root) (o - 2) n := by unfold clmC; rw [cut_s _ _ _ _ (by omega)]; rw [cut_s _ _ _ _ (by omega)]; rw [cut_l _ _ _ _ (by rw [length_rtc]; omega)]; rw [show o - 1 - 1 = o - 2 by omega]
theorem clmC_spl_root (x : Clm) (o : Nat) (vs : List AV) (h1 : 2 ≤ o) (h2 : o + vs.length ≤ 34) : spl (clmC x) o vs = .int .u64 x.src :: (.int .u64 x.tgt :: (spl (rtc x.root) (o - 2) vs ++ [x.vals])) := by unfold clmC; rw [spl_s _ _ _ _ (by omega)]; rw [spl_s _ _ _ _ (by omega)]; rw [spl_l _ _ _ _ (by rw [length_rtc]; omega)]; rw [show o - 1 - 1 = o - 2 by omega]
theorem clmC_cut_vals (x : Clm) : cut (clmC x) 34 1 = [x.vals] := by unfold clmC; rw [cut_s _ _ _ _ (by omega)]; rw [cut_s _ _ _ _ (by omega)]; rw [cut_r _ _ _ _ (by rw [length_rtc]; omega), length_rtc]; simp only [Nat.reduceSub]; all_goals rfl
theorem clmC_spl_vals (x : Clm) (v : AV) : spl (clmC x) 34 [v] = clmC { x with vals := v } := by unfold clmC; rw [spl_s _ _ _ _ (by omega)]; rw [spl_s _ _ _ _ (by omega)]; rw [spl_r _ _ _ _ (by rw [length_rtc]; omega), length_rtc]; simp only [Nat.reduceSub]; all_goals rfl
def Clm.map (g : AV → AV) (x : Clm) : Clm := { x with vals := g x.vals }
theorem Clm.map_mk (g : AV → AV) (src : Int) (tgt : Int) (root : Rt) (vals : AV) : Clm.map g ⟨src, tgt, root, vals⟩ = ⟨src, tgt, root, g vals⟩ := rfl
def Clm.good (x : Clm) : Bool := x.vals.cell
theorem Clm.good_mk (src : Int) (tgt : Int) (root : Rt) (vals : AV) : Clm.good ⟨src, tgt, root, vals⟩ = (vals.cell) := rfl
def Clm.Pure (x : Clm) : Prop := Pu x.vals
theorem allCells_clmC (x : Clm) : allCells (clmC x) = x.good := by simp [clmC, Clm.good, Bool.and_assoc, allCells_cons, allCells_app, allCells_nil, AV.cell, allCells_rtc]
theorem PuL_clmC (x : Clm) : PuL (clmC x) ↔ x.Pure := by simp [clmC, Clm.Pure, PuL_app, PuL, Pu, PuL_rtc]
theorem renL_clmC (ρ : Nat → Nat) (x : Clm) : renL ρ (clmC x) = clmC (x.map (ren ρ)) := by simp only [clmC, Clm.map, renL_app, renL, ren, renL_rtc]
theorem fzL_clmC (σ : St) (zs : List Nat) (x : Clm) : fzL σ zs (clmC x) = clmC (x.map (fz σ zs)) := by simp only [clmC, Clm.map, fzL_app, fzL, fz, fzL_rtc]
def clm0 : Clm := ⟨0, 0, rt0, .sl 0 true []⟩
/-- fst, snd -/
structure Slg where
  fst : Clm
  snd : Clm
  deriving Inhabited
def slgC (x : Slg) : List AV := clmC x.fst ++ (clmC x.snd)
@[simp] theorem length_slgC (x : Slg) : (slgC x).length = 70 := by simp only [slgC, List.length_cons, List.length_append, List.length_nil, length_clmC]
theorem slgC_fold (fst : Clm) (snd : Clm) : clmC fst ++ (clmC snd) = slgC ⟨fst, snd⟩ := rfl
theorem slgC_full (x : Slg) : cut (slgC x) 0 70 = slgC x := cut_full (length_slgC x)
theorem slgC_cut_fst (x : Slg) (o n : Nat) (h1 : 0 ≤ o) (h2 : o + n ≤ 35) : cut (slgC x) o n = cut (clmC x.fst) (o - 0) n := by unfold slgC; rw [cut_l _ _ _ _ (by rw [length_clmC]; omega)]; all_goals rfl
theorem slgC_spl_fst (x : Slg) (o : Nat) (vs : List AV) (h1 : 0 ≤ o) (h2 : o + vs.length ≤ 35) : spl (slgC x) o vs = spl (clmC x.fst) (o - 0) vs ++ (clmC x.snd) := by unfold slgC; rw [spl_l _ _ _ _ (by rw [length_clmC]; omega)]; all_goals rfl
theorem slgC_cut_snd (x : Slg) (o n : Nat) (h1 : 35 ≤ o) (h2 : o + n ≤ 70) : cut (slgC x) o n = cut (clmC x.snd) (o - 35) n := by unfold slgC; rw [cut_r _ _ _ _ (by rw [length_clmC]; omega), length_clmC]; all_goals rfl
theorem slgC_spl_snd (x : Slg) (o : Nat) (vs : List AV) (h1 : 35 ≤ o) (h2 : o + vs.length ≤ 70) : spl (slgC x) o vs = clmC x.fst ++ (spl (clmC x.snd) (o - 35) vs) := by unfold slgC; rw [spl_r _ _ _ _ (by rw [length_clmC]; omega), length_clmC]; all_goals rfl
def Slg.map (g : AV → AV) (x : Slg) : Slg := { x with fst := x.fst.map g, snd := x.snd.map g }
theorem Slg.map_mk (g : AV → AV) (fst : Clm) (snd : Clm) : Slg.map g ⟨fst, snd⟩ = ⟨fst.map g, snd.map g⟩ := rfl
def Slg.good (x : Slg) : Bool := x.fst.good && x.snd.good
theorem Slg.good_mk (fst : Clm) (snd : Clm) : Slg.good ⟨fst, snd⟩ = (fst.good && snd.good) := rfl
def Slg.Pure (x : Slg) : Prop := x.fst.Pure ∧ x.snd.Pure
theorem allCells_slgC (x : Slg) : allCells (slgC x) = x.good := by simp [slgC, Slg.good, Bool.and_assoc, allCells_cons, allCells_app, allCells_nil, AV.cell, allCells_clmC]
theorem PuL_slgC (x : Slg) : PuL (slgC x) ↔ x.Pure := by simp [slgC, Slg.Pure, PuL_app, PuL, Pu, PuL_clmC]
theorem renL_slgC (ρ : Nat → Nat) (x : Slg) : renL ρ (slgC x) = slgC (x.map (ren ρ)) := by simp only [slgC, Slg.map, renL_app, renL, ren, renL_clmC]
theorem fzL_slgC (σ : St) (zs : List Nat) (x : Slg) : fzL σ zs (slgC x) = slgC (x.map (fz σ zs)) := by simp only [slgC, Slg.map, fzL_app, fzL, fz, fzL_clmC]
def slg0 : Slg := ⟨clm0, clm0⟩
/-- cp, bals -/
structure Tab where
  cp : Cp
  bals : AV
  deriving Inhabited
def tabC (x : Tab) : List AV := cpC x.cp ++ [x.bals]
@[simp] theorem length_tabC (x : Tab) : (tabC x).length = 34 := by simp only [tabC, List.length_cons, List.length_append, List.length_nil, length_cpC]
theorem tabC_fold (cp : Cp) (bals : AV) : cpC cp ++ [bals] = tabC ⟨cp, bals⟩ := rfl
theorem tabC_full (x : Tab) : cut (tabC x) 0 34 = tabC x := cut_full (length_tabC x)
theorem tabC_cut_cp (x : Tab) (o n : Nat) (h1 : 0 ≤ o) (h2 : o + n ≤ 33) : cut (tabC x) o n = cut (cpC x.cp) (o - 0) n := by unfold tabC; rw [cut_l _ _ _ _ (by rw [length_cpC]; omega)]; all_goals rfl
theorem tabC_spl_cp (x : Tab) (o : Nat) (vs : List AV) (h1 : 0 ≤ o) (h2 : o + vs.length ≤ 33) : spl (tabC x) o vs = spl (cpC x.cp) (o - 0) vs ++ [x.bals] := by unfold tabC; rw [spl_l _ _ _ _ (by rw [length_cpC]; omega)]; all_goals rfl
theorem tabC_cut_bals (x : Tab) : cut (tabC x) 33 1 = [x.bals] := by unfold tabC; rw [cut_r _ _ _ _ (by rw [length_cpC]; omega), length_cpC]; simp only [Nat.reduceSub]; all_goals rfl
theorem tabC_spl_bals (x : Tab) (v : AV) : spl (tabC x) 33 [v] = tabC { x with bals := v } := by unfold tabC; rw [spl_r _ _ _ _ (by rw [length_cpC]; omega), length_cpC]; simp only [Nat.reduceSub]; all_goals rfl
def Tab.map (g : AV → AV) (x : Tab) : Tab := { x with bals := g x.bals }
theorem Tab.map_mk (g : AV → AV) (cp : Cp) (bals : AV) : Tab.map g ⟨cp, bals⟩ = ⟨cp, g bals⟩ := rfl
def Tab.good (x : Tab) : Bool := x.bals.cell
theorem Tab.good_mk (cp : Cp) (bals : AV) : Tab.good ⟨cp, bals⟩ = (bals.cell) := rfl
def Tab.Pure (x : Tab) : Prop := Pu x.bals
theorem allCells_tabC (x : Tab) : allCells (tabC x) = x.good := by simp [tabC, Tab.good, Bool.and_assoc, allCells_cons, allCells_app, allCells_nil, AV.cell, allCells_cpC]
theorem PuL_tabC (x : Tab) : PuL (tabC x) ↔ x.Pure := by simp [tabC, Tab.Pure, PuL_app, PuL, Pu, PuL_cpC]
theorem renL_tabC (ρ : Nat → Nat) (x : Tab) : renL ρ (tabC x) = tabC (x.map (ren ρ)) := by simp only [tabC, Tab.map, renL_app, renL, ren, renL_cpC]
theorem fzL_tabC (σ : St) (zs : List Nat) (x : Tab) : fzL σ zs (tabC x) = tabC (x.map (fz σ zs)) := by simp only [tabC, Tab.map, fzL_app, fzL, fz, fzL_cpC]
def tab0 : Tab := ⟨cp0, .sl 0 true []⟩
/-- tag, kind, latest -/
structure Vdt where
  tag : Int
  kind : Int
  latest : Rt
  deriving Inhabited, DecidableEq
def vdtC (x : Vdt) : List AV := .int .u64 x.tag :: (.int .i64 x.kind :: (rtc x.latest))
@[simp] theorem length_vdtC (x : Vdt) : (vdtC x).length = 34 := by simp only [vdtC, List.length_cons, List.length_append, List.length_nil, length_rtc]
theorem vdtC_fold (tag : Int) (kind : Int) (latest : Rt) : .int .u64 tag :: (.int .i64 kind :: (rtc latest)) = vdtC ⟨tag, kind, latest⟩ := rfl
theorem vdtC_full (x : Vdt) : cut (vdtC x) 0 34 = vdtC x := cut_full (length_vdtC x)
theorem vdtC_cut_tag (x : Vdt) : cut (vdtC x) 0 1 = [.int .u64 x.tag] := by unfold vdtC; all_goals rfl
theorem vdtC_spl_tag (x : Vdt) (v : Int) : spl (vdtC x) 0 [.int .u64 v] = vdtC { x with tag := v } := by unfold vdtC; all_goals rfl
theorem vdtC_cut_kind (x : Vdt) : cut (vdtC x) 1 1 = [.int .i64 x.kind] := by unfold vdtC; rw [cut_s _ _ _ _ (by omega)]; simp only [Nat.reduceSub]; all_goals rfl
theorem vdtC_spl_kind (x : Vdt) (v : Int) : spl (vdtC x) 1 [.int .i64 v] = vdtC { x with kind := v } := by unfold vdtC; rw [spl_s _ _ _ _ (by omega)]; simp only [Nat.reduceSub]; all_goals rfl
theorem vdtC_cut_latest (x : Vdt) (o n : Nat) (h1 : 2 ≤ o) (h2 : o + n ≤ 34) : cut (vdtC x) o n = cut (rtc x.latest) (o - 2) n := by unfold vdtC; rw [cut_s _ _ _ _ (by omega)]; rw [cut_s _ _ _ _ (by omega)]; rw [show o - 1 - 1 = o - 2 by omega]
theorem vdtC_spl_latest (x : Vdt) (o : Nat) (vs : List AV) (h1 : 2 ≤ o) (h2 : o + vs.length ≤ 34) : spl (vdtC x) o vs = .int .u64 x.tag :: (.int .i64 x.kind :: (spl (rtc x.latest) (o - 2) vs)) := by unfold vdtC; rw [spl_s _ _ _ _ (by omega)]; rw [spl_s _ _ _ _ (by omega)]; rw [show o - 1 - 1 = o - 2 by omega]
theorem allCells_vdtC (x : Vdt) : allCells (vdtC x) = true := by simp [vdtC, allCells_cons, allCells_app, allCells_nil, AV.cell, allCells_rtc]
theorem PuL_vdtC (x : Vdt) : PuL (vdtC x) := by simp [vdtC, PuL_app, PuL, Pu, PuL_rtc]
theorem renL_vdtC (ρ : Nat → Nat) (x : Vdt) : renL ρ (vdtC x) = vdtC x := (PuL_vdtC x).ren ρ
theorem fzL_vdtC (σ : St) (zs : List Nat) (x : Vdt) : fzL σ zs (vdtC x) = vdtC x := (PuL_vdtC x).fz σ zs
theorem kinds_vdtC (x : Vdt) : (vdtC x).map kindAV = expandK [(34, 1)] := by simp only [vdtC, List.map_cons, List.map_append, List.map_nil, kindAV, kinds_rtc]; decide +kernel
theorem fits_vdtC (x : Vdt) : fitsK [(34, 1)] (vdtC x) = true := fitsK_of (kinds_vdtC x)
theorem aeqL_vdtC (x y : Vdt) : aeqL (vdtC x) (vdtC y) = some (decide (x = y)) := by cases x; cases y; simp [vdtC, aeqL_app, aeqL, aeq1, length_rtc, length_wdc, aeqL_rtc, Bool.beq_eq_decide_eq, int_beq, Bool.and_assoc, Bool.decide_and]
def vdt0 : Vdt := ⟨0, 0, rt0⟩
/-- kind, blk, att, slg, tab, vdt, write, keep -/
structure SOp where
  kind : Int
  blk : Blk
  att : Att
  slg : Slg
  tab : Tab
  vdt : Vdt
  write : Int
  keep : Int
  deriving Inhabited
def sOpC (x : SOp) : List AV := .int .i64 x.kind :: (blkC x.blk ++ (attC x.att ++ (slgC x.slg ++ (tabC x.tab ++ (vdtC x.vdt ++ (.int .i64 x.write :: [.int .i64 x.keep]))))))
@[simp] theorem length_sOpC (x : SOp) : (sOpC x).length = 446 := by simp only [sOpC, List.length_cons, List.length_append, List.length_nil, length_attC, length_blkC, length_slgC, length_tabC, length_vdtC]
theorem sOpC_fold (kind : Int) (blk : Blk) (att : Att) (slg : Slg) (tab : Tab) (vdt : Vdt) (write : Int) (keep : Int) : .int .i64 kind :: (blkC blk ++ (attC att ++ (slgC slg ++ (tabC tab ++ (vdtC vdt ++ (.int .i64 write :: [.int .i64 keep])))))) = sOpC ⟨kind, blk, att, slg, tab, vdt, write, keep⟩ := rfl
theorem sOpC_full (x : SOp) : cut (sOpC x) 0 446 = sOpC x := cut_full (length_sOpC x)
theorem sOpC_cut_kind (x : SOp) : cut (sOpC x) 0 1 = [.int .i64 x.kind] := by unfold sOpC; all_goals rfl
theorem sOpC_spl_kind (x : SOp) (v : Int) : spl (sOpC x) 0 [.int .i64 v] = sOpC { x with kind := v } := by unfold sOpC; all_goals rfl
theorem sOpC_cut_blk (x : SOp) (o n : Nat) (h1 : 1 ≤ o) (h2 : o + n ≤ 239) : cut (sOpC x) o n = cut (blkC x.blk) (o - 1) n := by unfold sOpC; rw [cut_s _ _ _ _ (by omega)]; rw [cut_l _ _ _ _ (by rw [length_blkC]; omega)]; all_goals rfl
theorem sOpC_spl_blk (x : SOp) (o : Nat) (vs : List AV) (h1 : 1 ≤ o) (h2 : o + vs.length ≤ 239) : spl (sOpC x) o vs = .int .i64 x.kind :: (spl (blkC x.blk) (o - 1) vs ++ (attC x.att ++ (slgC x.slg ++ (tabC x.tab ++ (vdtC x.vdt ++ (.int .i64 x.write :: [.int .i64 x.keep])))))) := by unfold sOpC; rw [spl_s _ _ _ _ (by omega)]; rw [spl_l _ _ _ _ (by rw [length_blkC]; omega)]; all_goals rfl
theorem sOpC_cut_att (x : SOp) (o n : Nat) (h1 : 239 ≤ o) (h2 : o + n ≤ 306) : cut (sOpC x) o n = cut (attC x.att) (o - 239) n := by unfold sOpC; rw [cut_s _ _ _ _ (by omega)]; rw [cut_r _ _ _ _ (by rw [length_blkC]; omega), length_blkC]; rw [cut_l _ _ _ _ (by rw [length_attC]; omega)]; rw [show o - 1 - 238 = o - 239 by omega]
theorem sOpC_spl_att (x : SOp) (o : Nat) (vs : List AV) (h1 : 239 ≤ o) (h2 : o + vs.length ≤ 306) : spl (sOpC x) o vs = .int .i64 x.kind :: (blkC x.blk ++ (spl (attC x.att) (o - 239) vs ++ (slgC x.slg ++ (tabC x.tab ++ (vdtC x.vdt ++ (.int .i64 x.write :: [.int .i64 x.keep])))))) := by unfold sOpC; rw [spl_s _ _ _ _ (by omega)]; rw [spl_r _ _ _ _ (by rw [length_blkC]; omega), length_blkC]; rw [spl_l _ _ _ _ (by rw [length_attC]; omega)]; rw [show o - 1 - 238 = o - 239 by omega]
theorem sOpC_cut_slg (x : SOp) (o n : Nat) (h1 : 306 ≤ o) (h2 : o + n ≤ 376) : cut (sOpC x) o n = cut (slgC x.slg) (o - 306) n := by unfold sOpC; rw [cut_s _ _ _ _ (by omega)]; rw [cut_r _ _ _ _ (by rw [length_blkC]; omega), length_blkC]; rw [cut_r _ _ _ _ (by rw [length_attC]; omega), length_attC]; rw [cut_l _ _ _ _ (by rw [length_slgC]; omega)]; rw [show o - 1 - 238 - 67 = o - 306 by omega]
theorem sOpC_spl_slg (x : SOp) (o : Nat) (vs : List AV) (h1 : 306 ≤ o) (h2 : o + vs.length ≤ 376) : spl (sOpC x) o vs = .int .i64 x.kind :: (blkC x.blk ++ (attC x.att ++ (spl (slgC x.slg) (o - 306) vs ++ (tabC x.tab ++ (vdtC x.vdt ++ (.int .i64 x.write :: [.int .i64 x.keep])))))) := by unfold sOpC; rw [spl_s _ _ _ _ (by omega)]; rw [spl_r _ _ _ _ (by rw [length_blkC]; omega), length_blkC]; rw [spl_r _ _ _ _ (by rw [length_attC]; omega), length_attC]; rw [spl_l _ _ _ _ (by rw [length_slgC]; omega)]; rw [show o - 1 - 238 - 67 = o - 306 by omega]
theorem sOpC_cut_tab (x : SOp) (o n : Nat) (h1 : 376 ≤ o) (h2 : o + n ≤ 410) : cut (sOpC x) o n = cut (tabC x.tab) (o - 376) n := by unfold sOpC; rw [cut_s _ _ _ _ (by omega)]; rw [cut_r _ _ _ _ (by rw [length_blkC]; omega), length_blkC]; rw [cut_r _ _ _ _ (by rw [length_attC]; omega), length_attC]; rw [cut_r _ _ _ _ (by rw [length_slgC]; omega), length_slgC]; rw [cut_l _ _ _ _ (by rw [length_tabC]; omega)]; rw [show o - 1 - 238 - 67 - 70 = o - 376 by omega]
theorem sOpC_spl_tab (x : SOp) (o : Nat) (vs : List AV) (h1 : 376 ≤ o) (h2 : o + vs.length ≤ 410) : spl (sOpC x) o vs = .int .i64 x.kind :: (blkC x.blk ++ (attC x.att ++ (slgC x.slg ++ (spl (tabC x.tab) (o - 376) vs ++ (vdtC x.vdt ++ (.int .i64 x.write :: [.int .i64 x.keep])))))) := by unfold sOpC; rw [spl_s _ _ _ _ (by omega)]; rw [spl_r _ _ _ _ (by rw [length_blkC]; omega), length_blkC]; rw [spl_r _ _ _ _ (by rw [length_attC]; omega), length_attC]; rw [spl_r _ _ _ _ (by rw [length_slgC]; omega), length_slgC]; rw [spl_l _ _ _ _ (by rw [length_tabC]; omega)]; rw [show o - 1 - 238 - 67 - 70 = o - 376 by omega]
theorem sOpC_cut_vdt (x : SOp) (o n : Nat) (h1 : 410 ≤ o) (h2 : o + n ≤ 444) : cut (sOpC x) o n = cut (vdtC x.vdt) (o - 410) n := by unfold sOpC; rw [cut_s _ _ _ _ (by omega)]; rw [cut_r _ _ _ _ (by rw [length_blkC]; omega), length_blkC]; rw [cut_r _ _ _ _ (by rw [length_attC]; omega), length_attC]; rw [cut_r _ _ _ _ (by rw [length_slgC]; omega), length_slgC]; rw [cut_r _ _ _ _ (by rw [length_tabC]; omega), length_tabC]; rw [cut_l _ _ _ _ (by rw [length_vdtC]; omega)]; rw [show o - 1 - 238 - 67 - 70 - 34 = o - 410 by omega]
theorem sOpC_spl_vdt (x : SOp) (o : Nat) (vs : List AV) (h1 : 410 ≤ o) (h2 : o + vs.length ≤ 444) : spl (sOpC x) o vs = .int .i64 x.kind :: (blkC x.blk ++ (attC x.att ++ (slgC x.slg ++ (tabC x.tab ++ (spl (vdtC x.vdt) (o - 410) vs ++ (.int .i64 x.write :: [.int .i64 x.keep])))))) := by unfold sOpC; rw [spl_s _ _ _ _ (by omega)]; rw [spl_r _ _ _ _ (by rw [length_blkC]; omega), length_blkC]; rw [spl_r _ _ _ _ (by rw [length_attC]; omega), length_attC]; rw [spl_r _ _ _ _ (by rw [length_slgC]; omega), length_slgC]; rw [spl_r _ _ _ _ (by rw [length_tabC]; omega), length_tabC]; rw [spl_l _ _ _ _ (by rw [length_vdtC]; omega)]; rw [show o - 1 - 238 - 67 - 70 - 34 = o - 410 by omega]
theorem sOpC_cut_write (x : SOp) : cut (sOpC x) 444 1 = [.int .i64 x.write] := by unfold sOpC; rw [cut_s _ _ _ _ (by omega)]; rw [cut_r _ _ _ _ (by rw [length_blkC]; omega), length_blkC]; rw [cut_r _ _ _ _ (by rw [length_attC]; omega), length_attC]; rw [cut_r _ _ _ _ (by rw [length_slgC]; omega), length_slgC]; rw [cut_r _ _ _ _ (by rw [length_tabC]; omega), length_tabC]; rw [cut_r _ _ _ _ (by rw [length_vdtC]; omega), length_vdtC]; simp only [Nat.reduceSub]; all_goals rfl
theorem sOpC_spl_write (x : SOp) (v : Int) : spl (sOpC x) 444 [.int .i64 v] = sOpC { x with write := v } := by unfold sOpC; rw [spl_s _ _ _ _ (by omega)]; rw [spl_r _ _ _ _ (by rw [length_blkC]; omega), length_blkC]; rw [spl_r _ _ _ _ (by rw [length_attC]; omega), length_attC]; rw [spl_r _ _ _ _ (by rw [length_slgC]; omega), length_slgC]; rw [spl_r _ _ _ _ (by rw [length_tabC]; omega), length_tabC]; rw [spl_r _ _ _ _ (by rw [length_vdtC]; omega), length_vdtC]; simp only [Nat.reduceSub]; all_goals rfl
theorem sOpC_cut_keep (x : SOp) : cut (sOpC x) 445 1 = [.int .i64 x.keep] := by unfold sOpC; rw [cut_s _ _ _ _ (by omega)]; rw [cut_r _ _ _ _ (by rw [length_blkC]; omega), length_blkC]; rw [cut_r _ _ _ _ (by rw [length_attC]; omega), length_attC]; rw [cut_r _ _ _ _ (by rw [length_slgC]; omega), length_slgC]; rw [cut_r _ _ _ _ (by rw [length_tabC]; omega), length_tabC]; rw [cut_r _ _ _ _ (by rw [length_vdtC]; omega), length_vdtC]; rw [cut_s _ _ _ _ (by omega)]; simp only [Nat.reduceSub]; all_goals rfl
theorem sOpC_spl_keep (x : SOp) (v : Int) : spl (sOpC x) 445 [.int .i64 v] = sOpC { x with keep := v } := by unfold sOpC; rw [spl_s _ _ _ _ (by omega)]; rw [spl_r _ _ _ _ (by rw [length_blkC]; omega), length_blkC]; rw [spl_r _ _ _ _ (by rw [length_attC]; omega), length_attC]; rw [spl_r _ _ _ _ (by rw [length_slgC]; omega), length_slgC]; rw [spl_r _ _ _ _ (by rw [length_tabC]; omega), length_tabC]; rw [spl_r _ _ _ _ (by rw [length_vdtC]; omega), length_vdtC]; rw [spl_s _ _ _ _ (by omega)]; simp only [Nat.reduceSub]; all_goals rfl
def SOp.map (g : AV → AV) (x : SOp) : SOp := { x with att := x.att.map g, slg := x.slg.map g, tab := x.tab.map g }
theorem SOp.map_mk (g : AV → AV) (kind : Int) (blk : Blk) (att : Att) (slg : Slg) (tab : Tab) (vdt : Vdt) (write : Int) (keep : Int) : SOp.map g ⟨kind, blk, att, slg, tab, vdt, write, keep⟩ = ⟨kind, blk, att.map g, slg.map g, tab.map g, vdt, write, keep⟩ := rfl
def SOp.good (x : SOp) : Bool := x.att.good && x.slg.good && x.tab.good
theorem SOp.good_mk (kind : Int) (blk : Blk) (att : Att) (slg : Slg) (tab : Tab) (vdt : Vdt) (write : Int) (keep : Int) : SOp.good ⟨kind, blk, att, slg, tab, vdt, write, keep⟩ = (att.good && slg.good && tab.good) := rfl
def SOp.Pure (x : SOp) : Prop := x.att.Pure ∧ x.slg.Pure ∧ x.tab.Pure
theorem allCells_sOpC (x : SOp) : allCells (sOpC x) = x.good := by simp [sOpC, SOp.good, Bool.and_assoc, allCells_cons, allCells_app, allCells_nil, AV.cell, allCells_attC, allCells_blkC, allCells_slgC, allCells_tabC, allCells_vdtC]
theorem PuL_sOpC (x : SOp) : PuL (sOpC x) ↔ x.Pure := by simp [sOpC, SOp.Pure, PuL_app, PuL, Pu, PuL_attC, PuL_blkC, PuL_slgC, PuL_tabC, PuL_vdtC]
theorem renL_sOpC (ρ : Nat → Nat) (x : SOp) : renL ρ (sOpC x) = sOpC (x.map (ren ρ)) := by simp only [sOpC, SOp.map, renL_app, renL, ren, renL_attC, renL_blkC, renL_slgC, renL_tabC, renL_vdtC]
theorem fzL_sOpC (σ : St) (zs : List Nat) (x : SOp) : fzL σ zs (sOpC x) = sOpC (x.map (fz σ zs)) := by simp only [sOpC, SOp.map, fzL_app, fzL, fz, fzL_attC, fzL_blkC, fzL_slgC, fzL_tabC, fzL_vdtC]
def sOp0 : SOp := ⟨0, blk0, att0, slg0, tab0, vdt0, 0, 0⟩
end Go.FH
