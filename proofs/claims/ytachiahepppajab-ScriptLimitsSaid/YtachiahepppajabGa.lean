/-
  Operations: their values, what is unused.
-/
import Derived.Test.YtachiahepppajabFd
import Derived.Test.YtachiahepppajabMl
namespace Go.Proofs.Ytachiahepppajab
open Go Go.FH Go.RowKit
set_option linter.unusedVariables false
set_option linter.unusedSimpArgs false

/-- What an operation holds. -/
structure OpV where
  kind : Int
  blk : Blk
  att : Int × Rt × Cp × List Int
  slg : Sv
  tab : Tv
  vdt : Vdt
  write : Int
  keep : Int
def opL (x : OpV) : SOp := ⟨x.kind, x.blk, attL x.att, slgL x.slg, tabL x.tab, x.vdt, x.write, x.keep⟩
def opZ : OpV := ⟨0, blk0, attZ, slgZ, tabZ, vdt0, 0, 0⟩
theorem opL_kind (x : OpV) : (opL x).kind = x.kind := rfl
theorem opL_blk (x : OpV) : (opL x).blk = x.blk := rfl
theorem opL_att (x : OpV) : (opL x).att = attL x.att := rfl
theorem opL_slg (x : OpV) : (opL x).slg = slgL x.slg := rfl
theorem opL_tab (x : OpV) : (opL x).tab = tabL x.tab := rfl
theorem opL_vdt (x : OpV) : (opL x).vdt = x.vdt := rfl
theorem opL_write (x : OpV) : (opL x).write = x.write := rfl
theorem opL_keep (x : OpV) : (opL x).keep = x.keep := rfl
theorem opL_good (x : OpV) : (opL x).good = true := rfl
theorem opL_pu (x : OpV) : (opL x).Pure := ⟨Pu_nums _ _, ⟨clmL_pu _, clmL_pu _⟩, Pu_nums _ _⟩
theorem PuL_opL (x : OpV) : PuL (sOpC (opL x)) := (PuL_sOpC _).2 (opL_pu x)
theorem opL_map (x : OpV) (ρ : Nat → Nat) : (opL x).map (ren ρ) = opL x := by simp only [opL, SOp.map, attL_map, slgL_map, tabL_map]
theorem opL_fz (x : OpV) (σ : St) (zs : List Nat) : (opL x).map (fz σ zs) = opL x := by simp only [opL, SOp.map, attL_fz, slgL_fz, tabL_fz]
theorem slgL_fst (x : Sv) : (slgL x).fst = clmL x.1 := rfl
theorem slgL_snd (x : Sv) : (slgL x).snd = clmL x.2 := rfl
theorem attL_vals (x : Int × Rt × Cp × List Int) : (attL x).vals = .sl 1 false (nums .i64 x.2.2.2) := rfl
theorem tabL_bals (x : Tv) : (tabL x).bals = .sl 1 false (nums .u64 x.2) := rfl
theorem tabL_cp (x : Tv) : (tabL x).cp = x.1 := rfl
attribute [go_sem] opL_kind opL_blk opL_att opL_slg opL_tab opL_vdt opL_write opL_keep opL_good opL_map opL_fz slgL_fst slgL_snd attL_vals tabL_bals tabL_cp

theorem sector_walk (n : Int) : PC Try.prog 18 [.int .i64 n] (.bool (decide (0 ≤ n ∧ n ≤ 32768))) := by
  refine PC.fact 5 f_script_sector (by simp) ⟨trivial, trivial⟩ trivial ?_
  unfold c_script_sector
  by_cases h : 0 ≤ n
  · have e : decide (0 ≤ n) = true := by simpa using h
    repeat (first | refine go_on ?_ | simp only [go_sem, e])
    refine ⟨_, (by first | rfl | exact evd), .inl ?_⟩; (try simp only [go_sem, Nat.reduceAdd, Nat.reduceSub, Nat.reduceMul, Nat.reduceLT, Nat.reduceLeDiff, Nat.reduceEqDiff, reduceIte, Int.reduceToNat, Int.reduceLT, Int.reduceLE, Int.reduceEq, Int.reduceNeg, reduceCtorEq, Int.reduceBEq, Int.reduceBNe])
    try simp [h]
  · have e : decide (0 ≤ n) = false := by simpa using h
    repeat (first | refine go_on ?_ | simp only [go_sem, e])
    refine ⟨_, (by first | rfl | exact evd), .inl ?_⟩; (try simp only [go_sem, Nat.reduceAdd, Nat.reduceSub, Nat.reduceMul, Nat.reduceLT, Nat.reduceLeDiff, Nat.reduceEqDiff, reduceIte, Int.reduceToNat, Int.reduceLT, Int.reduceLE, Int.reduceEq, Int.reduceNeg, reduceCtorEq, Int.reduceBEq, Int.reduceBNe])
    try simp [h]

theorem len0 {α : Type} (l : List α) : ((l.length : Int) == 0) = decide (l = []) := by cases l <;> simp <;> omega

theorem noatt_walk (a : Int × Rt × Cp × List Int) : PC Try.prog 22 [.agg (attC (attL a))] (.bool (decide (a = attZ))) := by
  refine PC.fact 5 f_script_noAttestation (by simp) ⟨Pu_attL a, trivial⟩ trivial ?_
  unfold c_script_noAttestation
  obtain ⟨s, r, c, l⟩ := a
  have e4 := len0 l
  by_cases h1 : s = 0
  · subst h1
    by_cases h2 : r = rt0
    · have e2 : decide (r = rt0) = true := by simpa using h2
      by_cases h3 : c = ⟨0, rt0⟩
      · have e3 : decide (c = ⟨0, rt0⟩) = true := by simpa using h3
        repeat (first | refine go_on ?_ | simp only [go_sem, e2, e3, e4, attL])
        refine ⟨_, (by first | rfl | exact evd), .inl ?_⟩; (try simp only [go_sem, Nat.reduceAdd, Nat.reduceSub, Nat.reduceMul, Nat.reduceLT, Nat.reduceLeDiff, Nat.reduceEqDiff, reduceIte, Int.reduceToNat, Int.reduceLT, Int.reduceLE, Int.reduceEq, Int.reduceNeg, reduceCtorEq, Int.reduceBEq, Int.reduceBNe])
        simp [attZ, cp0, h2, h3]
      · have e3 : decide (c = ⟨0, rt0⟩) = false := by simpa using h3
        repeat (first | refine go_on ?_ | simp only [go_sem, e2, e3, e4, attL])
        refine ⟨_, (by first | rfl | exact evd), .inl ?_⟩; (try simp only [go_sem, Nat.reduceAdd, Nat.reduceSub, Nat.reduceMul, Nat.reduceLT, Nat.reduceLeDiff, Nat.reduceEqDiff, reduceIte, Int.reduceToNat, Int.reduceLT, Int.reduceLE, Int.reduceEq, Int.reduceNeg, reduceCtorEq, Int.reduceBEq, Int.reduceBNe])
        simp [attZ, cp0, h2, h3]
    · have e2 : decide (r = rt0) = false := by simpa using h2
      repeat (first | refine go_on ?_ | simp only [go_sem, e2, e4, attL])
      refine ⟨_, (by first | rfl | exact evd), .inl ?_⟩; (try simp only [go_sem, Nat.reduceAdd, Nat.reduceSub, Nat.reduceMul, Nat.reduceLT, Nat.reduceLeDiff, Nat.reduceEqDiff, reduceIte, Int.reduceToNat, Int.reduceLT, Int.reduceLE, Int.reduceEq, Int.reduceNeg, reduceCtorEq, Int.reduceBEq, Int.reduceBNe])
      simp [attZ, h2]
  · have e1 : (s == 0) = false := by simpa using h1
    repeat (first | refine go_on ?_ | simp only [go_sem, e1, e4, attL])
    refine ⟨_, (by first | rfl | exact evd), .inl ?_⟩; (try simp only [go_sem, Nat.reduceAdd, Nat.reduceSub, Nat.reduceMul, Nat.reduceLT, Nat.reduceLeDiff, Nat.reduceEqDiff, reduceIte, Int.reduceToNat, Int.reduceLT, Int.reduceLE, Int.reduceEq, Int.reduceNeg, reduceCtorEq, Int.reduceBEq, Int.reduceBNe])
    simp [attZ, h1]

theorem noclm_walk (a : Cv) : PC Try.prog 23 [.agg (clmC (clmL a))] (.bool (decide (a = clmZ))) := by
  refine PC.fact 5 f_script_noClaim (by simp) ⟨(PuL_clmC _).2 (clmL_pu a), trivial⟩ trivial ?_
  unfold c_script_noClaim
  obtain ⟨s, t, r, l⟩ := a
  have e4 := len0 l
  by_cases h1 : s = 0
  · subst h1
    by_cases h2 : t = 0
    · subst h2
      by_cases h3 : r = rt0
      · have e3 : decide (r = rt0) = true := by simpa using h3
        repeat (first | refine go_on ?_ | simp only [go_sem, e3, e4, clmL])
        refine ⟨_, (by first | rfl | exact evd), .inl ?_⟩; (try simp only [go_sem, Nat.reduceAdd, Nat.reduceSub, Nat.reduceMul, Nat.reduceLT, Nat.reduceLeDiff, Nat.reduceEqDiff, reduceIte, Int.reduceToNat, Int.reduceLT, Int.reduceLE, Int.reduceEq, Int.reduceNeg, reduceCtorEq, Int.reduceBEq, Int.reduceBNe])
        simp [clmZ, h3]
      · have e3 : decide (r = rt0) = false := by simpa using h3
        repeat (first | refine go_on ?_ | simp only [go_sem, e3, e4, clmL])
        refine ⟨_, (by first | rfl | exact evd), .inl ?_⟩; (try simp only [go_sem, Nat.reduceAdd, Nat.reduceSub, Nat.reduceMul, Nat.reduceLT, Nat.reduceLeDiff, Nat.reduceEqDiff, reduceIte, Int.reduceToNat, Int.reduceLT, Int.reduceLE, Int.reduceEq, Int.reduceNeg, reduceCtorEq, Int.reduceBEq, Int.reduceBNe])
        simp [clmZ, h3]
    · have e2 : (t == 0) = false := by simpa using h2
      repeat (first | refine go_on ?_ | simp only [go_sem, e2, e4, clmL])
      refine ⟨_, (by first | rfl | exact evd), .inl ?_⟩; (try simp only [go_sem, Nat.reduceAdd, Nat.reduceSub, Nat.reduceMul, Nat.reduceLT, Nat.reduceLeDiff, Nat.reduceEqDiff, reduceIte, Int.reduceToNat, Int.reduceLT, Int.reduceLE, Int.reduceEq, Int.reduceNeg, reduceCtorEq, Int.reduceBEq, Int.reduceBNe])
      simp [clmZ, h2]
  · have e1 : (s == 0) = false := by simpa using h1
    repeat (first | refine go_on ?_ | simp only [go_sem, e1, e4, clmL])
    refine ⟨_, (by first | rfl | exact evd), .inl ?_⟩; (try simp only [go_sem, Nat.reduceAdd, Nat.reduceSub, Nat.reduceMul, Nat.reduceLT, Nat.reduceLeDiff, Nat.reduceEqDiff, reduceIte, Int.reduceToNat, Int.reduceLT, Int.reduceLE, Int.reduceEq, Int.reduceNeg, reduceCtorEq, Int.reduceBEq, Int.reduceBNe])
    simp [clmZ, h1]

/-- Pairs of a kind and a truth value. -/
def prs (fs : List (Int × Bool)) : List (List AV) := fs.map fun f => [.int .i64 f.1, .bool f.2]
theorem length_prs (fs : List (Int × Bool)) : (prs fs).length = fs.length := by simp [prs]
theorem getD_prs {fs : List (Int × Bool)} {i : Nat} (h : i < fs.length) : (prs fs).getD i [] = [.int .i64 fs[i].1, .bool fs[i].2] := by
  simp [prs, h]
theorem Pu_prs (fs : List (Int × Bool)) : PuLL (prs fs) := by
  induction fs with
  | nil => trivial
  | cons f fs ih => exact ⟨⟨trivial, trivial, trivial⟩, ih⟩
theorem renLL_prs (ρ : Nat → Nat) (fs : List (Int × Bool)) : renLL ρ (prs fs) = prs fs := (Pu_prs fs).ren ρ
theorem fzLL_prs (σ : St) (zs : List Nat) (fs : List (Int × Bool)) : fzLL σ zs (prs fs) = prs fs := (Pu_prs fs).fz σ zs
attribute [go_sem] length_prs renLL_prs fzLL_prs
def okF (k : Int) (fs : List (Int × Bool)) (i : Nat) : Bool := if h : i < fs.length then ((fs[i].1 == k) || fs[i].2) && okF k fs (i + 1) else true
termination_by fs.length - i
theorem okF_s {k : Int} {fs : List (Int × Bool)} {i : Nat} (h : i < fs.length) : okF k fs i = (((fs[i].1 == k) || fs[i].2) && okF k fs (i + 1)) := by rw [okF, dif_pos h]
theorem okF_end {k : Int} {fs : List (Int × Bool)} {i : Nat} (h : ¬ i < fs.length) : okF k fs i = true := by rw [okF, dif_neg h]
/-- Which fields are zero. -/
def zeros (x : OpV) : List (Int × Bool) :=
  [(2, decide (x.blk = blk0)), (3, decide (x.att = attZ)), (4, decide (x.slg.1 = clmZ) && decide (x.slg.2 = clmZ)), (5, decide (x.tab.1 = cp0) && decide (x.tab.2 = [])), (6, decide (x.vdt = vdt0)), (8, (x.write == 0) && (x.keep == 0))]
def idle (x : OpV) : Bool := okF x.kind (zeros x) 0

end Go.Proofs.Ytachiahepppajab
