/-
  My texts En, Eo, Ep, Eq, joined.
-/
import Derived.Test.YtdkahoohedljhaaMe
import Derived.Test.YtdkahoohedljhaaMi
import Derived.Test.YtdkahoohedljhaaMf
namespace Go.Proofs.Ytdkahoohedljhaa
open Go Go.FH Go.RowKit
set_option linter.unusedVariables false
set_option linter.unusedSimpArgs false

theorem rBool_suf (b : List UInt8) (e : Int) : (rBool b e).2.1 <:+ b := by
  unfold rBool
  split
  · exact List.suffix_refl _
  · split
    · exact List.suffix_refl _
    · split
      · exact List.suffix_refl _
      · exact List.suffix_cons _ _
theorem rWide_suf (b : List UInt8) (e : Int) : (rWide b e).2.1 <:+ b := rRoot_suf b e
theorem rCp_suf (b : List UInt8) (e : Int) : (rCp b e).2.1 <:+ b := by
  unfold rCp
  split
  · exact List.suffix_refl _
  · exact (rRoot_suf _ _).trans (rUint_suf _ _ _)
theorem rLst_suf : ∀ (n : Nat) (last : Int) (acc : List Int) (bs : List UInt8) (e : Int), (rLst n last acc bs e).2.1 <:+ bs
  | 0, _, _, bs, _ => List.suffix_refl _
  | n + 1, last, acc, bs, e => by
    rw [rLst]
    split
    · exact List.suffix_refl _
    · exact (rLst_suf _ _ _ _ _).trans (rUint_suf bs e 1024)
theorem rList_suf (b : List UInt8) (e : Int) : (rList b e).2.1 <:+ b := (rLst_suf _ _ _ _ _).trans (rUint_suf _ _ _)
theorem rNums_suf : ∀ (n : Nat) (acc : List Int) (bs : List UInt8) (e : Int), (rNums n acc bs e).2.1 <:+ bs
  | 0, _, bs, _ => List.suffix_refl _
  | n + 1, acc, bs, e => by
    rw [rNums]
    split
    · exact List.suffix_refl _
    · exact (rNums_suf _ _ _ _).trans (rUint_suf bs e maxU)
theorem rClm_suf (b : List UInt8) (e : Int) : (rClm b e).2.1 <:+ b := (rList_suf _ _).trans ((rRoot_suf _ _).trans ((rUint_suf _ _ _).trans (rUint_suf _ _ _)))

end Go.Proofs.Ytdkahoohedljhaa

namespace Go.Proofs.Ytdkahoohedljhaa
open Go Go.FH Go.RowKit
set_option linter.unusedVariables false
set_option linter.unusedSimpArgs false

theorem clmL_U (x : Cv) (h1 : U64 x.1) (h2 : U64 x.2.1) (h3 : x.2.2.2.length ≤ 140737488355328) : ClmU (clmL x) x.2.2.2 false := ⟨h1, h2, rfl, h3⟩
theorem rUint_U (b : List UInt8) (e : Int) : U64 (rUint b e maxU).1 := ⟨rUint_nonneg b e maxU, Int.lt_of_le_of_lt (rUint_le b e maxU (by decide)) (by decide)⟩
theorem rClm_U (b : List UInt8) (e : Int) : ClmU (clmL (rClm b e).1) (rClm b e).1.2.2.2 false :=
  clmL_U _ (rUint_U _ _) (rUint_U _ _) (Nat.le_trans (rClm_cnt b e) (by decide))

end Go.Proofs.Ytdkahoohedljhaa

namespace Go.Proofs.Ytdkahoohedljhaa
open Go Go.FH Go.RowKit
set_option linter.unusedVariables false
set_option linter.unusedSimpArgs false

theorem tabL_map (x : Tv) (ρ : Nat → Nat) : (tabL x).map (ren ρ) = tabL x := by simp only [tabL, Tab.map, ren, renLL_nums]
theorem tabL_fz (x : Tv) (σ : St) (zs : List Nat) : (tabL x).map (fz σ zs) = tabL x := by simp only [tabL, Tab.map, fz, fzLL_nums]
theorem tabL_good (x : Tv) : (tabL x).good = true := rfl
attribute [go_sem] tabL_map tabL_fz tabL_good

end Go.Proofs.Ytdkahoohedljhaa

namespace Go.Proofs.Ytdkahoohedljhaa
open Go Go.FH Go.RowKit
set_option linter.unusedVariables false
set_option linter.unusedSimpArgs false

theorem selAV_t (x : Bool) : selAV true (.bool x) (.tup []) = .bool x := rfl
theorem selAV_f (y : Bool) : selAV false (.tup []) (.bool y) = .bool y := rfl
attribute [go_sem] selAV_t selAV_f
theorem same_int_walk (l m : List Int) (c d : Bool) (hl : l.length ≤ 140737488355328) (hm : m.length ≤ 140737488355328) : PC Try.prog 20 [.sl 1 c (nums .i64 l), .sl 1 d (nums .i64 m)] (.bool (decide (l = m))) := by
  refine PC.fact 6 f_ref4_SameInts (by simp) ⟨Pu_nums _ _, Pu_nums _ _, trivial⟩ trivial ?_
  unfold c_ref4_SameInts
  by_cases hlen : l.length = m.length
  · have h0 : ((l.length : Int) != (m.length : Int)) = false := by rw [hlen]; exact bne_self_eq_false _
    try refine go_on ?_
    refine tri_condF ?_ (by (try simp only [go_sem, h0]); try exact evd)
    try refine go_on ?_
    refine tri_loopF (fun i : Nat => ⟨6, [.sl 1 c (nums .i64 l), .sl 1 d (nums .i64 m), .dead, .dead, .bool false, .int .i64 i], []⟩) (fun _ => []) (fun i => l.length - i) (fun i => i ≤ l.length ∧ l.take i = m.take i) [] 0 ⟨by omega, rfl⟩ evd rfl ?_
    rintro i ⟨hi, hv⟩
    try dsimp only
    try refine go_on ?_
    refine tri_cond evd (fun h => ?_) (fun h => ?_)
    · have h1 : i < l.length := by simpa using h
      have h2 : i < m.length := by omega
      have hw := wrap_i64_succ h1 (by omega)
      have g1 := gd_nums (k := .i64) h1
      have g2 := gd_nums (k := .i64) h2
      by_cases he : l.getD i 0 = m.getD i 0
      · rw [he] at g1
        repeat (first | refine go_on ?_ | simp only [go_sem, g1, g2])
        refine tri_condF ?_
        repeat (first | refine go_on ?_ | simp only [go_sem, hw])
        refine ⟨i + 1, ⟨h1, ?_⟩, by omega, rfl⟩
        rw [List.take_add_one, List.take_add_one, hv, List.getElem?_eq_getElem h1, List.getElem?_eq_getElem h2]
        rw [List.getD_eq_getElem?_getD, List.getD_eq_getElem?_getD, List.getElem?_eq_getElem h1, List.getElem?_eq_getElem h2] at he
        simp only [Option.getD_some] at he
        rw [he]
      · have he' : (l.getD i 0 != m.getD i 0) = true := by simpa using he
        have hne : decide (l = m) = false := by rw [decide_eq_false_iff_not]; intro hh; rw [hh] at he; exact he rfl
        rw [hne]
        repeat (first | refine go_on ?_ | simp only [go_sem, g1, g2])
        refine tri_condT ?_ (by (try simp only [go_sem, he']); try exact evd)
        try refine go_on ?_
        refine ⟨_, (by first | rfl | exact evd), .inl ?_⟩; (try simp only [go_sem, Nat.reduceAdd, Nat.reduceSub, Nat.reduceMul, Nat.reduceLT, Nat.reduceLeDiff, Nat.reduceEqDiff, reduceIte, Int.reduceToNat, Int.reduceLT, Int.reduceLE, Int.reduceEq, Int.reduceNeg, reduceCtorEq, Int.reduceBEq, Int.reduceBNe])
    · have h1 : i = l.length := by simp at h; omega
      subst h1
      have he : l = m := by
        rw [List.take_length, hlen, List.take_length] at hv
        exact hv
      subst he
      rw [decide_eq_true rfl]
      try refine go_on ?_
      refine ⟨_, (by first | rfl | exact evd), .inl ?_⟩; (try simp only [go_sem, Nat.reduceAdd, Nat.reduceSub, Nat.reduceMul, Nat.reduceLT, Nat.reduceLeDiff, Nat.reduceEqDiff, reduceIte, Int.reduceToNat, Int.reduceLT, Int.reduceLE, Int.reduceEq, Int.reduceNeg, reduceCtorEq, Int.reduceBEq, Int.reduceBNe])
  · have h0 : ((l.length : Int) != (m.length : Int)) = true := by simp; omega
    have hne : decide (l = m) = false := by rw [decide_eq_false_iff_not]; intro hh; rw [hh] at hlen; exact hlen rfl
    rw [hne]
    try refine go_on ?_
    refine tri_condT ?_ (by (try simp only [go_sem, h0]); try exact evd)
    try refine go_on ?_
    refine ⟨_, (by first | rfl | exact evd), .inl ?_⟩; (try simp only [go_sem, Nat.reduceAdd, Nat.reduceSub, Nat.reduceMul, Nat.reduceLT, Nat.reduceLeDiff, Nat.reduceEqDiff, reduceIte, Int.reduceToNat, Int.reduceLT, Int.reduceLE, Int.reduceEq, Int.reduceNeg, reduceCtorEq, Int.reduceBEq, Int.reduceBNe])
theorem vErr349 : vErr [3, 4, 9] 1024 = 0 := by
  unfold vErr
  rw [if_neg (by simp), vFrom_step (by simp), if_neg (by simp), if_neg (by simp), vFrom_step (by simp), if_neg (by simp), if_neg (by simp), vFrom_step (by simp), if_neg (by simp), if_neg (by simp), vFrom_end (by simp)]
def E5 : List UInt8 := [7] ++ List.replicate 32 0 ++ ([0] ++ List.replicate 32 0) ++ [3, 3, 0, 4]
theorem aenc5 (v : AV) : aenc ⟨7, rt0, cp0, v⟩ [3, 4, 9] = E5 := by
  have e1 : lenc [3, 4, 9] = [3, 3, 0, 4] := by
    unfold lenc
    rw [lFrom_step (by simp), lFrom_step (by simp), lFrom_step (by simp), lFrom_end (by simp)]
    simp [dstep, uenc_small]
  rw [aenc, e1, cenc]
  simp only [cp0, Int.toNat_zero, show (7 : Int).toNat = 7 from rfl]
  rw [uenc_small (by decide), uenc_small (by decide)]
  rfl
theorem rAtt5 : rAtt E5 0 = ((7, rt0, cp0, [3, 4, 9]), [], 0) := by decide +kernel
theorem decA5 : decA E5.length (rAtt E5 0) = ((7, rt0, cp0, [3, 4, 9]), 70, 0) := by
  rw [rAtt5]
  simp only [decA, ne_eq, not_true_eq_false, if_false, vErr349, if_true]
  rfl
end Go.Proofs.Ytdkahoohedljhaa
