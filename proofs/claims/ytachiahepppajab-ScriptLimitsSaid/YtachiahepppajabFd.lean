/-
  The law RecordsDecodes.
-/
import Derived.Test.YtachiahepppajabMj
import Derived.Test.YtachiahepppajabMc
namespace Go.Proofs.Ytachiahepppajab
open Go Go.FH Go.RowKit
set_option linter.unusedVariables false
set_option linter.unusedSimpArgs false

theorem rNums_cnt : ∀ (n : Nat) (acc : List Int) (bs : List UInt8) (e : Int), (rNums n acc bs e).1.length ≤ acc.length + n
  | 0, _, _, _ => Nat.le_refl _
  | n + 1, acc, bs, e => by
    rw [rNums]
    split
    · simp only; omega
    · have := rNums_cnt n (acc ++ [(rUint bs e maxU).1]) (rUint bs e maxU).2.1 (rUint bs e maxU).2.2
      simp only [List.length_append, List.length_cons, List.length_nil] at this
      omega
theorem rTab_cnt (b : List UInt8) (e : Int) : (rTab b e).1.2.length ≤ 1024 := by
  unfold rTab
  simp only
  have h1 := rNums_cnt (rUint (rRoot (rUint b e maxU).2.1 (rUint b e maxU).2.2).2.1 (rRoot (rUint b e maxU).2.1 (rUint b e maxU).2.2).2.2 1024).1.toNat [] (rUint (rRoot (rUint b e maxU).2.1 (rUint b e maxU).2.2).2.1 (rRoot (rUint b e maxU).2.1 (rUint b e maxU).2.2).2.2 1024).2.1 (rUint (rRoot (rUint b e maxU).2.1 (rUint b e maxU).2.2).2.1 (rRoot (rUint b e maxU).2.1 (rUint b e maxU).2.2).2.2 1024).2.2
  have h2 := rUint_le (rRoot (rUint b e maxU).2.1 (rUint b e maxU).2.2).2.1 (rRoot (rUint b e maxU).2.1 (rUint b e maxU).2.2).2.2 1024 (by omega)
  simp only [List.length_nil] at h1
  omega
theorem decA_cnt (b : List UInt8) : (decA b.length (rAtt b 0)).1.2.2.2.length ≤ 1024 := by
  unfold decA
  have h : (rAtt b 0).1.2.2.2.length ≤ 1024 := rList_cnt _ _
  (repeat' split) <;> first | exact h | simp [attZ]
theorem decS_cnt (b : List UInt8) : (decS b.length (rSlg b 0)).1.1.2.2.2.length ≤ 1024 ∧ (decS b.length (rSlg b 0)).1.2.2.2.2.length ≤ 1024 := by
  unfold decS
  have h1 : (rSlg b 0).1.1.2.2.2.length ≤ 1024 := rClm_cnt _ _
  have h2 : (rSlg b 0).1.2.2.2.2.length ≤ 1024 := rClm_cnt _ _
  (repeat' split) <;> first | exact ⟨h1, h2⟩ | simp [slgZ, clmZ]
theorem decT_cnt (b : List UInt8) : (dec tabZ b.length (rTab b 0)).1.2.length ≤ 1024 := by
  unfold dec
  have h := rTab_cnt b 0
  split <;> first | exact h | simp [tabZ]

theorem attL_map (x : Int × Rt × Cp × List Int) (ρ : Nat → Nat) : (attL x).map (ren ρ) = attL x := by simp only [attL, Att.map, ren, renLL_nums]
theorem attL_fz (x : Int × Rt × Cp × List Int) (σ : St) (zs : List Nat) : (attL x).map (fz σ zs) = attL x := by simp only [attL, Att.map, fz, fzLL_nums]
theorem attL_good (x : Int × Rt × Cp × List Int) : (attL x).good = true := rfl
theorem slgL_map (x : Sv) (ρ : Nat → Nat) : (slgL x).map (ren ρ) = slgL x := by simp only [slgL, Slg.map, clmL_map]
theorem slgL_fz (x : Sv) (σ : St) (zs : List Nat) : (slgL x).map (fz σ zs) = slgL x := by simp only [slgL, Slg.map, clmL_fz]
theorem slgL_good (x : Sv) : (slgL x).good = true := rfl
attribute [go_sem] attL_map attL_fz attL_good slgL_map slgL_fz slgL_good

end Go.Proofs.Ytachiahepppajab
