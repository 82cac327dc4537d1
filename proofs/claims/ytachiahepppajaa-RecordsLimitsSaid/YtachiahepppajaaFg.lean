/-
  The law RecordsLimits.
-/
import Derived.Test.YtachiahepppajaaFe
import Derived.Test.YtachiahepppajaaBw
namespace Go.Proofs.Ytachiahepppajaa
open Go Go.FH Go.RowKit
set_option linter.unusedVariables false
set_option linter.unusedSimpArgs false

theorem iand1 (n : Int) : iand .i64 n 1 = 0 ∨ iand .i64 n 1 = 1 := by
  unfold iand
  have h : (BitVec.ofInt IntKind.i64.bits n &&& BitVec.ofInt IntKind.i64.bits 1).toNat ≤ 1 := by
    rw [BitVec.toNat_and]
    exact Nat.le_trans Nat.and_le_right (by decide)
  generalize (BitVec.ofInt IntKind.i64.bits n &&& BitVec.ofInt IntKind.i64.bits 1).toNat = m at *
  rw [wrap_i64_in (by omega) (by omega)]
  omega
/-- The first numbers, as far as they are set. -/
def upto (N i : Nat) : List Int := (List.range N).map fun j => if j < i then (j : Int) else 0
theorem length_upto (N i : Nat) : (upto N i).length = N := by simp [upto]
theorem upto_0 (N : Nat) : List.replicate N [AV.int .i64 0] = nums .i64 (upto N 0) := by
  apply List.ext_getElem
  · simp [length_upto]
  · intro j h1 h2
    simp [nums, upto]
theorem upto_s {N i : Nat} (h : i < N) : (nums .i64 (upto N i)).set i [.int .i64 (i : Int)] = nums .i64 (upto N (i + 1)) := by
  apply List.ext_getElem
  · simp [length_upto]
  · intro j h1 h2
    rw [List.getElem_set]
    simp only [nums, upto, List.getElem_map, List.getElem_range]
    split
    · subst_vars; simp
    · rename_i hne
      by_cases hj : j < i
      · rw [if_pos hj, if_pos (by omega)]
      · rw [if_neg hj, if_neg (by omega)]
theorem getD_upto {N j : Nat} (h : j < N) : (upto N N).getD j 0 = (j : Int) := by
  simp [upto, List.getD_eq_getElem?_getD, h]
theorem vErr_upto {N : Nat} (h0 : 0 < N) : vErr (upto N N) 1024 = if N ≤ 1024 then 0 else 3 := by
  have hne : upto N N ≠ [] := fun h => by have := congrArg List.length h; rw [length_upto] at this; simp at this; omega
  rw [vErr, if_neg hne]
  have key : ∀ k i : Nat, N - i = k → i ≤ N → i ≤ 1024 → vFrom (upto N N) 1024 i = if N ≤ 1024 then 0 else 3 := by
    intro k
    induction k with
    | zero =>
      intro i h1 h2 h3
      rw [vFrom_end (by rw [length_upto]; omega), if_pos (by omega)]
    | succ k ih =>
      intro i h1 h2 h3
      rw [vFrom_step (by rw [length_upto]; omega), getD_upto (by omega)]
      by_cases hi : i = 1024
      · subst hi
        rw [if_pos (by omega), if_neg (by omega)]
      · rw [if_neg (by omega), if_neg, ih (i + 1) (by omega) (by omega) (by omega)]
        rintro ⟨p1, p2⟩
        rw [getD_upto (by omega)] at p2
        omega
  exact key N 0 rfl (by omega) (by omega)
theorem zeros_u64 (N : Nat) : List.replicate N [AV.int .u64 0] = nums .u64 (List.replicate N 0) := by simp [nums, List.map_replicate]

theorem pc_RecordsLimits (n : Int) (hn : (Lit.int .i64 n).wf = true) : PC Try.prog 10 [.int .i64 n] (.bool true) := by
  refine PC.fact 10 f_law5_RecordsLimits (by simp) ⟨trivial, trivial⟩ trivial ?_
  unfold c_law5_RecordsLimits
  obtain ⟨N, hN, h01⟩ : ∃ N : Nat, IntKind.i64.wrap (1024 + iand .i64 n 1) = (N : Int) ∧ ((N = 1024 ∧ iand .i64 n 1 = 0) ∨ (N = 1025 ∧ iand .i64 n 1 = 1)) := by
    rcases iand1 n with h | h
    · exact ⟨1024, by rw [h]; decide, .inl ⟨rfl, h⟩⟩
    · exact ⟨1025, by rw [h]; decide, .inr ⟨rfl, h⟩⟩
  have hN2 : N ≤ 1025 := by omega
  have hN3 : 0 < N := by omega
  have u0 : U64 0 := ⟨by decide, by decide⟩
  have k1 := renc_att ⟨0, rt0, cp0, .sl 1 false (nums .i64 (upto N N))⟩ (upto N N) false rfl (by rw [length_upto]; omega) u0 u0
  have k2 := renc_tab ⟨cp0, .sl 1 false (nums .u64 (List.replicate N 0))⟩ (List.replicate N 0) false ⟨u0, rfl, fun n hn => by rw [List.mem_replicate] at hn; rw [hn.2]; exact u0, by rw [List.length_replicate]; omega⟩
  rw [vErr_upto hN3] at k1
  rw [List.length_replicate] at k2
  generalize (if (if N ≤ 1024 then (0 : Int) else 3) = 0 then aenc ⟨0, rt0, cp0, .sl 1 false (nums .i64 (upto N N))⟩ (upto N N) else []) = R1 at k1
  generalize (if 1024 < N then [] else tenc ⟨cp0, .sl 1 false (nums .u64 (List.replicate N 0))⟩ (List.replicate N 0)) = R2 at k2
  have m1 := ACall.give (σ := [.vec 1 (nums .i64 (upto N N))]) (args := [.agg (attC ⟨0, rt0, cp0, .hs 1 0 0 N⟩)]) (r := _) (by (try simp only [go_sem, List.length_cons, List.length_nil, List.range_succ, List.range_zero, length_upto]); exact k1)
  have m2 := ACall.give (σ := [.vec 1 (nums .u64 (List.replicate N 0))]) (args := [.agg (tabC ⟨cp0, .hs 1 0 0 N⟩)]) (r := _) (by (try simp only [go_sem, List.length_cons, List.length_nil, List.range_succ, List.range_zero, List.length_replicate]); exact k2)
  repeat (first | refine go_on ?_ | simp only [go_sem, hN])
  refine tri_loopF (fun i : Nat => ⟨10, [.int .i64 n, .dead, .bool false, .int .i64 (iand .i64 n 1), .hs 1 0 0 N, .int .i64 i, .dead, .dead, .dead, .dead], []⟩) (fun i => [.vec 1 (nums .i64 (upto N i))]) (fun i => N - i) (fun i => i ≤ N) [] 0 (by omega) evd (by rw [upto_0]) ?_
  intro i hi
  try dsimp only
  try refine go_on ?_
  refine tri_cond evd (fun h => ?_) (fun h => ?_)
  · have h1 : i < N := by simpa using h
    have hw := wrap_i64_succ h1 (by omega)
    have hs : spl ((nums .i64 (upto N i)).getD i []) 0 [.int .i64 (i : Int)] = [.int .i64 (i : Int)] := by rw [gd_nums (by rw [length_upto]; exact h1)]; rfl
    repeat (first | refine go_on ?_ | simp only [go_sem, length_upto, hw, hs, upto_s h1])
    exact ⟨i + 1, h1, by omega, rfl, rfl⟩
  · have h1 : i = N := by simp at h; omega
    subst h1
    try refine go_on ?_
    refine ocall [0] (m1) evd (Picks.mk' (by simp) evd) ?_; refine evg ?_
    repeat (first | refine go_on ?_ | simp only [go_sem, hN, zeros_u64])
    refine ocall [1] (m2) evd (Picks.mk' (by simp) evd) ?_; refine evg ?_
    try refine go_on ?_
    rcases h01 with ⟨rfl, h0⟩ | ⟨rfl, h0⟩
    · refine tri_condT ?_ (by (try simp only [go_sem, h0]); try exact evd)
      try refine go_on ?_
      refine pcall awake5_walk ?_
      try refine go_on ?_
      refine ⟨_, (by first | rfl | exact evd), .inl ?_⟩; (try simp only [go_sem, Nat.reduceAdd, Nat.reduceSub, Nat.reduceMul, Nat.reduceLT, Nat.reduceLeDiff, Nat.reduceEqDiff, reduceIte, Int.reduceToNat, Int.reduceLT, Int.reduceLE, Int.reduceEq, Int.reduceNeg, reduceCtorEq, Int.reduceBEq, Int.reduceBNe])
    · refine tri_condF ?_ (by (try simp only [go_sem, h0]); try exact evd)
      try refine go_on ?_
      refine pcall awake5_walk ?_
      try refine go_on ?_
      refine ⟨_, (by first | rfl | exact evd), .inl ?_⟩; (try simp only [go_sem, Nat.reduceAdd, Nat.reduceSub, Nat.reduceMul, Nat.reduceLT, Nat.reduceLeDiff, Nat.reduceEqDiff, reduceIte, Int.reduceToNat, Int.reduceLT, Int.reduceLE, Int.reduceEq, Int.reduceNeg, reduceCtorEq, Int.reduceBEq, Int.reduceBNe])
end Go.Proofs.Ytachiahepppajaa
