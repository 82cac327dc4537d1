/-
  The law ScriptLimits.
-/
import Derived.Test.YtachiahepppajabGl
import Derived.Test.YtachiahepppajabBw
import Derived.Test.YtachiahepppajabMc
import Derived.Test.YtachiahepppajabKe
namespace Go.Proofs.Ytachiahepppajab
open Go Go.FH Go.RowKit
set_option linter.unusedVariables false
set_option linter.unusedSimpArgs false

theorem iand1' (n : Int) : iand .i64 n 1 = 0 ∨ iand .i64 n 1 = 1 := by
  unfold iand
  have h : (BitVec.ofInt IntKind.i64.bits n &&& BitVec.ofInt IntKind.i64.bits 1).toNat ≤ 1 := by
    rw [BitVec.toNat_and]
    exact Nat.le_trans Nat.and_le_right (by decide)
  generalize (BitVec.ofInt IntKind.i64.bits n &&& BitVec.ofInt IntKind.i64.bits 1).toNat = m at *
  rw [wrap_i64_in (by omega) (by omega)]
  omega
/-- Ticks, as far as they are set. -/
def mixo (N i : Nat) : List (List AV) := (List.range N).map fun j => if j < i then sOpC ⟨1, blk0, att0, slg0, tab0, vdt0, 0, 0⟩ else sOpC sOp0
def mixb (N i : Nat) : List UInt8 := (List.range N).map fun j => if j < i then 1 else 0
theorem length_mixo (N i : Nat) : (mixo N i).length = N := by simp [mixo]
theorem length_mixb (N i : Nat) : (mixb N i).length = N := by simp [mixb]
theorem mixo_0 (N : Nat) : List.replicate N (sOpC sOp0) = mixo N 0 := by
  apply List.ext_getElem
  · simp [length_mixo]
  · intro j h1 h2
    simp [mixo]
theorem mixb_0 (N : Nat) : List.replicate N [AV.int .u8 0] = bts (mixb N 0) := by
  apply List.ext_getElem
  · simp [length_mixb]
  · intro j h1 h2
    simp [bts, mixb]
theorem mixo_get {N i : Nat} (h : i < N) : (mixo N i).getD i [] = sOpC sOp0 := by simp [mixo, List.getD_eq_getElem?_getD, h]
theorem mixo_s {N i : Nat} (h : i < N) : (mixo N i).set i (sOpC ⟨1, blk0, att0, slg0, tab0, vdt0, 0, 0⟩) = mixo N (i + 1) := by
  apply List.ext_getElem
  · simp [length_mixo]
  · intro j h1 h2
    rw [List.getElem_set]
    simp only [mixo, List.getElem_map, List.getElem_range]
    split
    · subst_vars; simp
    · rename_i hne
      by_cases hj : j < i
      · rw [if_pos hj, if_pos (by omega)]
      · rw [if_neg hj, if_neg (by omega)]
theorem mixb_s {N i : Nat} (h : i < N) : (bts (mixb N i)).set i [.int .u8 1] = bts (mixb N (i + 1)) := by
  apply List.ext_getElem
  · simp [length_mixb]
  · intro j h1 h2
    rw [List.getElem_set]
    simp only [bts, mixb, List.getElem_map, List.getElem_range]
    split
    · subst_vars; simp
    · rename_i hne
      by_cases hj : j < i
      · rw [if_pos hj, if_pos (by omega)]
      · rw [if_neg hj, if_neg (by omega)]
theorem mixb_all (N : Nat) : mixb N N = List.replicate N 1 := by
  apply List.ext_getElem
  · simp [length_mixb]
  · intro j h1 h2
    rw [length_mixb] at h1
    simp [mixb, h1]
theorem wke_rep {x y : List AV} (h : WkC x y) : ∀ n : Nat, WkE (List.replicate n x) (List.replicate n y)
  | 0 => trivial
  | n + 1 => ⟨h, wke_rep h n⟩
theorem mixo_all (N : Nat) : mixo N N = List.replicate N (sOpC ⟨1, blk0, att0, slg0, tab0, vdt0, 0, 0⟩) := by
  apply List.ext_getElem
  · simp [length_mixo]
  · intro j h1 h2
    rw [length_mixo] at h1
    simp [mixo, h1]
theorem PuLL_rep {x : List AV} (h : PuL x) : ∀ n : Nat, PuLL (List.replicate n x)
  | 0 => trivial
  | n + 1 => ⟨h, PuLL_rep h n⟩
theorem mixo_wk (N : Nat) : Wk (.sl 446 false (mixo N N)) (.sl 446 false (ops (List.replicate N t1))) := by
  have : ops (List.replicate N t1) = List.replicate N (sOpC (opL t1)) := by simp [ops]
  rw [mixo_all, this]
  have h : WkC (sOpC ⟨1, blk0, att0, slg0, tab0, vdt0, 0, 0⟩) (sOpC (opL t1)) := wkc_op rfl rfl wkc_att0 wkc_slg0 wkc_tab0 rfl rfl rfl
  exact Wk.sl (wke_rep h N)
theorem mixo_pu (N : Nat) : PuL [.sl 446 false (mixo N N)] := by
  rw [mixo_all]
  have h : PuL (sOpC ⟨1, blk0, att0, slg0, tab0, vdt0, 0, 0⟩) := (PuL_sOpC _).2 ⟨trivial, ⟨trivial, trivial⟩, trivial⟩
  exact ⟨PuLL_rep h N, trivial⟩
theorem fzLL_mixo (σ : St) (zs : List Nat) (N : Nat) : fzLL σ zs (mixo N N) = mixo N N := PuLL.fz σ zs (mixo_pu N).1
theorem renLL_mixo (ρ : Nat → Nat) (N : Nat) : renLL ρ (mixo N N) = mixo N N := PuLL.ren ρ (mixo_pu N).1
theorem take_mixb (N : Nat) : List.take N (mixb N N) = mixb N N := List.take_of_length_le (by rw [length_mixb]; exact Nat.le_refl _)
attribute [go_sem] renLL_mixo fzLL_mixo length_mixb length_mixo take_mixb
theorem eFrom_rep : ∀ n : Nat, eFrom (List.replicate n t1) = (List.replicate n 1, 0)
  | 0 => rfl
  | n + 1 => by
    rw [List.replicate_succ, eFrom, if_neg (by rw [vOp_t1]; simp), eFrom_rep n, oenc_t1]
    rfl
theorem rOp_one (b : List UInt8) : rOp (1 :: b) = (t1, b, 0) := by
  refine rOp_t1 b ?_
  have h := (rUint_back (n := 1) (m := 8) (by omega) (by omega)).full b
  simpa [uenc_small] using h
theorem dFrom_rep : ∀ (m : Nat) (l : List OpV), l.length ≤ 4096 → (dFrom l (List.replicate m 1)).1 = l ++ List.replicate (min m (4096 - l.length)) t1 ∧ (dFrom l (List.replicate m 1)).2.1.length = m - (4096 - l.length) ∧ (dFrom l (List.replicate m 1)).2.2 = if l.length + m ≤ 4096 then 0 else 11
  | 0, l, hl => by
    rw [List.replicate_zero, dFrom, if_pos rfl]
    simp [hl]
  | m + 1, l, hl => by
    rw [dFrom, if_neg (by simp)]
    by_cases h : 4096 ≤ l.length
    · rw [if_pos h]
      have : l.length = 4096 := by omega
      simp [this]
    · rw [if_neg h, List.replicate_succ, rOp_one, if_neg (by simp)]
      have ih := dFrom_rep m (l ++ [t1]) (by simp only [List.length_append, List.length_cons, List.length_nil]; omega)
      have hl1 : (l ++ [t1]).length = l.length + 1 := by simp
      rw [hl1] at ih
      refine ⟨?_, ?_, ?_⟩
      · rw [ih.1, show min (m + 1) (4096 - l.length) = min m (4096 - (l.length + 1)) + 1 by omega, List.replicate_succ]
        simp
      · rw [ih.2.1]; omega
      · rw [ih.2.2, show l.length + 1 + m = l.length + (m + 1) by omega]
theorem enc_rep (N : Nat) (h : N ≤ 4097) : encOps (List.replicate N t1) = if 4096 < N then ([], 11) else (List.replicate N 1, 0) := by
  rw [encOps, eFrom_rep, List.length_replicate]
  split
  · rfl
  · rw [if_neg (by simp), if_neg (by simp only [List.length_replicate]; omega)]
theorem dAll_rep (N : Nat) (h : N ≤ 4097) (h0 : 4096 ≤ N) : dAll (List.replicate N 1) = (List.replicate 4096 t1, 4096, if N ≤ 4096 then 0 else 11) := by
  have k := dFrom_rep N [] (by simp)
  rw [dAll, if_neg (by rw [List.length_replicate]; omega)]
  obtain ⟨k1, k2, k3⟩ := k
  rw [k1, k2, k3]
  simp only [List.length_nil, List.length_replicate, Nat.sub_zero, List.nil_append, Nat.zero_add]
  rw [show min N 4096 = 4096 by omega, show N - (N - 4096) = 4096 by omega]
  rfl

set_option maxRecDepth 100000 in
set_option maxHeartbeats 4000000 in
theorem pc_ScriptLimits (n : Int) (hn : (Lit.int .i64 n).wf = true) : PC Try.prog 3 [.int .i64 n] (.bool true) := by
  refine PC.fact 13 f_law6_ScriptLimits (by simp) ⟨trivial, trivial⟩ trivial ?_
  unfold c_law6_ScriptLimits
  obtain ⟨N, hN, h01⟩ : ∃ N : Nat, IntKind.i64.wrap (4096 + iand .i64 n 1) = (N : Int) ∧ ((N = 4096 ∧ iand .i64 n 1 = 0) ∨ (N = 4097 ∧ iand .i64 n 1 = 1)) := by
    rcases iand1' n with h | h
    · exact ⟨4096, by rw [h]; decide, .inl ⟨rfl, h⟩⟩
    · exact ⟨4097, by rw [h]; decide, .inr ⟨rfl, h⟩⟩
  have hN2 : N ≤ 4097 := by omega
  have hN3 : 4096 ≤ N := by omega
  have k1 := renc_ops (List.replicate N t1) (fun x hx => by rw [(List.mem_replicate.1 hx).2]; exact OpU_Z _ _ _) (by rw [List.length_replicate]; omega)
  have k2 := rdec_ops (mixb N N) (by rw [length_mixb]; omega)
  have k3 := rpre_ops (mixb N N) (by rw [length_mixb]; omega)
  have k4 : PC Try.prog 4 [.sl 446 false (mixo N N)] _ := ⟨k1.call.wk ⟨mixo_wk N, trivial⟩, mixo_pu N, k1.pr⟩
  rw [enc_rep N hN2] at k4
  rw [show decO (mixb N N) = if N ≤ 4096 then (List.replicate 4096 t1, 0) else ([], 11) by rw [decO, mixb_all, dAll_rep N hN2 hN3]; by_cases h : N ≤ 4096 <;> simp [h]] at k2
  rw [show dAll (mixb N N) = (List.replicate 4096 t1, 4096, if N ≤ 4096 then 0 else 11) by rw [mixb_all]; exact dAll_rep N hN2 hN3] at k3
  have hb := mixb_all N
  obtain ⟨L, hL, hLl⟩ : ∃ L : List OpV, List.replicate 4096 t1 = L ∧ L.length = 4096 := ⟨_, rfl, List.length_replicate⟩
  rw [hL] at k2 k3
  clear hL
  have z0 := mixo_0 N
  have zb := mixb_0 N
  simp only [sOp0, blk0, pul0, cp0, att0, slg0, clm0, tab0, vdt0] at z0
  have m1 := ACall.give (σ := [.vec 446 (mixo N N)]) (args := [.hs 446 0 0 N]) (r := _) (by (try simp only [go_sem, List.length_cons, List.length_nil, List.range_succ, List.range_zero, length_mixo]); exact k4)
  repeat (first | refine go_on ?_ | simp only [go_sem, hN, z0, zb])
  refine tri_loopF (fun i : Nat => ⟨13, [.int .i64 n, .dead, .bool false, .int .i64 (iand .i64 n 1), .hs 446 0 0 N, .hs 1 1 0 N, .int .i64 i, .dead, .dead, .dead, .dead, .dead, .dead], []⟩) (fun i => [.vec 446 (mixo N i), .vec 1 (bts (mixb N i))]) (fun i => N - i) (fun i => i ≤ N) [] 0 (by omega) evd rfl ?_
  intro i hi
  try dsimp only
  try refine go_on ?_
  refine tri_cond evd (fun h => ?_) (fun h => ?_)
  · have h1 : i < N := by simpa using h
    have hw := wrap_i64_succ h1 (by omega)
    have hg := mixo_get h1
    have hs := mixo_s h1
    have hb1 := mixb_s h1
    simp only [sOp0, blk0, pul0, cp0, att0, slg0, clm0, tab0, vdt0] at hg hs
    have hlo := length_mixo N i
    have hlb := length_mixb N i
    have hgb : spl ((bts (mixb N i)).getD i []) 0 [.int .u8 1] = [.int .u8 1] := by
      have : (bts (mixb N i)).getD i [] = [.int .u8 ((mixb N i)[i]'(by rw [hlb]; exact h1)).toNat] := by simp [bts, hlb, h1, List.getD_eq_getElem?_getD]
      rw [this]; rfl
    repeat (first | refine go_on ?_ | simp only [go_sem, hg, hw, hs, hb1, hlo, hlb, hgb])
    exact ⟨i + 1, h1, by omega, rfl, rfl⟩
  · have h1 : i = N := by simp at h; omega
    subst h1
    refine tri_fz [1] ?_
    simp only [evZ, fzSt]
    (try simp only [go_sem, Nat.reduceAdd, Nat.reduceSub, Nat.reduceMul, Nat.reduceLT, Nat.reduceLeDiff, Nat.reduceEqDiff, reduceIte, Int.reduceToNat, Int.reduceLT, Int.reduceLE, Int.reduceEq, Int.reduceNeg, reduceCtorEq, Int.reduceBEq, Int.reduceBNe])
    try refine go_on ?_
    refine ocall [0] (m1) evd (Picks.mk' (by simp) evd) ?_; refine evg ?_
    try refine go_on ?_
    refine pcall k2 ?_
    try refine go_on ?_
    refine pcall k3 ?_
    try refine go_on ?_
    rcases h01 with ⟨hN4, h0⟩ | ⟨hN4, h0⟩
    · have p0 : i ≤ 4096 := by omega
      have p1 : ¬ 4096 < i := by omega
      have hq : (mixb i i == List.replicate i 1) = true := by rw [hb]; simp
      have hq2 : (List.replicate i 1 == mixb i i) = true := by rw [hb]; simp
      have e0 : (iand .i64 n 1 == 0) = true := by rw [h0]; rfl
      repeat (first | refine go_on ?_ | simp only [go_sem, p0, p1, if_true, if_false, hLl])
      refine tri_condF ?_
      repeat (first | refine go_on ?_ | simp only [go_sem, p0, p1, if_true, if_false, hLl, e0, hq, hq2])
      refine tri_condT ?_ (by (try simp only [go_sem, e0]); try exact evd)
      repeat (first | refine go_on ?_ | simp only [go_sem, p0, p1, if_true, if_false, hLl, hq, hq2])
      refine pcall awake6_walk ?_
      try refine go_on ?_
      refine ⟨_, (by first | rfl | exact evd), .inl ?_⟩; (try simp only [go_sem, Nat.reduceAdd, Nat.reduceSub, Nat.reduceMul, Nat.reduceLT, Nat.reduceLeDiff, Nat.reduceEqDiff, reduceIte, Int.reduceToNat, Int.reduceLT, Int.reduceLE, Int.reduceEq, Int.reduceNeg, reduceCtorEq, Int.reduceBEq, Int.reduceBNe])
    · have p0 : ¬ i ≤ 4096 := by omega
      have p1 : 4096 < i := by omega
      have e0 : (iand .i64 n 1 == 0) = false := by rw [h0]; rfl
      repeat (first | refine go_on ?_ | simp only [go_sem, p0, p1, if_true, if_false, hLl])
      refine tri_condF ?_
      repeat (first | refine go_on ?_ | simp only [go_sem, p0, p1, if_true, if_false, hLl, e0])
      refine tri_condF ?_ (by (try simp only [go_sem, e0]); try exact evd)
      repeat (first | refine go_on ?_ | simp only [go_sem, p0, p1, if_true, if_false, hLl])
      refine pcall awake6_walk ?_
      try refine go_on ?_
      refine ⟨_, (by first | rfl | exact evd), .inl ?_⟩; (try simp only [go_sem, Nat.reduceAdd, Nat.reduceSub, Nat.reduceMul, Nat.reduceLT, Nat.reduceLeDiff, Nat.reduceEqDiff, reduceIte, Int.reduceToNat, Int.reduceLT, Int.reduceLE, Int.reduceEq, Int.reduceNeg, reduceCtorEq, Int.reduceBEq, Int.reduceBNe])
end Go.Proofs.Ytachiahepppajab
