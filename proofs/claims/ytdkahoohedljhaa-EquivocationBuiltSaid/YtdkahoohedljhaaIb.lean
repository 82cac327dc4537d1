/-
  The reference's culprits; claims that contradict each other.
-/
import Derived.Test.YtdkahoohedljhaaIa
namespace Go.Proofs.Ytdkahoohedljhaa
open Go Go.FH Go.RowKit
set_option linter.unusedVariables false
set_option linter.unusedSimpArgs false

/-- The culprits among the first numbers of a list. -/
def culR (l m : List Int) (i : Nat) : List Int := (l.take i).foldl (fun a v => if v ∈ m then insL a v else a) []
theorem culR_s {l m : List Int} {i : Nat} (h : i < l.length) : culR l m (i + 1) = if l.getD i 0 ∈ m then insL (culR l m i) (l.getD i 0) else culR l m i := by
  have e0 : l[i] = l.getD i 0 := by rw [List.getD_eq_getElem?_getD, List.getElem?_eq_getElem h]; rfl
  unfold culR
  rw [List.take_add_one, List.getElem?_eq_getElem h, Option.toList_some, List.foldl_append, List.foldl_cons, List.foldl_nil, e0]
theorem culR_len (l m : List Int) : ∀ i, (culR l m i).length ≤ i
  | 0 => by simp [culR]
  | i + 1 => by
    have ih := culR_len l m i
    by_cases h : i < l.length
    · rw [culR_s h]
      split
      · have := insL_len (culR l m i) (l.getD i 0); omega
      · omega
    · have : culR l m (i + 1) = culR l m i := by unfold culR; rw [List.take_of_length_le (by omega), List.take_of_length_le (by omega)]
      rw [this]; omega
theorem rculp_walk (x : Slg) (l m : List Int) (c d : Bool) (hx : x.fst.vals = .sl 1 c (nums .i64 l)) (hy : x.snd.vals = .sl 1 d (nums .i64 m)) (hl : l.length ≤ 100) (hm : m.length ≤ 100) :
    PC Try.prog 27 [.agg (slgC x)] (.sl 1 false (nums .i64 (culR l m l.length))) := by
  obtain ⟨⟨a1, a2, r1, v1⟩, ⟨b1, b2, r2, v2⟩⟩ := x
  dsimp only at hx hy
  subst hx hy
  have hp : PuL (slgC ⟨⟨a1, a2, r1, .sl 1 c (nums .i64 l)⟩, ⟨b1, b2, r2, .sl 1 d (nums .i64 m)⟩⟩) := (PuL_slgC _).2 ⟨Pu_nums _ _, Pu_nums _ _⟩
  refine PC.fact 5 f_ref7_Culprits (by simp) ⟨hp, trivial⟩ (Pu_nums _ _) ?_
  unfold c_ref7_Culprits
  try refine go_on ?_
  refine tri_loopG (fun i : Nat × Bool => ⟨5, [.agg (slgC ⟨⟨a1, a2, r1, .sl 1 c (nums .i64 l)⟩, ⟨b1, b2, r2, .sl 1 d (nums .i64 m)⟩⟩), .ptr 0 0, .sl 0 true [], if i.2 then .sl 1 false (nums .i64 (culR l m i.1)) else .sl 0 true [], .int .i64 i.1], []⟩) (fun _ => [.var (slgC ⟨⟨a1, a2, r1, .sl 1 c (nums .i64 l)⟩, ⟨b1, b2, r2, .sl 1 d (nums .i64 m)⟩⟩)]) (fun i => l.length - i.1) (fun i => i.1 ≤ l.length ∧ (i.2 = false → culR l m i.1 = [])) (0, false) ⟨by dsimp only; omega, fun _ => rfl⟩ ?_ ?_
  · simp only [Bool.false_eq_true, if_false]
    refine GC.mk' [] [0] (by simp) rfl (by simp) (by simp) evd evd
  rintro ⟨i, b⟩ ⟨hi, hb⟩
  dsimp only at hi hb ⊢
  by_cases h1 : i < l.length
  case neg =>
    have e1 : decide ((i : Int) < (l.length : Int)) = false := decide_eq_false (by omega)
    obtain rfl : i = l.length := by omega
    repeat (first | refine go_on ?_ | simp only [go_sem, e1])
    refine tri_condF ?_
    cases b with
    | true =>
      simp only [if_true]
      try refine go_on ?_
      refine ⟨_, (by first | rfl | exact evd), .inl ?_⟩; (try simp only [go_sem, Nat.reduceAdd, Nat.reduceSub, Nat.reduceMul, Nat.reduceLT, Nat.reduceLeDiff, Nat.reduceEqDiff, reduceIte, Int.reduceToNat, Int.reduceLT, Int.reduceLE, Int.reduceEq, Int.reduceNeg, reduceCtorEq, Int.reduceBEq, Int.reduceBNe])
    | false =>
      rw [hb rfl]
      simp only [Bool.false_eq_true, if_false]
      try refine go_on ?_
      refine ⟨_, by first | rfl | exact evd, .inr ⟨.sl 0 true [], evd, trivial, Wk.empty _ _ _⟩⟩
  have e1 : decide ((i : Int) < (l.length : Int)) = true := decide_eq_true (by omega)
  have hgd := gd_nums (k := .i64) h1
  have hw := wrap_i64_succ h1 (by omega)
  have hr := has_walk m d (l.getD i 0) (by omega)
  have hcl := culR_len l m i
  repeat (first | refine go_on ?_ | simp only [go_sem, e1, hgd, Nat.mul_one])
  refine tri_condT ?_
  repeat (first | refine go_on ?_ | simp only [go_sem, hgd, Nat.mul_one])
  refine dpcall (hr) ?_
  try refine go_on ?_
  by_cases h2 : l.getD i 0 ∈ m
  · rw [decide_eq_true h2]
    refine tri_condT ?_
    have hs : culR l m (i + 1) = insL (culR l m i) (l.getD i 0) := by rw [culR_s h1, if_pos h2]
    have hc := ins_walk (culR l m i) (l.getD i 0) (by omega)
    rw [← hs] at hc
    cases b with
    | true =>
      simp only [if_true]
      repeat (first | refine go_on ?_ | simp only [go_sem, hgd, Nat.mul_one])
      refine pcall hc ?_
      repeat (first | refine go_on ?_ | simp only [go_sem, hw])
      refine ⟨(i + 1, true), ⟨by dsimp only; omega, fun h => (by cases h)⟩, by dsimp only; omega, ?_⟩
      simp only [if_true]
      refine GC.mk' [] [0] (by simp) rfl (by simp) (by simp) evd evd
    | false =>
      rw [hb rfl] at hc
      simp only [Bool.false_eq_true, if_false]
      repeat (first | refine go_on ?_ | simp only [go_sem, hgd, Nat.mul_one])
      refine pcallw (hc) (by repeat (first | exact trivial | (refine ⟨Wk.refl _, ?_⟩) | (refine ⟨Wk.empty 0 1 _, ?_⟩))) (by simp [PuL, Pu, PuLL, Pu_bts, Pu_nums]) ?_
      repeat (first | refine go_on ?_ | simp only [go_sem, hw])
      refine ⟨(i + 1, true), ⟨by dsimp only; omega, fun h => (by cases h)⟩, by dsimp only; omega, ?_⟩
      simp only [if_true]
      refine GC.mk' [] [0] (by simp) rfl (by simp) (by simp) evd evd
  · rw [decide_eq_false h2]
    refine tri_condF ?_
    have hs : culR l m (i + 1) = culR l m i := by rw [culR_s h1, if_neg h2]
    repeat (first | refine go_on ?_ | simp only [go_sem, hw])
    refine ⟨(i + 1, b), ⟨by dsimp only; omega, fun h => (by dsimp only; rw [hs]; exact hb h)⟩, by dsimp only; omega, ?_⟩
    dsimp only
    rw [hs]
    cases b
    · simp only [Bool.false_eq_true, if_false]
      refine GC.mk' [] [0] (by simp) rfl (by simp) (by simp) evd evd
    · simp only [if_true]
      refine GC.mk' [] [0] (by simp) rfl (by simp) (by simp) evd evd
end Go.Proofs.Ytdkahoohedljhaa
