/-
  Package equivocation: the culprits.
-/
import Derived.Test.YtdkahoohedljhaaIb
import Derived.Test.YtdkahoohedljhaaIc
import Derived.Test.YtdkahoohedljhaaIe
import Derived.Test.YtdkahoohedljhaaBx
namespace Go.Proofs.Ytdkahoohedljhaa
open Go Go.FH Go.RowKit
set_option linter.unusedVariables false
set_option linter.unusedSimpArgs false

theorem culp_walk (x : Slg) (l m : List Int) (c d : Bool) (hx : x.fst.vals = .sl 1 c (nums .i64 l)) (hy : x.snd.vals = .sl 1 d (nums .i64 m)) (hl : l.length ≤ 100) (hm : m.length ≤ 100) :
    PC Try.prog 26 [.agg (slgC x)] (.sl 1 false (nums .i64 (culR l m l.length))) := by
  obtain ⟨⟨a1, a2, r1, v1⟩, ⟨b1, b2, r2, v2⟩⟩ := x
  dsimp only at hx hy
  subst hx hy
  have hp : PuL (slgC ⟨⟨a1, a2, r1, .sl 1 c (nums .i64 l)⟩, ⟨b1, b2, r2, .sl 1 d (nums .i64 m)⟩⟩) := (PuL_slgC _).2 ⟨Pu_nums _ _, Pu_nums _ _⟩
  refine PC.fact 13 f_equivocation_Culprits (by simp) ⟨hp, trivial⟩ (Pu_nums _ _) ?_
  unfold c_equivocation_Culprits
  have hmm : (List.nil : List (List AV)) = mns .i64 [] := rfl
  try refine go_on ?_
  refine tri_loopG (fun i : Nat => ⟨13, [.agg (slgC ⟨⟨a1, a2, r1, .sl 1 c (nums .i64 l)⟩, ⟨b1, b2, r2, .sl 1 d (nums .i64 m)⟩⟩), .ptr 0 0, .sl 0 true [], .mp 1, .dead, .dead, .dead, .dead, .dead, .dead, .dead, .dead, .dead], [(18, .int .i64 i), (17, .int .i64 l.length), (16, .sl 1 c (nums .i64 l))]⟩) (fun i => [.var (slgC ⟨⟨a1, a2, r1, .sl 1 c (nums .i64 l)⟩, ⟨b1, b2, r2, .sl 1 d (nums .i64 m)⟩⟩), .map (mns .i64 (mp1 l i))]) (fun i => l.length - i) (fun i => i ≤ l.length) 0 (by omega) ?_ ?_
  · rw [show mns .i64 (mp1 l 0) = [] from rfl]
    refine GC.mkT [] [0, 1] (by simp) rfl (by simp) (by simp) evd evd evd
  rintro i hi
  try dsimp only
  by_cases h1 : i < l.length
  · have e1 : decide ((i : Int) < (l.length : Int)) = true := decide_eq_true (by omega)
    have hgd := gd_nums (k := .i64) h1
    have hw := wrap_i64_succ h1 (by omega)
    have hs := mp1_s h1
    unfold upB at hs
    repeat (first | refine go_on ?_ | simp only [go_sem, e1])
    refine tri_condT ?_
    cases hf : (mp1 l i).findIdx? (fun p => p.1 == l.getD i 0) with
    | some j =>
      rw [hf] at hs
      repeat (first | refine go_on ?_ | simp only [go_sem, hgd, Nat.mul_one, hf, hw])
      refine ⟨i + 1, h1, by omega, ?_⟩
      rw [hs]
      refine GC.mkT [] [0, 1] (by simp) rfl (by simp) (by simp) evd evd evd
    | none =>
      rw [hf] at hs
      repeat (first | refine go_on ?_ | simp only [go_sem, hgd, Nat.mul_one, hf, hw])
      refine ⟨i + 1, h1, by omega, ?_⟩
      rw [hs]
      refine GC.mkT [] [0, 1] (by simp) rfl (by simp) (by simp) evd evd evd
  have e1 : decide ((i : Int) < (l.length : Int)) = false := decide_eq_false (by omega)
  obtain rfl : i = l.length := by omega
  repeat (first | refine go_on ?_ | simp only [go_sem, e1])
  refine tri_condF ?_
  try refine go_on ?_
  refine tri_loopG (fun i : Nat => ⟨13, [.agg (slgC ⟨⟨a1, a2, r1, .sl 1 c (nums .i64 l)⟩, ⟨b1, b2, r2, .sl 1 d (nums .i64 m)⟩⟩), .ptr 0 0, .sl 0 true [], .mp 1, .dead, .dead, .dead, .dead, .dead, .dead, .dead, .dead, .dead], [(29, .int .i64 i), (28, .int .i64 m.length), (27, .sl 1 d (nums .i64 m))]⟩) (fun i => [.var (slgC ⟨⟨a1, a2, r1, .sl 1 c (nums .i64 l)⟩, ⟨b1, b2, r2, .sl 1 d (nums .i64 m)⟩⟩), .map (mns .i64 (mp2 l m i))]) (fun i => m.length - i) (fun i => i ≤ m.length) 0 (by omega) ?_ ?_
  · rw [show mp2 l m 0 = mp1 l l.length from rfl]
    refine GC.mkT [] [0, 1] (by simp) rfl (by simp) (by simp) evd evd evd
  rintro i hi
  try dsimp only
  by_cases h1 : i < m.length
  · have e1 : decide ((i : Int) < (m.length : Int)) = true := decide_eq_true (by omega)
    have hgd := gd_nums (k := .i64) h1
    have hw := wrap_i64_succ h1 (by omega)
    have hs := mp2_s (l := l) h1
    unfold upB at hs
    repeat (first | refine go_on ?_ | simp only [go_sem, e1])
    refine tri_condT ?_
    cases hf : (mp2 l m i).findIdx? (fun p => p.1 == m.getD i 0) with
    | some j =>
      rw [hf] at hs
      simp only [Option.isSome_some, if_true] at hs
      obtain ⟨q, hq⟩ := upB_found hf
      have hlt : j < (mp2 l m i).length := (List.getElem?_eq_some_iff.1 hq).1
      have hm2 := mns_get .i64 (mp2 l m i) j hlt
      repeat (first | refine go_on ?_ | simp only [go_sem, hgd, Nat.mul_one, hf, hm2])
      refine tri_condT ?_
      repeat (first | refine go_on ?_ | simp only [go_sem, hgd, Nat.mul_one, hf, hw])
      refine ⟨i + 1, h1, by omega, ?_⟩
      rw [hs]
      refine GC.mkT [] [0, 1] (by simp) rfl (by simp) (by simp) evd evd evd
    | none =>
      rw [hf] at hs
      simp only [Option.isSome_none, Bool.false_eq_true, if_false] at hs
      repeat (first | refine go_on ?_ | simp only [go_sem, hgd, Nat.mul_one, hf])
      refine tri_condF ?_
      repeat (first | refine go_on ?_ | simp only [go_sem, hw])
      refine ⟨i + 1, h1, by omega, ?_⟩
      rw [hs]
      refine GC.mkT [] [0, 1] (by simp) rfl (by simp) (by simp) evd evd evd
  have e1 : decide ((i : Int) < (m.length : Int)) = false := decide_eq_false (by omega)
  obtain rfl : i = m.length := by omega
  have hsort := fun seen => outS_sorted l m seen
  have hM : (mp2 l m m.length).length ≤ 100 := by
    have h2 := congrArg List.length (mp2_spec l m m.length (Nat.le_refl _)).1
    rw [List.length_map, List.length_map] at h2
    have h3 := mp1_len l l.length
    omega
  generalize mp2 l m m.length = M at *
  repeat (first | refine go_on ?_ | simp only [go_sem, e1])
  refine tri_condF ?_
  try refine go_on ?_
  refine tri_loopG (fun x : List Nat × Bool => ⟨13, [.agg (slgC ⟨⟨a1, a2, r1, .sl 1 c (nums .i64 l)⟩, ⟨b1, b2, r2, .sl 1 d (nums .i64 m)⟩⟩), .ptr 0 0, .sl 0 true [], .mp 1, .dead, .dead, .dead, .dead, .dead, .dead, if x.2 then .hs 1 3 0 (outS M x.1).length else .sl 0 true [], .dead, .dead], [(44, .ptr 2 0)]⟩) (fun x => .var (slgC ⟨⟨a1, a2, r1, .sl 1 c (nums .i64 l)⟩, ⟨b1, b2, r2, .sl 1 d (nums .i64 m)⟩⟩) :: .map (mns .i64 M) :: .iter 1 M.length x.1 :: (if x.2 then [.vec 1 (nums .i64 (outS M x.1))] else []))
    (fun x => ((List.range M.length).filter fun j => decide (j ∉ x.1)).length) (fun x => x.1.Nodup ∧ x.1.length + ((List.range M.length).filter fun j => decide (j ∉ x.1)).length ≤ M.length ∧ (x.2 = false → outS M x.1 = [])) ([], false) ⟨List.nodup_nil, (by have := List.length_filter_le (fun j => decide (j ∉ ([] : List Nat))) (List.range M.length); simpa using this), fun _ => rfl⟩ ?_ ?_
  · simp only [Bool.false_eq_true, if_false]
    refine GC.mkT [] [0, 1, 2] (by simp) rfl (by simp) (by simp) evd evd evd
  rintro ⟨seen, st⟩ ⟨hn, hlt, hst⟩
  dsimp only at hn hlt hst ⊢
  have hlen := outS_len M seen
  cases st with
  | true =>
    simp only [if_true]
    try refine go_on ?_
    refine ⟨fun i hi hs => ?_, fun hall => ?_⟩
    · have hg := mns_get .i64 M i hi
      have hout := outS_s M seen i hi
      have hn2 := nodup_snoc hn hs
      have hmu := left_lt hi hs
      have hlt2 : (seen ++ [i]).length + ((List.range M.length).filter fun j => decide (j ∉ seen ++ [i])).length ≤ M.length := by
        rw [List.length_append]
        simp only [List.length_cons, List.length_nil]
        omega
      repeat (first | refine go_on ?_ | simp only [go_sem, hg])
      refine tri_condT ?_
      repeat (first | refine go_on ?_ | simp only [go_sem, hg])
      cases hq : M[i].2 with
      | true =>
        rw [hq] at hout
        simp only [if_true] at hout
        refine tri_condT ?_
        try refine go_on ?_
        refine ⟨(seen ++ [i], true), ⟨hn2, hlt2, fun h => (by cases h)⟩, hmu, ?_⟩
        simp only [if_true, hout]
        refine GC.mkT [] [0, 1, 2, 4] (by simp) rfl (by simp) (by simp) evd evd evd
      | false =>
        rw [hq] at hout
        simp only [Bool.false_eq_true, if_false] at hout
        refine tri_condF ?_
        try refine go_on ?_
        refine ⟨(seen ++ [i], true), ⟨hn2, hlt2, fun h => (by cases h)⟩, hmu, ?_⟩
        simp only [if_true, hout]
        refine GC.mkT [] [0, 1, 2, 3] (by simp) rfl (by simp) (by simp) evd evd evd
    · have hR := hsort seen hn hall
      have cs := sort_walk (outS M seen) (by omega)
      rw [hR] at cs
      have hRl : (culR l m l.length).length = (outS M seen).length := by rw [← hR, List.length_mergeSort]
      try refine go_on ?_
      refine tri_condF ?_
      try refine go_on ?_
      refine ocall [3] (cs) evd (Picks.mk' (by simp) evd) ?_; refine evg ?_
      try refine go_on ?_
      rw [← hRl]
      refine ⟨_, (by first | rfl | exact evd), .inl ?_⟩; (try simp only [go_sem, Nat.reduceAdd, Nat.reduceSub, Nat.reduceMul, Nat.reduceLT, Nat.reduceLeDiff, Nat.reduceEqDiff, reduceIte, Int.reduceToNat, Int.reduceLT, Int.reduceLE, Int.reduceEq, Int.reduceNeg, reduceCtorEq, Int.reduceBEq, Int.reduceBNe])
  | false =>
    simp only [Bool.false_eq_true, if_false]
    try refine go_on ?_
    refine ⟨fun i hi hs => ?_, fun hall => ?_⟩
    · have hg := mns_get .i64 M i hi
      have hout := outS_s M seen i hi
      have hn2 := nodup_snoc hn hs
      have hmu := left_lt hi hs
      have hlt2 : (seen ++ [i]).length + ((List.range M.length).filter fun j => decide (j ∉ seen ++ [i])).length ≤ M.length := by
        rw [List.length_append]
        simp only [List.length_cons, List.length_nil]
        omega
      repeat (first | refine go_on ?_ | simp only [go_sem, hg])
      refine tri_condT ?_
      repeat (first | refine go_on ?_ | simp only [go_sem, hg])
      cases hq : M[i].2 with
      | true =>
        rw [hq] at hout
        simp only [if_true] at hout
        refine tri_condT ?_
        try refine go_on ?_
        refine ⟨(seen ++ [i], true), ⟨hn2, hlt2, fun h => (by cases h)⟩, hmu, ?_⟩
        simp only [if_true, hout]
        rw [hst rfl]
        refine GC.mkT [] [0, 1, 2, 3] (by simp) rfl (by simp) (by simp) evd evd evd
      | false =>
        rw [hq] at hout
        simp only [Bool.false_eq_true, if_false] at hout
        refine tri_condF ?_
        try refine go_on ?_
        refine ⟨(seen ++ [i], false), ⟨hn2, hlt2, fun h => (by dsimp only; rw [hout]; exact hst rfl)⟩, hmu, ?_⟩
        simp only [Bool.false_eq_true, if_false, hout]
        refine GC.mkT [] [0, 1, 2] (by simp) rfl (by simp) (by simp) evd evd evd
    · have hR := hsort seen hn hall
      rw [hst rfl, List.mergeSort_nil] at hR
      rw [← hR]
      try refine go_on ?_
      refine tri_condF ?_
      try refine go_on ?_
      refine pcall (sort_nil true) ?_
      try refine go_on ?_
      refine ⟨_, by first | rfl | exact evd, .inr ⟨.sl 0 true [], evd, trivial, Wk.empty _ _ _⟩⟩
end Go.Proofs.Ytdkahoohedljhaa
