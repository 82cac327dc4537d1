/-
  Claims that contradict each other; the watch of chapter 9.
-/
import Derived.Test.YtdkahoohedljhaaId
namespace Go.Proofs.Ytdkahoohedljhaa
open Go Go.FH Go.RowKit
set_option linter.unusedVariables false
set_option linter.unusedSimpArgs false

/-- One claim surrounds another. -/
def sur (a b : Clm) : Bool := decide (a.src < b.src) && decide (b.tgt < a.tgt)
/-- Two votes for one target. -/
def dbl (a b : Clm) : Bool := (a.tgt == b.tgt) && ((a.src != b.src) || !decide (a.root = b.root))
/-- Two claims contradict each other. -/
def slb (a b : Clm) : Bool := dbl a b || sur a b || sur b a
theorem surrounds_walk (a b : Clm) (ha : a.good = true) (hb : b.good = true) (pa : a.Pure) (pb : b.Pure) : PC Try.prog 40 [.agg (clmC a), .agg (clmC b)] (.bool (sur a b)) := by
  refine PC.fact 5 f_equivocation_surrounds (by simp) ⟨(PuL_clmC a).2 pa, (PuL_clmC b).2 pb, trivial⟩ trivial ?_
  unfold c_equivocation_surrounds sur
  cases e1 : decide (a.src < b.src) with
  | false =>
    repeat (first | refine go_on ?_ | simp only [go_sem, ha, hb, e1])
    refine ⟨_, (by first | rfl | exact evd), .inl ?_⟩; (try simp only [go_sem, Nat.reduceAdd, Nat.reduceSub, Nat.reduceMul, Nat.reduceLT, Nat.reduceLeDiff, Nat.reduceEqDiff, reduceIte, Int.reduceToNat, Int.reduceLT, Int.reduceLE, Int.reduceEq, Int.reduceNeg, reduceCtorEq, Int.reduceBEq, Int.reduceBNe])
  | true =>
    repeat (first | refine go_on ?_ | simp only [go_sem, ha, hb, e1])
    refine ⟨_, (by first | rfl | exact evd), .inl ?_⟩; (try simp only [go_sem, Nat.reduceAdd, Nat.reduceSub, Nat.reduceMul, Nat.reduceLT, Nat.reduceLeDiff, Nat.reduceEqDiff, reduceIte, Int.reduceToNat, Int.reduceLT, Int.reduceLE, Int.reduceEq, Int.reduceNeg, reduceCtorEq, Int.reduceBEq, Int.reduceBNe])
theorem slashable_tail (a b : Clm) (ha : a.good = true) (hb : b.good = true) (pa : a.Pure) (pb : b.Pure) (D : Bool) (ts : List (Nat × AV)) : Tri Try.prog 36 0 (c_equivocation_Slashable.tl 2) (PQ [.tmp 4] (.bool (D || sur a b || sur b a))) ⟨6, [.agg (clmC a), .agg (clmC b), .ptr 0 0, .ptr 1 0, .bool false, .bool D], ts⟩ [.var (clmC a), .var (clmC b)] := by
  unfold c_equivocation_Slashable
  simp only [ACode.tl]
  have c1 := surrounds_walk a b ha hb pa pb
  have c2 := surrounds_walk b a hb ha pb pa
  cases D with
  | true =>
    try refine go_on ?_
    refine ⟨_, (by first | rfl | exact evd), .inl ?_⟩; (try simp only [go_sem, Nat.reduceAdd, Nat.reduceSub, Nat.reduceMul, Nat.reduceLT, Nat.reduceLeDiff, Nat.reduceEqDiff, reduceIte, Int.reduceToNat, Int.reduceLT, Int.reduceLE, Int.reduceEq, Int.reduceNeg, reduceCtorEq, Int.reduceBEq, Int.reduceBNe])
    rfl
  | false =>
    generalize hs : sur a b = s1 at *
    cases s1 with
    | true =>
      try refine go_on ?_
      refine pcall c1 ?_
      try refine go_on ?_
      refine ⟨_, (by first | rfl | exact evd), .inl ?_⟩; (try simp only [go_sem, Nat.reduceAdd, Nat.reduceSub, Nat.reduceMul, Nat.reduceLT, Nat.reduceLeDiff, Nat.reduceEqDiff, reduceIte, Int.reduceToNat, Int.reduceLT, Int.reduceLE, Int.reduceEq, Int.reduceNeg, reduceCtorEq, Int.reduceBEq, Int.reduceBNe])
      rfl
    | false =>
      try refine go_on ?_
      refine pcall c1 ?_
      try refine go_on ?_
      refine pcall c2 ?_
      try refine go_on ?_
      refine ⟨_, (by first | rfl | exact evd), .inl ?_⟩; (try simp only [go_sem, Nat.reduceAdd, Nat.reduceSub, Nat.reduceMul, Nat.reduceLT, Nat.reduceLeDiff, Nat.reduceEqDiff, reduceIte, Int.reduceToNat, Int.reduceLT, Int.reduceLE, Int.reduceEq, Int.reduceNeg, reduceCtorEq, Int.reduceBEq, Int.reduceBNe])
      rfl
theorem slashable_walk (a b : Clm) (ha : a.good = true) (hb : b.good = true) (pa : a.Pure) (pb : b.Pure) : PC Try.prog 12 [.agg (clmC a), .agg (clmC b)] (.bool (slb a b)) := by
  refine PC.fact 6 f_equivocation_Slashable (by simp) ⟨(PuL_clmC a).2 pa, (PuL_clmC b).2 pb, trivial⟩ trivial ?_
  have tl := slashable_tail a b ha hb pa pb
  have hc : c_equivocation_Slashable = .seq c_equivocation_Slashable.hd (.seq (c_equivocation_Slashable.tl 1).hd (c_equivocation_Slashable.tl 2)) := rfl
  rw [hc]
  generalize c_equivocation_Slashable.tl 2 = cT at *
  unfold c_equivocation_Slashable slb dbl
  simp only [ACode.tl, ACode.hd]
  cases e1 : (a.tgt == b.tgt) with
  | false =>
    repeat (first | refine go_on ?_ | simp only [go_sem, ha, hb, e1])
    exact tl _ _
  | true =>
    cases e2 : (a.src != b.src) with
    | true =>
      repeat (first | refine go_on ?_ | simp only [go_sem, ha, hb, e1, e2])
      exact tl _ _
    | false =>
      repeat (first | refine go_on ?_ | simp only [go_sem, ha, hb, e1, e2])
      exact tl _ _
theorem rslashable_walk (a b : Clm) (ha : a.good = true) (hb : b.good = true) (pa : a.Pure) (pb : b.Pure) : PC Try.prog 13 [.agg (clmC a), .agg (clmC b)] (.bool (slb a b)) := by
  refine PC.fact 8 f_ref7_Slashable (by simp) ⟨(PuL_clmC a).2 pa, (PuL_clmC b).2 pb, trivial⟩ trivial ?_
  have hc : c_ref7_Slashable = .seq c_ref7_Slashable.hd (.seq (c_ref7_Slashable.tl 1).hd (.seq (c_ref7_Slashable.tl 2).hd (.seq (c_ref7_Slashable.tl 3).hd (c_ref7_Slashable.tl 4)))) := rfl
  -- the last part: three results joined
  have t4 : ∀ (D s1 s2 : Bool) (ts : List (Nat × AV)), Tri Try.prog 58 0 (c_ref7_Slashable.tl 4) (PQ [.tmp 4] (.bool (D || s1 || s2))) ⟨8, [.agg (clmC a), .agg (clmC b), .ptr 0 0, .ptr 1 0, .bool false, .bool D, .bool s1, .bool s2], ts⟩ [.var (clmC a), .var (clmC b)] := by
    intro D s1 s2 ts
    unfold c_ref7_Slashable
    simp only [ACode.tl]
    cases D
    · cases s1
      · try refine go_on ?_
        refine ⟨_, (by first | rfl | exact evd), .inl ?_⟩; (try simp only [go_sem, Nat.reduceAdd, Nat.reduceSub, Nat.reduceMul, Nat.reduceLT, Nat.reduceLeDiff, Nat.reduceEqDiff, reduceIte, Int.reduceToNat, Int.reduceLT, Int.reduceLE, Int.reduceEq, Int.reduceNeg, reduceCtorEq, Int.reduceBEq, Int.reduceBNe])
        rfl
      · try refine go_on ?_
        refine ⟨_, (by first | rfl | exact evd), .inl ?_⟩; (try simp only [go_sem, Nat.reduceAdd, Nat.reduceSub, Nat.reduceMul, Nat.reduceLT, Nat.reduceLeDiff, Nat.reduceEqDiff, reduceIte, Int.reduceToNat, Int.reduceLT, Int.reduceLE, Int.reduceEq, Int.reduceNeg, reduceCtorEq, Int.reduceBEq, Int.reduceBNe])
        rfl
    · try refine go_on ?_
      refine ⟨_, (by first | rfl | exact evd), .inl ?_⟩; (try simp only [go_sem, Nat.reduceAdd, Nat.reduceSub, Nat.reduceMul, Nat.reduceLT, Nat.reduceLeDiff, Nat.reduceEqDiff, reduceIte, Int.reduceToNat, Int.reduceLT, Int.reduceLE, Int.reduceEq, Int.reduceNeg, reduceCtorEq, Int.reduceBEq, Int.reduceBNe])
      rfl
  have t3 : ∀ (D s1 : Bool) (ts : List (Nat × AV)), Tri Try.prog 58 0 (.seq (c_ref7_Slashable.tl 3).hd (c_ref7_Slashable.tl 4)) (PQ [.tmp 4] (.bool (D || s1 || sur b a))) ⟨8, [.agg (clmC a), .agg (clmC b), .ptr 0 0, .ptr 1 0, .bool false, .bool D, .bool s1, .dead], ts⟩ [.var (clmC a), .var (clmC b)] := by
    intro D s1 ts
    generalize c_ref7_Slashable.tl 4 = cT at *
    unfold c_ref7_Slashable sur
    simp only [ACode.tl, ACode.hd]
    cases e1 : decide (b.src < a.src) with
    | false =>
      repeat (first | refine go_on ?_ | simp only [go_sem, e1])
      exact t4 _ _ _ _
    | true =>
      repeat (first | refine go_on ?_ | simp only [go_sem, e1])
      exact t4 _ _ _ _
  have t2 : ∀ (D : Bool) (ts : List (Nat × AV)), Tri Try.prog 58 0 (.seq (c_ref7_Slashable.tl 2).hd (.seq (c_ref7_Slashable.tl 3).hd (c_ref7_Slashable.tl 4))) (PQ [.tmp 4] (.bool (D || sur a b || sur b a))) ⟨8, [.agg (clmC a), .agg (clmC b), .ptr 0 0, .ptr 1 0, .bool false, .bool D, .dead, .dead], ts⟩ [.var (clmC a), .var (clmC b)] := by
    intro D ts
    clear t4
    generalize ACode.seq (c_ref7_Slashable.tl 3).hd (c_ref7_Slashable.tl 4) = cT at *
    have t3' := fun s1 => t3 D s1
    clear t3
    generalize sur b a = s2 at *
    unfold c_ref7_Slashable sur
    simp only [ACode.tl, ACode.hd]
    cases e1 : decide (a.src < b.src) with
    | false =>
      repeat (first | refine go_on ?_ | simp only [go_sem, e1])
      exact t3' _ _
    | true =>
      repeat (first | refine go_on ?_ | simp only [go_sem, e1])
      exact t3' _ _
  clear t3 t4
  rw [hc]
  clear hc
  generalize ACode.seq (c_ref7_Slashable.tl 2).hd (.seq (c_ref7_Slashable.tl 3).hd (c_ref7_Slashable.tl 4)) = cT at *
  unfold c_ref7_Slashable slb
  generalize sur a b = s1 at *
  generalize sur b a = s2 at *
  unfold dbl
  simp only [ACode.tl, ACode.hd]
  cases e1 : (a.tgt == b.tgt) with
  | false =>
    repeat (first | refine go_on ?_ | simp only [go_sem, ha, hb, e1])
    exact t2 _ _
  | true =>
    cases e2 : (a.src != b.src) with
    | true =>
      repeat (first | refine go_on ?_ | simp only [go_sem, ha, hb, e1, e2])
      exact t2 _ _
    | false =>
      repeat (first | refine go_on ?_ | simp only [go_sem, ha, hb, e1, e2])
      exact t2 _ _
theorem awake9_walk : PC Try.prog 14 [] (.bool true) := by
  refine PC.fact 5 f_law9_awake (by simp) trivial trivial ?_
  unfold c_law9_awake
  have g : ∀ s t : Int, (⟨s, t, rt0, .sl 0 true []⟩ : Clm).good = true := fun _ _ => rfl
  have p : ∀ s t : Int, (⟨s, t, rt0, .sl 0 true []⟩ : Clm).Pure := fun _ _ => trivial
  have c1 := slashable_walk ⟨1, 5, rt0, .sl 0 true []⟩ ⟨2, 4, rt0, .sl 0 true []⟩ (g _ _) (g _ _) (p _ _) (p _ _)
  have c2 := slashable_walk ⟨2, 4, rt0, .sl 0 true []⟩ ⟨1, 5, rt0, .sl 0 true []⟩ (g _ _) (g _ _) (p _ _) (p _ _)
  have c3 := slashable_walk ⟨1, 4, rt0, .sl 0 true []⟩ ⟨2, 5, rt0, .sl 0 true []⟩ (g _ _) (g _ _) (p _ _) (p _ _)
  have c4 := slashable_walk ⟨1, 5, rt0, .sl 0 true []⟩ ⟨1, 5, rt0, .sl 0 true []⟩ (g _ _) (g _ _) (p _ _) (p _ _)
  rw [show slb ⟨1, 5, rt0, .sl 0 true []⟩ ⟨2, 4, rt0, .sl 0 true []⟩ = true by simp [slb, dbl, sur]] at c1
  rw [show slb ⟨2, 4, rt0, .sl 0 true []⟩ ⟨1, 5, rt0, .sl 0 true []⟩ = true by simp [slb, dbl, sur]] at c2
  rw [show slb ⟨1, 4, rt0, .sl 0 true []⟩ ⟨2, 5, rt0, .sl 0 true []⟩ = false by simp [slb, dbl, sur]] at c3
  rw [show slb ⟨1, 5, rt0, .sl 0 true []⟩ ⟨1, 5, rt0, .sl 0 true []⟩ = false by simp [slb, dbl, sur]] at c4
  try refine go_on ?_
  refine pcall c1 ?_
  try refine go_on ?_
  refine pcall c2 ?_
  try refine go_on ?_
  refine pcall c3 ?_
  try refine go_on ?_
  refine pcall c4 ?_
  try refine go_on ?_
  refine ⟨_, (by first | rfl | exact evd), .inl ?_⟩; (try simp only [go_sem, Nat.reduceAdd, Nat.reduceSub, Nat.reduceMul, Nat.reduceLT, Nat.reduceLeDiff, Nat.reduceEqDiff, reduceIte, Int.reduceToNat, Int.reduceLT, Int.reduceLE, Int.reduceEq, Int.reduceNeg, reduceCtorEq, Int.reduceBEq, Int.reduceBNe])
/-- The error of evidence. -/
def evE (x : Slg) (l m : List Int) (n : Int) : Int :=
  if vErr l n ≠ 0 then vErr l n else if vErr m n ≠ 0 then vErr m n else if x.fst.tgt < x.fst.src ∨ x.snd.tgt < x.snd.src then 2
  else if slb x.fst x.snd = false ∨ culR l m l.length = [] then 20 else 0
theorem rvalid_walk (x : Slg) (l m : List Int) (c d : Bool) (n : Int) (hx : x.fst.vals = .sl 1 c (nums .i64 l)) (hy : x.snd.vals = .sl 1 d (nums .i64 m)) (hl : l.length ≤ 100) (hm : m.length ≤ 100) :
    PC Try.prog 25 [.agg (slgC x), .int .i64 n] (.int .i64 (evE x l m n)) := by
  obtain ⟨⟨a1, a2, r1, v1⟩, ⟨b1, b2, r2, v2⟩⟩ := x
  dsimp only at hx hy
  subst hx hy
  have cu := rculp_walk ⟨⟨a1, a2, r1, .sl 1 c (nums .i64 l)⟩, ⟨b1, b2, r2, .sl 1 d (nums .i64 m)⟩⟩ l m c d rfl rfl hl hm
  have sl := rslashable_walk ⟨a1, a2, r1, .sl 1 c (nums .i64 l)⟩ ⟨b1, b2, r2, .sl 1 d (nums .i64 m)⟩ rfl rfl (Pu_nums _ _) (Pu_nums _ _)
  have w1 := svlist_walk l c n (by omega)
  have w2 := svlist_walk m d n (by omega)
  refine PC.fact 7 f_ref7_ValidateSlashing (by simp) ⟨(PuL_slgC _).2 ⟨Pu_nums _ _, Pu_nums _ _⟩, trivial, trivial⟩ trivial ?_
  unfold c_ref7_ValidateSlashing evE
  dsimp only
  generalize slb ⟨a1, a2, r1, .sl 1 c (nums .i64 l)⟩ ⟨b1, b2, r2, .sl 1 d (nums .i64 m)⟩ = S at *
  generalize culR l m l.length = R at *
  by_cases q1 : vErr l n = 0
  case neg =>
    have e1 : (vErr l n != 0) = true := by rw [bne_iff_ne]; exact q1
    rw [if_pos q1]
    try refine go_on ?_
    refine pcall w1 ?_
    repeat (first | refine go_on ?_ | simp only [go_sem, e1])
    refine tri_condT ?_
    try refine go_on ?_
    refine ⟨_, (by first | rfl | exact evd), .inl ?_⟩; (try simp only [go_sem, Nat.reduceAdd, Nat.reduceSub, Nat.reduceMul, Nat.reduceLT, Nat.reduceLeDiff, Nat.reduceEqDiff, reduceIte, Int.reduceToNat, Int.reduceLT, Int.reduceLE, Int.reduceEq, Int.reduceNeg, reduceCtorEq, Int.reduceBEq, Int.reduceBNe])
  rw [if_neg (fun h => h q1)]
  rw [q1] at w1
  by_cases q2 : vErr m n = 0
  case neg =>
    have e1 : (vErr m n != 0) = true := by rw [bne_iff_ne]; exact q2
    rw [if_pos q2]
    try refine go_on ?_
    refine pcall w1 ?_
    try refine go_on ?_
    refine tri_condF ?_
    try refine go_on ?_
    refine pcall w2 ?_
    repeat (first | refine go_on ?_ | simp only [go_sem, e1])
    refine tri_condT ?_
    try refine go_on ?_
    refine ⟨_, (by first | rfl | exact evd), .inl ?_⟩; (try simp only [go_sem, Nat.reduceAdd, Nat.reduceSub, Nat.reduceMul, Nat.reduceLT, Nat.reduceLeDiff, Nat.reduceEqDiff, reduceIte, Int.reduceToNat, Int.reduceLT, Int.reduceLE, Int.reduceEq, Int.reduceNeg, reduceCtorEq, Int.reduceBEq, Int.reduceBNe])
  rw [if_neg (fun h => h q2)]
  rw [q2] at w2
  try refine go_on ?_
  refine pcall w1 ?_
  try refine go_on ?_
  refine tri_condF ?_
  try refine go_on ?_
  refine pcall w2 ?_
  try refine go_on ?_
  refine tri_condF ?_
  by_cases q3 : a2 < a1
  · have e3 : decide (a2 < a1) = true := decide_eq_true q3
    rw [if_pos (.inl q3)]
    repeat (first | refine go_on ?_ | simp only [go_sem, e3])
    refine tri_condT ?_
    try refine go_on ?_
    refine ⟨_, (by first | rfl | exact evd), .inl ?_⟩; (try simp only [go_sem, Nat.reduceAdd, Nat.reduceSub, Nat.reduceMul, Nat.reduceLT, Nat.reduceLeDiff, Nat.reduceEqDiff, reduceIte, Int.reduceToNat, Int.reduceLT, Int.reduceLE, Int.reduceEq, Int.reduceNeg, reduceCtorEq, Int.reduceBEq, Int.reduceBNe])
  have e3 : decide (a2 < a1) = false := decide_eq_false q3
  by_cases q4 : b2 < b1
  · have e4 : decide (b2 < b1) = true := decide_eq_true q4
    rw [if_pos (.inr q4)]
    repeat (first | refine go_on ?_ | simp only [go_sem, e3, e4])
    refine tri_condT ?_
    try refine go_on ?_
    refine ⟨_, (by first | rfl | exact evd), .inl ?_⟩; (try simp only [go_sem, Nat.reduceAdd, Nat.reduceSub, Nat.reduceMul, Nat.reduceLT, Nat.reduceLeDiff, Nat.reduceEqDiff, reduceIte, Int.reduceToNat, Int.reduceLT, Int.reduceLE, Int.reduceEq, Int.reduceNeg, reduceCtorEq, Int.reduceBEq, Int.reduceBNe])
  have e4 : decide (b2 < b1) = false := decide_eq_false q4
  rw [if_neg (fun h => h.elim q3 q4)]
  repeat (first | refine go_on ?_ | simp only [go_sem, e3, e4])
  refine tri_condF ?_
  try refine go_on ?_
  refine pcall sl ?_
  cases S with
  | false =>
    rw [if_pos (.inl rfl)]
    try refine go_on ?_
    refine tri_condT ?_
    try refine go_on ?_
    refine ⟨_, (by first | rfl | exact evd), .inl ?_⟩; (try simp only [go_sem, Nat.reduceAdd, Nat.reduceSub, Nat.reduceMul, Nat.reduceLT, Nat.reduceLeDiff, Nat.reduceEqDiff, reduceIte, Int.reduceToNat, Int.reduceLT, Int.reduceLE, Int.reduceEq, Int.reduceNeg, reduceCtorEq, Int.reduceBEq, Int.reduceBNe])
  | true =>
    try refine go_on ?_
    refine pcall cu ?_
    by_cases q5 : R = []
    · subst q5
      rw [if_pos rfl]
      try refine go_on ?_
      refine tri_condT ?_
      try refine go_on ?_
      refine ⟨_, (by first | rfl | exact evd), .inl ?_⟩; (try simp only [go_sem, Nat.reduceAdd, Nat.reduceSub, Nat.reduceMul, Nat.reduceLT, Nat.reduceLeDiff, Nat.reduceEqDiff, reduceIte, Int.reduceToNat, Int.reduceLT, Int.reduceLE, Int.reduceEq, Int.reduceNeg, reduceCtorEq, Int.reduceBEq, Int.reduceBNe])
    · have e5 : ((R.length : Int) == 0) = false := by
        rw [← Bool.not_eq_true, beq_iff_eq]
        have := List.length_pos_iff.2 q5
        omega
      rw [if_neg (by simp [q5])]
      repeat (first | refine go_on ?_ | simp only [go_sem, e5])
      refine tri_condF ?_
      try refine go_on ?_
      refine ⟨_, (by first | rfl | exact evd), .inl ?_⟩; (try simp only [go_sem, Nat.reduceAdd, Nat.reduceSub, Nat.reduceMul, Nat.reduceLT, Nat.reduceLeDiff, Nat.reduceEqDiff, reduceIte, Int.reduceToNat, Int.reduceLT, Int.reduceLE, Int.reduceEq, Int.reduceNeg, reduceCtorEq, Int.reduceBEq, Int.reduceBNe])
end Go.Proofs.Ytdkahoohedljhaa
