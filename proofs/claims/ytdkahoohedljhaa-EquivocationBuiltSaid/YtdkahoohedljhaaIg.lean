/-
  Package equivocation: evidence; the law EquivocationEvidence.
-/
import Derived.Test.YtdkahoohedljhaaIf
import Derived.Test.YtdkahoohedljhaaMc
namespace Go.Proofs.Ytdkahoohedljhaa
open Go Go.FH Go.RowKit
set_option linter.unusedVariables false
set_option linter.unusedSimpArgs false

theorem valid_tail (l m : List Int) (c d : Bool) (n a1 a2 b1 b2 : Int) (r1 r2 : Rt) (hl : l.length ≤ 100) (hm : m.length ≤ 100) (ts : List (Nat × AV)) :
    Tri Try.prog 54 0 (c_equivocation_Validate.tl 2) (PQ [.tmp 4] (.int .i64 (if a2 < a1 ∨ b2 < b1 then 2 else if slb ⟨a1, a2, r1, .sl 1 c (nums .i64 l)⟩ ⟨b1, b2, r2, .sl 1 d (nums .i64 m)⟩ = false ∨ culR l m l.length = [] then 20 else 0)))
      ⟨8, [.agg (slgC ⟨⟨a1, a2, r1, .sl 1 c (nums .i64 l)⟩, ⟨b1, b2, r2, .sl 1 d (nums .i64 m)⟩⟩), .int .i64 n, .ptr 0 0, .dead, .int .i64 0, .dead, .dead, .dead], ts⟩ [.var (slgC ⟨⟨a1, a2, r1, .sl 1 c (nums .i64 l)⟩, ⟨b1, b2, r2, .sl 1 d (nums .i64 m)⟩⟩)] := by
  have cu := culp_walk ⟨⟨a1, a2, r1, .sl 1 c (nums .i64 l)⟩, ⟨b1, b2, r2, .sl 1 d (nums .i64 m)⟩⟩ l m c d rfl rfl hl hm
  have sl := slashable_walk ⟨a1, a2, r1, .sl 1 c (nums .i64 l)⟩ ⟨b1, b2, r2, .sl 1 d (nums .i64 m)⟩ rfl rfl (Pu_nums _ _) (Pu_nums _ _)
  unfold c_equivocation_Validate
  simp only [ACode.tl]
  generalize slb ⟨a1, a2, r1, .sl 1 c (nums .i64 l)⟩ ⟨b1, b2, r2, .sl 1 d (nums .i64 m)⟩ = S at *
  generalize culR l m l.length = R at *
  by_cases q3 : a2 < a1
  · have e3 : decide (a2 < a1) = true := decide_eq_true q3
    rw [if_pos (.inl q3)]
    repeat (first | refine go_on ?_ | simp only [go_sem, e3])
    refine tri_condT ?_
    try refine go_on ?_
    refine ⟨_, (by first | rfl | exact evd), .inl ?_⟩; (try simp only [go_sem, Nat.reduceAdd, Nat.reduceSub, Nat.reduceMul, Nat.reduceLT, Nat.reduceLeDiff, Nat.reduceEqDiff, reduceIte, Int.reduceToNat, Int.reduceLT, Int.reduceLE, Int.reduceEq, Int.reduceNeg, reduceCtorEq, Int.reduceBEq, Int.reduceBNe])
  have e3 : decide (a2 < a1) = false := decide_eq_false q3
  by_cases q4 : b2 < b1
  · have e4 : decide (b2 < b1) = true := decide_eq_true q4
    rw [if_pos (.inr q4)]
    repeat (first | refine go_on ?_ | simp only [go_sem, e3, e4])
    refine tri_condT ?_
    try refine go_on ?_
    refine ⟨_, (by first | rfl | exact evd), .inl ?_⟩; (try simp only [go_sem, Nat.reduceAdd, Nat.reduceSub, Nat.reduceMul, Nat.reduceLT, Nat.reduceLeDiff, Nat.reduceEqDiff, reduceIte, Int.reduceToNat, Int.reduceLT, Int.reduceLE, Int.reduceEq, Int.reduceNeg, reduceCtorEq, Int.reduceBEq, Int.reduceBNe])
  have e4 : decide (b2 < b1) = false := decide_eq_false q4
  rw [if_neg (fun h => h.elim q3 q4)]
  repeat (first | refine go_on ?_ | simp only [go_sem, e3, e4])
  refine tri_condF ?_
  try refine go_on ?_
  refine pcall sl ?_
  cases S with
  | false =>
    rw [if_pos (.inl rfl)]
    try refine go_on ?_
    refine tri_condT ?_
    try refine go_on ?_
    refine ⟨_, (by first | rfl | exact evd), .inl ?_⟩; (try simp only [go_sem, Nat.reduceAdd, Nat.reduceSub, Nat.reduceMul, Nat.reduceLT, Nat.reduceLeDiff, Nat.reduceEqDiff, reduceIte, Int.reduceToNat, Int.reduceLT, Int.reduceLE, Int.reduceEq, Int.reduceNeg, reduceCtorEq, Int.reduceBEq, Int.reduceBNe])
  | true =>
    try refine go_on ?_
    refine pcall cu ?_
    by_cases q5 : R = []
    · subst q5
      rw [if_pos rfl]
      try refine go_on ?_
      refine tri_condT ?_
      try refine go_on ?_
      refine ⟨_, (by first | rfl | exact evd), .inl ?_⟩; (try simp only [go_sem, Nat.reduceAdd, Nat.reduceSub, Nat.reduceMul, Nat.reduceLT, Nat.reduceLeDiff, Nat.reduceEqDiff, reduceIte, Int.reduceToNat, Int.reduceLT, Int.reduceLE, Int.reduceEq, Int.reduceNeg, reduceCtorEq, Int.reduceBEq, Int.reduceBNe])
    · have e5 : ((R.length : Int) == 0) = false := by
        rw [← Bool.not_eq_true, beq_iff_eq]
        have := List.length_pos_iff.2 q5
        omega
      rw [if_neg (by simp [q5])]
      repeat (first | refine go_on ?_ | simp only [go_sem, e5])
      refine tri_condF ?_
      try refine go_on ?_
      refine ⟨_, (by first | rfl | exact evd), .inl ?_⟩; (try simp only [go_sem, Nat.reduceAdd, Nat.reduceSub, Nat.reduceMul, Nat.reduceLT, Nat.reduceLeDiff, Nat.reduceEqDiff, reduceIte, Int.reduceToNat, Int.reduceLT, Int.reduceLE, Int.reduceEq, Int.reduceNeg, reduceCtorEq, Int.reduceBEq, Int.reduceBNe])
theorem valid_walk (x : Slg) (l m : List Int) (c d : Bool) (n : Int) (hx : x.fst.vals = .sl 1 c (nums .i64 l)) (hy : x.snd.vals = .sl 1 d (nums .i64 m)) (hl : l.length ≤ 100) (hm : m.length ≤ 100) :
    PC Try.prog 24 [.agg (slgC x), .int .i64 n] (.int .i64 (evE x l m n)) := by
  obtain ⟨⟨a1, a2, r1, v1⟩, ⟨b1, b2, r2, v2⟩⟩ := x
  dsimp only at hx hy
  subst hx hy
  have tl := valid_tail l m c d n a1 a2 b1 b2 r1 r2 hl hm
  have w1 := vlist_walk l c n (by omega)
  have w2 := vlist_walk m d n (by omega)
  refine PC.fact 8 f_equivocation_Validate (by simp) ⟨(PuL_slgC _).2 ⟨Pu_nums _ _, Pu_nums _ _⟩, trivial, trivial⟩ trivial ?_
  have hc : c_equivocation_Validate = .seq c_equivocation_Validate.hd (.seq (c_equivocation_Validate.tl 1).hd (c_equivocation_Validate.tl 2)) := rfl
  rw [hc]
  clear hc
  generalize c_equivocation_Validate.tl 2 = cT at *
  unfold c_equivocation_Validate evE
  simp only [ACode.tl, ACode.hd]
  try refine go_on ?_
  refine tri_unroll 3 (unr_s ?_)
  try refine go_on ?_
  refine tri_condT ?_
  try refine go_on ?_
  refine pcall w1 ?_
  by_cases q1 : vErr l n = 0
  case neg =>
    have e1 : (vErr l n != 0) = true := by rw [bne_iff_ne]; exact q1
    rw [if_pos q1]
    repeat (first | refine go_on ?_ | simp only [go_sem, e1])
    refine tri_condT ?_
    try refine go_on ?_
    refine ⟨_, (by first | rfl | exact evd), .inl ?_⟩; (try simp only [go_sem, Nat.reduceAdd, Nat.reduceSub, Nat.reduceMul, Nat.reduceLT, Nat.reduceLeDiff, Nat.reduceEqDiff, reduceIte, Int.reduceToNat, Int.reduceLT, Int.reduceLE, Int.reduceEq, Int.reduceNeg, reduceCtorEq, Int.reduceBEq, Int.reduceBNe])
  rw [if_neg (fun h => h q1), q1]
  try refine go_on ?_
  refine tri_condF ?_
  try refine go_on ?_
  refine unr_s ?_
  try refine go_on ?_
  refine tri_condT ?_
  try refine go_on ?_
  refine pcall w2 ?_
  by_cases q2 : vErr m n = 0
  case neg =>
    have e1 : (vErr m n != 0) = true := by rw [bne_iff_ne]; exact q2
    rw [if_pos q2]
    repeat (first | refine go_on ?_ | simp only [go_sem, e1])
    refine tri_condT ?_
    try refine go_on ?_
    refine ⟨_, (by first | rfl | exact evd), .inl ?_⟩; (try simp only [go_sem, Nat.reduceAdd, Nat.reduceSub, Nat.reduceMul, Nat.reduceLT, Nat.reduceLeDiff, Nat.reduceEqDiff, reduceIte, Int.reduceToNat, Int.reduceLT, Int.reduceLE, Int.reduceEq, Int.reduceNeg, reduceCtorEq, Int.reduceBEq, Int.reduceBNe])
  rw [if_neg (fun h => h q2), q2]
  try refine go_on ?_
  refine tri_condF ?_
  try refine go_on ?_
  refine unr_s ?_
  try refine go_on ?_
  refine tri_condF ?_
  refine tri_exit ?_
  simp only [go_sem]
  refine tri_gc ?_ (tl [])
  refine GC.mk' [] [0] (by simp) rfl (by simp) (by simp) evd evd
theorem pc_EquivocationEvidence (x : Slg) (hx : x.Ok) (n : Int) (hn : (Lit.int .i64 n).wf = true) : PC Try.prog 6 [.agg (slgC x), .int .i64 n] (.bool true) := by
  obtain ⟨l, hv1, hl1, hw1⟩ := hx.fst.vals
  obtain ⟨m, hv2, hl2, hw2⟩ := hx.snd.vals
  clear hx
  have k1 := fun h1 h2 => valid_walk x l m false false n hv1 hv2 h1 h2
  have k2 := fun h1 h2 => rvalid_walk x l m false false n hv1 hv2 h1 h2
  have k3 := fun h1 h2 => culp_walk x l m false false hv1 hv2 h1 h2
  have k4 := fun h1 h2 => rculp_walk x l m false false hv1 hv2 h1 h2
  have hR := culR_len l m l.length
  obtain ⟨⟨a1, a2, r1, v1⟩, ⟨b1, b2, r2, v2⟩⟩ := x
  dsimp only at hv1 hv2
  subst hv1 hv2
  refine PC.fact 5 f_law9_EquivocationEvidence (by simp) ⟨(PuL_slgC _).2 ⟨Pu_nums _ _, Pu_nums _ _⟩, trivial, trivial⟩ trivial ?_
  unfold c_law9_EquivocationEvidence
  by_cases q1 : l.length > 100
  · have e1 : decide ((l.length : Int) > 100) = true := decide_eq_true (by omega)
    repeat (first | refine go_on ?_ | simp only [go_sem, e1])
    refine tri_condT ?_
    try refine go_on ?_
    refine pcall awake9_walk ?_
    try refine go_on ?_
    refine ⟨_, (by first | rfl | exact evd), .inl ?_⟩; (try simp only [go_sem, Nat.reduceAdd, Nat.reduceSub, Nat.reduceMul, Nat.reduceLT, Nat.reduceLeDiff, Nat.reduceEqDiff, reduceIte, Int.reduceToNat, Int.reduceLT, Int.reduceLE, Int.reduceEq, Int.reduceNeg, reduceCtorEq, Int.reduceBEq, Int.reduceBNe])
  have e1 : decide ((l.length : Int) > 100) = false := decide_eq_false (by omega)
  by_cases q2 : m.length > 100
  · have e2 : decide ((m.length : Int) > 100) = true := decide_eq_true (by omega)
    repeat (first | refine go_on ?_ | simp only [go_sem, e1, e2])
    refine tri_condT ?_
    try refine go_on ?_
    refine pcall awake9_walk ?_
    try refine go_on ?_
    refine ⟨_, (by first | rfl | exact evd), .inl ?_⟩; (try simp only [go_sem, Nat.reduceAdd, Nat.reduceSub, Nat.reduceMul, Nat.reduceLT, Nat.reduceLeDiff, Nat.reduceEqDiff, reduceIte, Int.reduceToNat, Int.reduceLT, Int.reduceLE, Int.reduceEq, Int.reduceNeg, reduceCtorEq, Int.reduceBEq, Int.reduceBNe])
  have e2 : decide ((m.length : Int) > 100) = false := decide_eq_false (by omega)
  replace k1 := k1 (by omega) (by omega)
  replace k2 := k2 (by omega) (by omega)
  replace k3 := k3 (by omega) (by omega)
  replace k4 := k4 (by omega) (by omega)
  generalize evE ⟨⟨a1, a2, r1, .sl 1 false (nums .i64 l)⟩, ⟨b1, b2, r2, .sl 1 false (nums .i64 m)⟩⟩ l m n = E at *
  generalize culR l m l.length = R at *
  have ks := same_int_walk R R false false (by omega) (by omega)
  rw [decide_eq_true rfl] at ks
  repeat (first | refine go_on ?_ | simp only [go_sem, e1, e2])
  refine tri_condF ?_
  try refine go_on ?_
  refine dpcall (k1) ?_
  try refine go_on ?_
  refine dpcall (k2) ?_
  try refine go_on ?_
  refine dpcall (k3) ?_
  try refine go_on ?_
  refine dpcall (k4) ?_
  try refine go_on ?_
  refine dpcall (ks) ?_
  try refine go_on ?_
  refine dpcall (awake9_walk) ?_
  try refine go_on ?_
  refine ⟨_, (by first | rfl | exact evd), .inl ?_⟩; (try simp only [go_sem, Nat.reduceAdd, Nat.reduceSub, Nat.reduceMul, Nat.reduceLT, Nat.reduceLeDiff, Nat.reduceEqDiff, reduceIte, Int.reduceToNat, Int.reduceLT, Int.reduceLE, Int.reduceEq, Int.reduceNeg, reduceCtorEq, Int.reduceBEq, Int.reduceBNe])
end Go.Proofs.Ytdkahoohedljhaa
