/-
  Operations: a script is decoded.
-/
import Derived.Test.YtachiahepppajabGi
namespace Go.Proofs.Ytachiahepppajab
open Go Go.FH Go.RowKit
set_option linter.unusedVariables false
set_option linter.unusedSimpArgs false

theorem ops_one (x : OpV) : ops [x] = [sOpC (opL x)] := rfl
attribute [go_sem] ops_one
theorem tkl_suf (b : List UInt8) (k : Nat) (e : Int) : tkl b k e <:+ b := by
  unfold tkl
  split
  · exact List.drop_suffix _ _
  · exact List.suffix_refl _
theorem rOp_suf (b : List UInt8) : (rOp b).2.1 <:+ b := by
  have h1 := rUint_suf b 0 8
  have h2 := rUint_suf (rUint b 0 8).2.1 0 32768
  have h3 := rUint_suf (rUint (rUint b 0 8).2.1 0 32768).2.1 (rUint (rUint b 0 8).2.1 0 32768).2.2 32768
  unfold rOp
  dsimp only
  (repeat' split) <;> first | exact h1 | exact (tkl_suf _ _ _).trans h1 | exact h3.trans (h2.trans h1)

/-- What is read from the bytes b behind the operations l: the operations, what is left, what is wrong. -/
def dFrom (l : List OpV) (b : List UInt8) : List OpV × List UInt8 × Int :=
  if b = [] then (l, b, 0) else if 4096 ≤ l.length then (l, b, 11) else if (rOp b).2.2 ≠ 0 then (l, b, (rOp b).2.2) else dFrom (l ++ [(rOp b).1]) (rOp b).2.1
termination_by 4096 - l.length
decreasing_by rw [List.length_append]; simp only [List.length_cons, List.length_nil]; omega

set_option maxRecDepth 100000 in
set_option maxHeartbeats 4000000 in
theorem rdecode_walk (b : List UInt8) (hb : b.length ≤ 140737488355328) :
    PC Try.prog 11 [.sl 1 false (bts b)] (.tup [.sl 446 false (ops (dFrom [] b).1), .int .i64 ((b.length - (dFrom [] b).2.1.length : Nat) : Int), .int .i64 (dFrom [] b).2.2]) := by
  refine PC.fact 8 f_script_decode (by simp) ⟨Pu_bts b, trivial⟩ ⟨Pu_ops _, trivial, trivial, trivial⟩ ?_
  unfold c_script_decode
  generalize hR : dFrom [] b = R
  try refine go_on ?_
  refine ocall [] (rawNew_walk b) evd (Picks.mk' (by simp) evd) ?_; refine evg ?_
  try refine go_on ?_
  refine tri_loopG (fun x : Bool × List OpV × List UInt8 => ⟨8, [.sl 1 false (bts b), .dead, if x.1 then .hs 446 1 0 x.2.1.length else .sl 0 true [], .int .i64 ((b.length - x.2.2.length : Nat) : Int), .int .i64 0, .ptr 0 0, .dead, .dead], []⟩)
    (fun x => if x.1 then [rdr false x.2.2 0, .vec 446 (ops x.2.1)] else [rdr false x.2.2 0]) (fun x => 4096 - x.2.1.length)
    (fun x => x.2.1.length ≤ 4096 ∧ (x.1 = false → x.2.1 = []) ∧ x.2.2 <:+ b ∧ dFrom x.2.1 x.2.2 = R) (false, [], b) ⟨by simp, by simp, List.suffix_refl _, hR⟩ ?_ ?_
  · simp only [Nat.sub_self]
    refine GC.mk' [] [0] (by simp) rfl (by simp) (by simp) evd evd
  rintro ⟨st, l, bs⟩ ⟨i1, i2, i3, i4⟩
  dsimp only at i1 i2 i3 i4 ⊢
  have hle := i3.length_le
  rw [dFrom] at i4
  have cr := rest_walk bs false 0
  by_cases h0 : bs = []
  · subst h0
    rw [if_pos rfl] at i4
    subst i4
    dsimp only
    cases st
    · obtain rfl := i2 rfl
      try refine go_on ?_
      refine ocall [0] (cr) evd (Picks.mk' (by simp) evd) ?_; refine evg ?_
      try refine go_on ?_
      refine tri_condF ?_
      try refine go_on ?_
      refine ⟨_, (by first | rfl | exact evd), .inr ⟨.tup [.sl 0 true [], .int .i64 ((b.length : Nat) : Int), .int .i64 0], evd, ⟨trivial, trivial, trivial, trivial⟩, Wk.tup ⟨Wk.empty _ _ _, Wk.refl _, Wk.refl _, trivial⟩⟩⟩
    · try refine go_on ?_
      refine ocall [0] (cr) evd (Picks.mk' (by simp) evd) ?_; refine evg ?_
      try refine go_on ?_
      refine tri_condF ?_
      try refine go_on ?_
      refine ⟨_, (by first | rfl | exact evd), .inl ?_⟩; (try simp only [go_sem, Nat.reduceAdd, Nat.reduceSub, Nat.reduceMul, Nat.reduceLT, Nat.reduceLeDiff, Nat.reduceEqDiff, reduceIte, Int.reduceToNat, Int.reduceLT, Int.reduceLE, Int.reduceEq, Int.reduceNeg, reduceCtorEq, Int.reduceBEq, Int.reduceBNe])
  rw [if_neg h0] at i4
  have hp : 0 < bs.length := List.length_pos_iff.2 h0
  have dp : decide (0 < (bs.length : Int)) = true := by rw [decide_eq_true_eq]; omega
  by_cases h1 : 4096 ≤ l.length
  · rw [if_pos h1] at i4
    subst i4
    dsimp only
    have e4 : ((l.length : Int) == 4096) = true := by rw [beq_iff_eq]; omega
    cases st
    · obtain rfl := i2 rfl
      simp at h1
    · try refine go_on ?_
      refine ocall [0] (cr) evd (Picks.mk' (by simp) evd) ?_; refine evg ?_
      try refine go_on ?_
      refine tri_condT ?_ (by (try simp only [go_sem, dp]); try exact evd)
      try refine go_on ?_
      refine tri_condT ?_ (by (try simp only [go_sem, e4]); try exact evd)
      try refine go_on ?_
      refine ⟨_, (by first | rfl | exact evd), .inl ?_⟩; (try simp only [go_sem, Nat.reduceAdd, Nat.reduceSub, Nat.reduceMul, Nat.reduceLT, Nat.reduceLeDiff, Nat.reduceEqDiff, reduceIte, Int.reduceToNat, Int.reduceLT, Int.reduceLE, Int.reduceEq, Int.reduceNeg, reduceCtorEq, Int.reduceBEq, Int.reduceBNe])
  rw [if_neg h1] at i4
  have e4 : ((l.length : Int) == 4096) = false := by rw [beq_eq_false_iff_ne]; omega
  have co := rop_walk bs (by omega)
  have hs := rOp_suf bs
  generalize rOp bs = X at *
  obtain ⟨x, b2, e⟩ := X
  dsimp only at co hs i4
  by_cases he : e = 0
  · subst he
    rw [if_neg (by simp)] at i4
    have hl2 := hs.length_le
    have cr2 := rest_walk b2 false 0
    have hw : IntKind.i64.wrap ((b.length : Int) - (b2.length : Int)) = ((b.length - b2.length : Nat) : Int) := by rw [wrap_i64_in (by omega) (by omega)]; omega
    cases st
    · obtain rfl := i2 rfl
      try refine go_on ?_
      refine ocall [0] (cr) evd (Picks.mk' (by simp) evd) ?_; refine evg ?_
      try refine go_on ?_
      refine tri_condT ?_ (by (try simp only [go_sem, dp]); try exact evd)
      try refine go_on ?_
      refine tri_condF ?_ (by (try simp only [go_sem, e4]); try exact evd)
      try refine go_on ?_
      refine ocall [0] (co) evd (Picks.mk' (by simp) evd) ?_; refine evg ?_
      try refine go_on ?_
      refine tri_condF ?_
      try refine go_on ?_
      refine ocall [0] (cr2) evd (Picks.mk' (by simp) evd) ?_; refine evg ?_
      repeat (first | refine go_on ?_ | simp only [go_sem, hw])
      refine ⟨(true, [] ++ [x], b2), ⟨by simp, by simp, hs.trans i3, i4⟩, by simp only [List.length_append, List.length_cons, List.length_nil] at h1 ⊢; omega, ?_⟩
      refine GC.mk' [] [0, 2] (by simp) rfl (by simp) (by simp) evd evd
    · try refine go_on ?_
      refine ocall [0] (cr) evd (Picks.mk' (by simp) evd) ?_; refine evg ?_
      try refine go_on ?_
      refine tri_condT ?_ (by (try simp only [go_sem, dp]); try exact evd)
      try refine go_on ?_
      refine tri_condF ?_ (by (try simp only [go_sem, e4]); try exact evd)
      try refine go_on ?_
      refine ocall [0] (co) evd (Picks.mk' (by simp) evd) ?_; refine evg ?_
      try refine go_on ?_
      refine tri_condF ?_
      try refine go_on ?_
      refine ocall [0] (cr2) evd (Picks.mk' (by simp) evd) ?_; refine evg ?_
      repeat (first | refine go_on ?_ | simp only [go_sem, hw])
      refine ⟨(true, l ++ [x], b2), ⟨by simp only [List.length_append, List.length_cons, List.length_nil]; omega, by simp, hs.trans i3, i4⟩, by simp only [List.length_append, List.length_cons, List.length_nil]; omega, ?_⟩
      refine GC.mk' [] [0, 3] (by simp) rfl (by simp) (by simp) evd evd
  · have he' : (e != 0) = true := by simpa using he
    rw [if_pos he] at i4
    subst i4
    dsimp only
    cases st
    · obtain rfl := i2 rfl
      try refine go_on ?_
      refine ocall [0] (cr) evd (Picks.mk' (by simp) evd) ?_; refine evg ?_
      try refine go_on ?_
      refine tri_condT ?_ (by (try simp only [go_sem, dp]); try exact evd)
      try refine go_on ?_
      refine tri_condF ?_ (by (try simp only [go_sem, e4]); try exact evd)
      try refine go_on ?_
      refine ocall [0] (co) evd (Picks.mk' (by simp) evd) ?_; refine evg ?_
      try refine go_on ?_
      refine tri_condT ?_ (by (try simp only [go_sem, he']); try exact evd)
      try refine go_on ?_
      refine ⟨_, (by first | rfl | exact evd), .inr ⟨.tup [.sl 0 true [], .int .i64 ((b.length - bs.length : Nat) : Int), .int .i64 e], evd, ⟨trivial, trivial, trivial, trivial⟩, Wk.tup ⟨Wk.empty _ _ _, Wk.refl _, Wk.refl _, trivial⟩⟩⟩
    · try refine go_on ?_
      refine ocall [0] (cr) evd (Picks.mk' (by simp) evd) ?_; refine evg ?_
      try refine go_on ?_
      refine tri_condT ?_ (by (try simp only [go_sem, dp]); try exact evd)
      try refine go_on ?_
      refine tri_condF ?_ (by (try simp only [go_sem, e4]); try exact evd)
      try refine go_on ?_
      refine ocall [0] (co) evd (Picks.mk' (by simp) evd) ?_; refine evg ?_
      try refine go_on ?_
      refine tri_condT ?_ (by (try simp only [go_sem, he']); try exact evd)
      try refine go_on ?_
      refine ⟨_, (by first | rfl | exact evd), .inl ?_⟩; (try simp only [go_sem, Nat.reduceAdd, Nat.reduceSub, Nat.reduceMul, Nat.reduceLT, Nat.reduceLeDiff, Nat.reduceEqDiff, reduceIte, Int.reduceToNat, Int.reduceLT, Int.reduceLE, Int.reduceEq, Int.reduceNeg, reduceCtorEq, Int.reduceBEq, Int.reduceBNe])
end Go.Proofs.Ytachiahepppajab
