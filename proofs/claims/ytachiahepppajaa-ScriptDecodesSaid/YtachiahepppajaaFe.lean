/-
  The laws RecordsAttestations, RecordsSlashings.
-/
import Derived.Test.YtachiahepppajaaFb
namespace Go.Proofs.Ytachiahepppajaa
open Go Go.FH Go.RowKit
set_option linter.unusedVariables false
set_option linter.unusedSimpArgs false

theorem U64.of {n : Int} (h : (Lit.int .u64 n).wf = true) : U64 n := ⟨(bounds_u64 h).1, by have := (bounds_u64 h).2; omega⟩
theorem small_walk (l m : List Int) (c d : Bool) : PC Try.prog 45 [.sl 1 c (nums .i64 l), .sl 1 d (nums .i64 m)] (.bool (decide (l.length ≤ 300 ∧ m.length ≤ 300))) := by
  refine PC.fact 5 f_law5_small (by simp) ⟨Pu_nums _ _, Pu_nums _ _, trivial⟩ trivial ?_
  unfold c_law5_small
  by_cases h1 : l.length ≤ 300
  · have e1 : decide ((l.length : Int) ≤ 300) = true := by rw [decide_eq_true_eq]; omega
    by_cases h2 : m.length ≤ 300
    · have e2 : decide ((m.length : Int) ≤ 300) = true := by rw [decide_eq_true_eq]; omega
      rw [decide_eq_true (⟨h1, h2⟩ : l.length ≤ 300 ∧ m.length ≤ 300)]
      repeat (first | refine go_on ?_ | simp only [go_sem, e1, e2])
      refine ⟨_, (by first | rfl | exact evd), .inl ?_⟩; (try simp only [go_sem, Nat.reduceAdd, Nat.reduceSub, Nat.reduceMul, Nat.reduceLT, Nat.reduceLeDiff, Nat.reduceEqDiff, reduceIte, Int.reduceToNat, Int.reduceLT, Int.reduceLE, Int.reduceEq, Int.reduceNeg, reduceCtorEq, Int.reduceBEq, Int.reduceBNe])
    · have e2 : decide ((m.length : Int) ≤ 300) = false := by rw [decide_eq_false_iff_not]; omega
      rw [decide_eq_false (fun hh : l.length ≤ 300 ∧ m.length ≤ 300 => h2 hh.2)]
      repeat (first | refine go_on ?_ | simp only [go_sem, e1, e2])
      refine ⟨_, (by first | rfl | exact evd), .inl ?_⟩; (try simp only [go_sem, Nat.reduceAdd, Nat.reduceSub, Nat.reduceMul, Nat.reduceLT, Nat.reduceLeDiff, Nat.reduceEqDiff, reduceIte, Int.reduceToNat, Int.reduceLT, Int.reduceLE, Int.reduceEq, Int.reduceNeg, reduceCtorEq, Int.reduceBEq, Int.reduceBNe])
  · have e1 : decide ((l.length : Int) ≤ 300) = false := by rw [decide_eq_false_iff_not]; omega
    rw [decide_eq_false (fun hh : l.length ≤ 300 ∧ m.length ≤ 300 => h1 hh.1)]
    repeat (first | refine go_on ?_ | simp only [go_sem, e1])
    refine ⟨_, (by first | rfl | exact evd), .inl ?_⟩; (try simp only [go_sem, Nat.reduceAdd, Nat.reduceSub, Nat.reduceMul, Nat.reduceLT, Nat.reduceLeDiff, Nat.reduceEqDiff, reduceIte, Int.reduceToNat, Int.reduceLT, Int.reduceLE, Int.reduceEq, Int.reduceNeg, reduceCtorEq, Int.reduceBEq, Int.reduceBNe])

theorem pc_RecordsAttestations (x : Att) (hx : x.Ok) : PC Try.prog 9 [.agg (attC x)] (.bool true) := by
  obtain ⟨l, hv, hl, hw⟩ := hx.vals
  have u1 := U64.of hx.slot
  have u2 := U64.of hx.target.ep
  have hg : x.good = true := by rw [Att.good, hv]; rfl
  have k0 := small_walk l [] false true
  refine PC.fact 10 f_law5_RecordsAttestations (by simp) ⟨(PuL_attC x).2 (by rw [Att.Pure, hv]; exact Pu_nums _ _), trivial⟩ trivial ?_
  unfold c_law5_RecordsAttestations
  by_cases h : l.length ≤ 300
  · rw [decide_eq_true (⟨h, by simp⟩ : l.length ≤ 300 ∧ ([] : List Int).length ≤ 300)] at k0
    have k1 := renc_att x l false hv (by omega) u1 u2
    have k2 := senc_att x l false hv (by omega) u1 u2
    repeat (first | refine go_on ?_ | simp only [go_sem, hg, hv])
    refine pcallw (k0) (by repeat (first | exact trivial | (refine ⟨Wk.refl _, ?_⟩) | (refine ⟨Wk.empty 0 1 _, ?_⟩))) (by simp [PuL, Pu, PuLL, Pu_bts, Pu_nums]) ?_
    try refine go_on ?_
    refine tri_condF ?_
    by_cases he : vErr l 1024 = 0
    · have hlen : (aenc x l).length ≤ 20000 := by
        have q1 := u1.len
        have q2 := cenc_le u2
        have q3 := lenc_le he
        have q4 := x.root.2
        simp only [aenc, List.length_append]; omega
      have k3 := rdec_att (aenc x l) (by omega)
      rw [rAtt_full x l u1 u2 he] at k3
      simp only [decA, ne_eq, not_true_eq_false, if_false, he, if_true, List.length_nil, Nat.sub_zero] at k3
      rw [if_pos he, he] at k1 k2
      have k4 := same_att x (attL (x.slot, x.root, x.target, l)) l l false false hv rfl (by omega) (by omega)
      rw [decide_eq_true (⟨rfl, rfl, rfl, rfl⟩ : x.slot = (attL (x.slot, x.root, x.target, l)).slot ∧ x.root = (attL (x.slot, x.root, x.target, l)).root ∧ x.target = (attL (x.slot, x.root, x.target, l)).target ∧ l = l)] at k4
      have gy : (attL (x.slot, x.root, x.target, l)).good = true := rfl
      generalize attL (x.slot, x.root, x.target, l) = y at *
      repeat (first | refine go_on ?_ | simp only [go_sem, hg])
      refine pcall k1 ?_
      repeat (first | refine go_on ?_ | simp only [go_sem, hg])
      refine pcall k2 ?_
      try refine go_on ?_
      refine tri_condF ?_
      try refine go_on ?_
      refine tri_condF ?_
      try refine go_on ?_
      refine pcall k3 ?_
      repeat (first | refine go_on ?_ | simp only [go_sem, gy, hg])
      refine pcall k4 ?_
      try refine go_on ?_
      refine pcall awake5_walk ?_
      try refine go_on ?_
      refine ⟨_, (by first | rfl | exact evd), .inl ?_⟩; (try simp only [go_sem, Nat.reduceAdd, Nat.reduceSub, Nat.reduceMul, Nat.reduceLT, Nat.reduceLeDiff, Nat.reduceEqDiff, reduceIte, Int.reduceToNat, Int.reduceLT, Int.reduceLE, Int.reduceEq, Int.reduceNeg, reduceCtorEq, Int.reduceBEq, Int.reduceBNe])
    · have he' : (vErr l 1024 != 0) = true := by simpa using he
      repeat (first | refine go_on ?_ | simp only [go_sem, hg])
      refine pcall k1 ?_
      repeat (first | refine go_on ?_ | simp only [go_sem, hg])
      refine pcall k2 ?_
      try refine go_on ?_
      refine tri_condF ?_
      try refine go_on ?_
      refine tri_condT ?_ (by (try simp only [go_sem, he']); try exact evd)
      try refine go_on ?_
      refine pcall awake5_walk ?_
      try refine go_on ?_
      refine ⟨_, (by first | rfl | exact evd), .inl ?_⟩; (try simp only [go_sem, Nat.reduceAdd, Nat.reduceSub, Nat.reduceMul, Nat.reduceLT, Nat.reduceLeDiff, Nat.reduceEqDiff, reduceIte, Int.reduceToNat, Int.reduceLT, Int.reduceLE, Int.reduceEq, Int.reduceNeg, reduceCtorEq, Int.reduceBEq, Int.reduceBNe])
  · rw [decide_eq_false (fun hh : l.length ≤ 300 ∧ ([] : List Int).length ≤ 300 => h hh.1)] at k0
    repeat (first | refine go_on ?_ | simp only [go_sem, hg, hv])
    refine pcallw (k0) (by repeat (first | exact trivial | (refine ⟨Wk.refl _, ?_⟩) | (refine ⟨Wk.empty 0 1 _, ?_⟩))) (by simp [PuL, Pu, PuLL, Pu_bts, Pu_nums]) ?_
    try refine go_on ?_
    refine tri_condT ?_
    try refine go_on ?_
    refine pcall awake5_walk ?_
    try refine go_on ?_
    refine ⟨_, (by first | rfl | exact evd), .inl ?_⟩; (try simp only [go_sem, Nat.reduceAdd, Nat.reduceSub, Nat.reduceMul, Nat.reduceLT, Nat.reduceLeDiff, Nat.reduceEqDiff, reduceIte, Int.reduceToNat, Int.reduceLT, Int.reduceLE, Int.reduceEq, Int.reduceNeg, reduceCtorEq, Int.reduceBEq, Int.reduceBNe])

theorem pc_RecordsSlashings (x : Slg) (hx : x.Ok) : PC Try.prog 11 [.agg (slgC x)] (.bool true) := by
  obtain ⟨l, hv, hl, hw⟩ := hx.fst.vals
  obtain ⟨m, hv2, hl2, hw2⟩ := hx.snd.vals
  have g1 : x.fst.good = true := by rw [Clm.good, hv]; rfl
  have g2 : x.snd.good = true := by rw [Clm.good, hv2]; rfl
  have p1 : x.fst.Pure := by rw [Clm.Pure, hv]; exact Pu_nums _ _
  have p2 : x.snd.Pure := by rw [Clm.Pure, hv2]; exact Pu_nums _ _
  have hg : x.good = true := by rw [Slg.good, g1, g2]; rfl
  have k0 := small_walk l m false false
  refine PC.fact 10 f_law5_RecordsSlashings (by simp) ⟨(PuL_slgC x).2 ⟨p1, p2⟩, trivial⟩ trivial ?_
  unfold c_law5_RecordsSlashings
  by_cases h : l.length ≤ 300 ∧ m.length ≤ 300
  · rw [decide_eq_true h] at k0
    have u1 : ClmU x.fst l false := ⟨U64.of hx.fst.src, U64.of hx.fst.tgt, hv, by omega⟩
    have u2 : ClmU x.snd m false := ⟨U64.of hx.snd.src, U64.of hx.snd.tgt, hv2, by omega⟩
    have k1 := renc_slg x l m false false u1 u2
    have k2 := senc_slg x l m false false u1 u2
    repeat (first | refine go_on ?_ | simp only [go_sem, hg, g1, g2, hv, hv2])
    refine pcall k0 ?_
    try refine go_on ?_
    refine tri_condF ?_
    by_cases he : slErr l m = 0
    · have e1 : vErr l 1024 = 0 := by
        unfold slErr at he
        split at he
        · assumption
        · contradiction
      have e2 : vErr m 1024 = 0 := by
        unfold slErr at he
        rwa [if_pos e1] at he
      have hlen : (slenc x l m).length ≤ 30000 := by
        have q1 := clenc_le u1 e1
        have q2 := clenc_le u2 e2
        simp only [slenc, List.length_append]; omega
      have k3 := rdec_slg (slenc x l m) (by omega)
      rw [rSlg_full u1 u2 e1 e2] at k3
      simp only [decS, ne_eq, not_true_eq_false, if_false, e1, e2, and_self, if_true, List.length_nil, Nat.sub_zero] at k3
      rw [if_pos he, he] at k1 k2
      have k4 := same_slg x (slgL ((x.fst.src, x.fst.tgt, x.fst.root, l), (x.snd.src, x.snd.tgt, x.snd.root, m))) l m l m false false false false hv hv2 rfl rfl (by omega) (by omega) (by omega) (by omega)
      rw [decide_eq_true (⟨rfl, rfl, rfl, rfl⟩ : x.fst.src = (slgL ((x.fst.src, x.fst.tgt, x.fst.root, l), (x.snd.src, x.snd.tgt, x.snd.root, m))).fst.src ∧ x.fst.tgt = (slgL ((x.fst.src, x.fst.tgt, x.fst.root, l), (x.snd.src, x.snd.tgt, x.snd.root, m))).fst.tgt ∧ x.fst.root = (slgL ((x.fst.src, x.fst.tgt, x.fst.root, l), (x.snd.src, x.snd.tgt, x.snd.root, m))).fst.root ∧ l = l),
        decide_eq_true (⟨rfl, rfl, rfl, rfl⟩ : x.snd.src = (slgL ((x.fst.src, x.fst.tgt, x.fst.root, l), (x.snd.src, x.snd.tgt, x.snd.root, m))).snd.src ∧ x.snd.tgt = (slgL ((x.fst.src, x.fst.tgt, x.fst.root, l), (x.snd.src, x.snd.tgt, x.snd.root, m))).snd.tgt ∧ x.snd.root = (slgL ((x.fst.src, x.fst.tgt, x.fst.root, l), (x.snd.src, x.snd.tgt, x.snd.root, m))).snd.root ∧ m = m)] at k4
      have gy : (slgL ((x.fst.src, x.fst.tgt, x.fst.root, l), (x.snd.src, x.snd.tgt, x.snd.root, m))).good = true := rfl
      generalize slgL ((x.fst.src, x.fst.tgt, x.fst.root, l), (x.snd.src, x.snd.tgt, x.snd.root, m)) = y at *
      repeat (first | refine go_on ?_ | simp only [go_sem, hg])
      refine pcall k1 ?_
      repeat (first | refine go_on ?_ | simp only [go_sem, hg])
      refine pcall k2 ?_
      try refine go_on ?_
      refine tri_condF ?_
      try refine go_on ?_
      refine tri_condF ?_
      try refine go_on ?_
      refine pcall k3 ?_
      repeat (first | refine go_on ?_ | simp only [go_sem, gy, hg])
      refine pcall k4 ?_
      try refine go_on ?_
      refine pcall awake5_walk ?_
      try refine go_on ?_
      refine ⟨_, (by first | rfl | exact evd), .inl ?_⟩; (try simp only [go_sem, Nat.reduceAdd, Nat.reduceSub, Nat.reduceMul, Nat.reduceLT, Nat.reduceLeDiff, Nat.reduceEqDiff, reduceIte, Int.reduceToNat, Int.reduceLT, Int.reduceLE, Int.reduceEq, Int.reduceNeg, reduceCtorEq, Int.reduceBEq, Int.reduceBNe])
    · have he' : (slErr l m != 0) = true := by simpa using he
      repeat (first | refine go_on ?_ | simp only [go_sem, hg])
      refine pcall k1 ?_
      repeat (first | refine go_on ?_ | simp only [go_sem, hg])
      refine pcall k2 ?_
      try refine go_on ?_
      refine tri_condF ?_
      try refine go_on ?_
      refine tri_condT ?_ (by (try simp only [go_sem, he']); try exact evd)
      try refine go_on ?_
      refine pcall awake5_walk ?_
      try refine go_on ?_
      refine ⟨_, (by first | rfl | exact evd), .inl ?_⟩; (try simp only [go_sem, Nat.reduceAdd, Nat.reduceSub, Nat.reduceMul, Nat.reduceLT, Nat.reduceLeDiff, Nat.reduceEqDiff, reduceIte, Int.reduceToNat, Int.reduceLT, Int.reduceLE, Int.reduceEq, Int.reduceNeg, reduceCtorEq, Int.reduceBEq, Int.reduceBNe])
  · rw [decide_eq_false h] at k0
    repeat (first | refine go_on ?_ | simp only [go_sem, hg, g1, g2, hv, hv2])
    refine pcall k0 ?_
    try refine go_on ?_
    refine tri_condT ?_
    try refine go_on ?_
    refine pcall awake5_walk ?_
    try refine go_on ?_
    refine ⟨_, (by first | rfl | exact evd), .inl ?_⟩; (try simp only [go_sem, Nat.reduceAdd, Nat.reduceSub, Nat.reduceMul, Nat.reduceLT, Nat.reduceLeDiff, Nat.reduceEqDiff, reduceIte, Int.reduceToNat, Int.reduceLT, Int.reduceLE, Int.reduceEq, Int.reduceNeg, reduceCtorEq, Int.reduceBEq, Int.reduceBNe])
end Go.Proofs.Ytachiahepppajaa
