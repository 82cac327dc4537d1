/-
  The law DevicePlays: a round that writes.
-/
import Derived.Test.YtdkahoohedljhaaHe
namespace Go.Proofs.Ytdkahoohedljhaa
open Go Go.FH Go.RowKit
set_option linter.unusedVariables false
set_option linter.unusedSimpArgs false

theorem u8_wrap (z : Int) : ∃ u : UInt8, IntKind.u8.wrap z = (u.toNat : Int) := by
  have h : 0 ≤ IntKind.u8.wrap z ∧ IntKind.u8.wrap z < 256 := by
    simp only [IntKind.wrap, IntKind.signed, IntKind.bits]
    simp
    omega
  refine ⟨UInt8.ofNat (IntKind.u8.wrap z).toNat, ?_⟩
  rw [UInt8.toNat_ofNat', Nat.mod_eq_of_lt (by omega)]
  omega
def c_dp_write : ACode := (((c_dp_switch.tl 1).els.tl 1).els.tl 1).els
set_option maxHeartbeats 1600000 in
theorem dp_write (ns : List Int) (S i : Nat) (x : PX) (K A : Int) (n : Nat) (ts : List (Nat × AV)) (hS : S ≤ 8) (hx : x.ok S i) (hi : i ≤ 100) (hn : n ≤ 255) (hA : -2 ≤ A) (hA2 : A ≤ 100) (Q : Ex → Fr → St → Prop) (hQ : ∀ (x' : PX) fr σ, x'.ok S (i + 1) → GC 0 fr σ (x'.fr ns S i) x'.st → Q .normal fr σ) :
    Tri Try.prog 236 0 c_dp_write Q ⟨23, [.sl 1 false (nums .i64 ns), .int .i64 S, .dead, .dead, .bool false, .ptr 1 0, .int .i64 0, .sl 1 false (bts x.B), .bool x.c, .ptr 2 0, .int .i64 i, .int .i64 K, .int .i64 A, .int .i64 n, .dead, .dead, .dead, .dead, .dead, .dead, .dead, .dead, .dead], ts⟩ x.st := by
  obtain ⟨B, c, p, w, k, wr⟩ := x
  obtain ⟨h1, h2, h3, h4, h5, h6⟩ := hx
  dsimp only [PX.fr, PX.st] at *
  unfold c_dp_write c_dp_switch c_dp_body c_law31_DevicePlays
  simp only [ACode.tl, ACode.hd, ACode.inner, ACode.els]
  try refine go_on ?_
  refine tri_loopG (fun x : Nat × List UInt8 => ⟨23, [.sl 1 false (nums .i64 ns), .int .i64 S, .dead, .dead, .bool false, .ptr 1 0, .int .i64 0, .sl 1 false (bts B), .bool c, .ptr 2 0, .int .i64 i, .int .i64 K, .int .i64 A, .int .i64 n, .dead, .dead, .dead, .dead, .dead, .hs 1 3 0 n, .int .i64 x.1, .dead, .dead], []⟩) (fun x => [.vec 1 (bts B), dvo 0 B.length c p w k, .var [.bool p, .int .i64 wr, .int .i64 k], .vec 1 (bts x.2)]) (fun x => n - x.1) (fun x => x.1 ≤ n ∧ x.2.length = n) (0, zr n) ⟨Nat.zero_le _, length_zr n⟩ ?_ ?_
  · refine GC.mk' [] [0, 1, 2, 3] (by simp) rfl (by simp) (by simp) evd evd
  rintro ⟨j, L⟩ ⟨g1, g2⟩
  dsimp only at g1 g2 ⊢
  try refine go_on ?_
  refine tri_cond evd (fun h => ?_) (fun h => ?_)
  · have h1 : j < n := by simp at h; omega
    obtain ⟨u, hu⟩ := u8_wrap (IntKind.i64.wrap (ishr .i64 K 4 + j))
    have hw := wrap_i64_succ h1 (by omega)
    have hg : ∃ y : UInt8, (bts L).getD j [] = [.int .u8 (y.toNat : Int)] := ⟨_, getD_bts (by omega)⟩
    obtain ⟨y, hy⟩ := hg
    repeat (first | refine go_on ?_ | simp only [go_sem, hu, hw, hy, g2, Nat.mul_one, bts_set])
    refine ⟨(j + 1, L.set j u), ⟨by dsimp only; omega, by simp [g2]⟩, by dsimp only; omega, ?_⟩
    refine GC.mk' [] [0, 1, 2, 3] (by simp) rfl (by simp) (by simp) evd evd
  have hj : j = n := by simp at h; omega
  subst hj
  refine tri_fz [3] ?_
  have ht : List.take j L = L := List.take_of_length_le (by omega)
  simp only [evZ, fzSt]; (try simp only [go_sem, Nat.reduceAdd, Nat.reduceSub, Nat.reduceMul, Nat.reduceLT, Nat.reduceLeDiff, Nat.reduceEqDiff, reduceIte, Int.reduceToNat, Int.reduceLT, Int.reduceLE, Int.reduceEq, Int.reduceNeg, reduceCtorEq, Int.reduceBEq, Int.reduceBNe, g2, ht])
  have q1 : IntKind.i64.wrap ((j : Int) + 64) = ((j + 64 : Nat) : Int) := by rw [wrap_i64_in (by omega) (by omega)]; omega
  have q2 : IntKind.i64.wrap (((j + 64 : Nat) : Int) - 1) = ((j + 63 : Nat) : Int) := by rw [wrap_i64_in (by omega) (by omega)]; omega
  have q3 : IntKind.i64.wrap (((j + 63 : Nat) : Int).tdiv 64) = ((need j : Nat) : Int) := quo64 (by omega)
  have hq : S * 64 / 64 = S := by omega
  have hl : need j ≤ 5 := by unfold need; omega
  repeat (first | refine go_on ?_ | simp only [go_sem, q1, q2, q3])
  cases c with
  | true =>
    refine ocall [0, 1] (write_crash B p w k A L false) evd (Picks.mk' (by simp) evd) ?_; refine evg ?_
    try refine go_on ?_
    refine tri_condT ?_
    try refine go_on ?_
    refine tri_condF ?_
    refine tri_skip ?_
    simp only [go_sem]
    refine hQ ⟨B, true, p, w, k, wr⟩ _ _ ⟨h1, h2, h3, h4, by dsimp only; omega, h6⟩ ?_
    refine GC.mk' [] [0, 1, 2] (by simp) rfl (by simp) (by simp) evd evd
  | false =>
    by_cases hA0 : A < 0
    · have hx : exB A (need L.length) ((B.length / 64 : Nat) : Int) = false := by rw [h1, hq, exB, decide_eq_false (by omega)]; rfl
      have e1 : decide (A < 0) = true := decide_eq_true hA0
      refine ocall [0, 1] (write_bad B p w k A L false (by omega) (by omega) (.inr hx)) evd (Picks.mk' (by simp) evd) ?_; refine evg ?_
      try refine go_on ?_
      refine tri_condF ?_
      repeat (first | refine go_on ?_ | simp only [go_sem, e1])
      refine tri_condT ?_
      try refine go_on ?_
      refine tri_condF ?_
      refine tri_skip ?_
      simp only [go_sem]
      refine hQ ⟨B, false, p, w, k, wr⟩ _ _ ⟨h1, h2, h3, h4, by dsimp only; omega, h6⟩ ?_
      refine GC.mk' [] [0, 1, 2] (by simp) rfl (by simp) (by simp) evd evd
    obtain ⟨a, rfl⟩ : ∃ a : Nat, A = a := ⟨A.toNat, by omega⟩
    have e1 : decide ((a : Int) < 0) = false := decide_eq_false hA0
    have e2 : IntKind.i64.wrap ((a : Int) + (need j : Nat)) = ((a + need j : Nat) : Int) := by rw [wrap_i64_in (by omega) (by omega)]; omega
    by_cases hj0 : j = 0
    · have hL : L = [] := List.eq_nil_of_length_eq_zero (by omega)
      have e3 : ((j : Int) == 0) = true := by rw [beq_iff_eq]; omega
      refine ocall [0, 1] (write_bad B p w k a L false (by omega) (by omega) (.inl hL)) evd (Picks.mk' (by simp) evd) ?_; refine evg ?_
      try refine go_on ?_
      refine tri_condF ?_
      repeat (first | refine go_on ?_ | simp only [go_sem, e1, e3])
      refine tri_condT ?_
      try refine go_on ?_
      refine tri_condF ?_
      refine tri_skip ?_
      simp only [go_sem]
      refine hQ ⟨B, false, p, w, k, wr⟩ _ _ ⟨h1, h2, h3, h4, by dsimp only; omega, h6⟩ ?_
      refine GC.mk' [] [0, 1, 2] (by simp) rfl (by simp) (by simp) evd evd
    have e3 : ((j : Int) == 0) = false := by rw [← Bool.not_eq_true, beq_iff_eq]; omega
    have hL : L ≠ [] := fun h => hj0 (by rw [← g2, h]; rfl)
    by_cases hb : a + need j ≤ S
    · have e4 : decide (((a + need j : Nat) : Int) > S) = false := decide_eq_false (by omega)
      have hput := put_walk B a L
      have hO : ∀ t, (over B (a * 64) (torn t k L)).length = S * 64 := fun t => by
        rw [length_over _ _ _ ?_, h1]
        have : (torn t k L).length ≤ need j * 64 := by
          have hf := length_full L
          rw [g2] at hf
          unfold torn
          split
          · rw [List.length_take, hf]; omega
          · rw [hf]; exact Nat.le_refl _
        omega
      have hwr := write_ok B p w k a L false (by omega) hL (by omega) (by omega) (by rw [g2, h1, hq]; exact hb)
      by_cases hp : p = true ∧ w = 0
      · obtain ⟨rfl, rfl⟩ := hp
        have hw0 : wr = 0 := h2 rfl
        subst hw0
        have hP := hput k false false (by omega) (by omega) (by omega) (by rw [g2, h1]; omega)
        rw [decide_eq_true (by omega), Int.toNat_natCast] at hP
        simp only [Int.natCast_zero, beq_self_eq_true, Bool.and_self, if_true, show max ((0 : Int) - 1) 0 = 0 by decide] at hwr
        have hO := hO true
        generalize over B (a * 64) (torn true k L) = B' at *
        refine ocall [0, 1] (hwr) evd (Picks.mk' (by simp) evd) ?_; refine evg ?_
        try refine go_on ?_
        refine tri_condF ?_
        repeat (first | refine go_on ?_ | simp only [go_sem, e1, e2, e3, e4])
        refine tri_condF ?_
        try refine go_on ?_
        refine tri_condT ?_
        try refine go_on ?_
        refine pcall hP ?_
        try refine go_on ?_
        refine tri_condF ?_
        refine tri_skip ?_
        simp only [go_sem]
        refine hQ ⟨B', true, true, 0, k, 0⟩ _ _ ⟨hO, fun _ => rfl, h3, h4, by dsimp only; omega, h6⟩ ?_
        refine GC.mk' [] [0, 1, 2] (by simp) rfl (by simp) (by simp) evd evd
      · have hpf : (p && (((w : Nat) : Int) == 0)) = false := by
          cases p with
          | false => rfl
          | true => rw [Bool.true_and, ← Bool.not_eq_true, beq_iff_eq]; intro h; exact hp ⟨rfl, by omega⟩
        have hP : PC Try.prog 34 [.sl 1 false (bts B), .int .i64 a, .sl 1 false (bts L), .int .i64 (-1)] (.sl 1 false (bts (over B (a * 64) (torn false k L)))) := hput (-1) false false (by omega) (by omega) (by omega) (by rw [g2, h1]; omega)
        rw [hpf] at hwr
        simp only [Bool.false_eq_true, if_false, show max (((w : Nat) : Int) - 1) 0 = ((w - 1 : Nat) : Int) by omega] at hwr
        have hO := hO false
        have ew : IntKind.i64.wrap (wr - 1) = wr - 1 := wrap_i64_in (by omega) (by omega)
        clear hput
        generalize over B (a * 64) (torn false k L) = B' at *
        cases p with
        | false =>
          refine ocall [0, 1] (hwr) evd (Picks.mk' (by simp) evd) ?_; refine evg ?_
          try refine go_on ?_
          refine tri_condF ?_
          repeat (first | refine go_on ?_ | simp only [go_sem, e1, e2, e3, e4])
          refine tri_condF ?_
          try refine go_on ?_
          refine tri_condF ?_
          try refine go_on ?_
          refine pcall hP ?_
          repeat (first | refine go_on ?_ | simp only [go_sem, ew])
          refine tri_condF ?_
          refine tri_skip ?_
          simp only [go_sem]
          refine hQ ⟨B', false, false, w - 1, k, wr - 1⟩ _ _ ⟨hO, fun h => (by cases h), by dsimp only; omega, h4, by dsimp only; omega, by dsimp only; omega⟩ ?_
          refine GC.mk' [] [0, 1, 2] (by simp) rfl (by simp) (by simp) evd evd
        | true =>
          have hw0 := h2 rfl
          have hw1 : w ≠ 0 := fun h => hp ⟨rfl, h⟩
          have e5 : (wr == 0) = false := by rw [← Bool.not_eq_true, beq_iff_eq]; intro h; exact hp ⟨rfl, by omega⟩
          refine ocall [0, 1] (hwr) evd (Picks.mk' (by simp) evd) ?_; refine evg ?_
          try refine go_on ?_
          refine tri_condF ?_
          repeat (first | refine go_on ?_ | simp only [go_sem, e1, e2, e3, e4])
          refine tri_condF ?_
          repeat (first | refine go_on ?_ | simp only [go_sem, e5])
          refine tri_condF ?_
          try refine go_on ?_
          refine pcall hP ?_
          repeat (first | refine go_on ?_ | simp only [go_sem, ew])
          refine tri_condF ?_
          refine tri_skip ?_
          simp only [go_sem]
          refine hQ ⟨B', false, true, w - 1, k, wr - 1⟩ _ _ ⟨hO, fun _ => (by dsimp only; omega), by dsimp only; omega, h4, by dsimp only; omega, by dsimp only; omega⟩ ?_
          refine GC.mk' [] [0, 1, 2] (by simp) rfl (by simp) (by simp) evd evd
    · have hx : exB a (need L.length) ((B.length / 64 : Nat) : Int) = false := by rw [g2, h1, hq, exB, decide_eq_false (p := ((need j : Nat) : Int) ≤ _) (by omega), Bool.and_false]
      have e4 : decide (((a + need j : Nat) : Int) > S) = true := decide_eq_true (by omega)
      refine ocall [0, 1] (write_bad B p w k a L false (by omega) (by omega) (.inr hx)) evd (Picks.mk' (by simp) evd) ?_; refine evg ?_
      try refine go_on ?_
      refine tri_condF ?_
      repeat (first | refine go_on ?_ | simp only [go_sem, e1, e2, e3, e4])
      refine tri_condT ?_
      try refine go_on ?_
      refine tri_condF ?_
      refine tri_skip ?_
      simp only [go_sem]
      refine hQ ⟨B, false, p, w, k, wr⟩ _ _ ⟨h1, h2, h3, h4, by dsimp only; omega, h6⟩ ?_
      refine GC.mk' [] [0, 1, 2] (by simp) rfl (by simp) (by simp) evd evd
end Go.Proofs.Ytdkahoohedljhaa
