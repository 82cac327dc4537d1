/-
  The law DevicePlays: the state of a round, what is asked at its end.
-/
import Derived.Test.YtdkahoohedljhaaHd
namespace Go.Proofs.Ytdkahoohedljhaa
open Go Go.FH Go.RowKit
set_option linter.unusedVariables false
set_option linter.unusedSimpArgs false

/-- The device and the law's own account of it. -/
structure PX where
  B : List UInt8
  c : Bool
  p : Bool
  w : Nat
  k : Nat
  wr : Int
def PX.fr (x : PX) (ns : List Int) (S i : Nat) : Fr := ⟨23, [.sl 1 false (nums .i64 ns), .int .i64 S, .dead, .dead, .bool false, .ptr 1 0, .int .i64 0, .sl 1 false (bts x.B), .bool x.c, .ptr 2 0, .int .i64 i, .dead, .dead, .dead, .dead, .dead, .dead, .dead, .dead, .dead, .dead, .dead, .dead], []⟩
def PX.st (x : PX) : St := [.vec 1 (bts x.B), dvo 0 x.B.length x.c x.p x.w x.k, .var [.bool x.p, .int .i64 x.wr, .int .i64 x.k]]
def PX.ok (x : PX) (S i : Nat) : Prop := x.B.length = S * 64 ∧ (x.p = true → x.wr = x.w) ∧ x.w ≤ 3 ∧ x.k ≤ 3 ∧ -(i : Int) ≤ x.wr ∧ x.wr ≤ 3
/-- Parts of a text. -/
def _root_.Go.FH.ACode.hd : ACode → ACode
  | .seq a _ => a
  | c => c
def _root_.Go.FH.ACode.inner : ACode → ACode
  | .block _ a => a
  | .loop a => a
  | c => c
def _root_.Go.FH.ACode.els : ACode → ACode
  | .cond _ _ b => b
  | c => c
/-- The body of the law's loop. -/
def c_dp_body : ACode := ((((c_law31_DevicePlays.tl 7).hd.tl 1).inner.inner.tl 1).hd).inner
def c_dp_tail : ACode := c_dp_body.tl 3
def c_dp_switch : ACode := ((c_dp_body.tl 2).hd.tl 1).inner

theorem dp_tail (ns : List Int) (S i : Nat) (x : PX) (hS : S ≤ 8) (hx : x.B.length = S * 64) (Q : Ex → Fr → St → Prop) (hQ : ∀ fr σ, GC 0 fr σ (x.fr ns S i) x.st → Q .normal fr σ) : Tri Try.prog 236 0 c_dp_tail Q (x.fr ns S i) x.st := by
  obtain ⟨B, c, p, w, k, wr⟩ := x
  dsimp only [PX.fr, PX.st] at *
  unfold c_dp_tail c_dp_body c_law31_DevicePlays
  simp only [ACode.tl, ACode.hd, ACode.inner]
  have c1 := crashed_walk B c p w k
  have c2 := image_walk B c p w k (by omega)
  have c3 := sectors_walk B c p w k (by omega)
  rw [hx, show S * 64 / 64 = S by omega] at c3
  try refine go_on ?_
  refine dcallr [0, 1] (c1) evd (Picks.mk' (by simp) evd) ?_; refine evg ?_
  try refine go_on ?_
  refine dcallr [0, 1] (c2) evd (Picks.mk' (by simp) evd) ?_; refine evg ?_
  try refine go_on ?_
  refine dcallr [0, 1] (c3) evd (Picks.mk' (by simp) evd) ?_; refine evg ?_
  try refine go_on ?_
  refine tri_condF ?_
  refine tri_skip ?_
  refine hQ _ _ ?_
  refine GC.mk' [] [0, 1, 2] (by simp) rfl (by simp) (by simp) evd evd
/-- What has set a bit at most where a mask has. -/
theorem iand_le (x m : Int) (h0 : 0 ≤ m) (hm : m < 9223372036854775808) : ∃ r : Nat, iand .i64 x m = r ∧ (r : Int) ≤ m := by
  unfold iand
  have h : (BitVec.ofInt IntKind.i64.bits x &&& BitVec.ofInt IntKind.i64.bits m).toNat ≤ m.toNat := by
    rw [BitVec.toNat_and]
    refine Nat.le_trans Nat.and_le_right ?_
    rw [BitVec.toNat_ofInt]
    show (m % ((2 ^ 64 : Nat) : Int)).toNat ≤ m.toNat
    omega
  generalize (BitVec.ofInt IntKind.i64.bits x &&& BitVec.ofInt IntKind.i64.bits m).toNat = r at *
  exact ⟨r, wrap_i64_in (by omega) (by omega), by omega⟩
/-- A frame in the middle of a round. -/
def PX.fm (x : PX) (ns : List Int) (S i : Nat) (K A N D : Int) (ts : List (Nat × AV)) : Fr := ⟨23, [.sl 1 false (nums .i64 ns), .int .i64 S, .dead, .dead, .bool false, .ptr 1 0, .int .i64 0, .sl 1 false (bts x.B), .bool x.c, .ptr 2 0, .int .i64 i, .int .i64 K, .int .i64 A, .int .i64 N, .dead, .dead, .dead, .dead, .dead, .dead, .dead, .dead, .dead], (63, .int .i64 D) :: ts⟩

theorem dp_plan (ns : List Int) (S i : Nat) (x : PX) (K A N : Int) (ts : List (Nat × AV)) (hS : S ≤ 8) (hx : x.ok S i) (Q : Ex → Fr → St → Prop) (hQ : ∀ (x' : PX) fr σ, x'.ok S (i + 1) → GC 0 fr σ (x'.fr ns S i) x'.st → Q .normal fr σ) : Tri Try.prog 236 0 c_dp_switch Q (x.fm ns S i K A N 0 ts) x.st := by
  obtain ⟨B, c, p, w, k, wr⟩ := x
  obtain ⟨h1, h2, h3, h4, h5, h6⟩ := hx
  dsimp only [PX.fr, PX.fm, PX.st] at *
  unfold c_dp_switch c_dp_body c_law31_DevicePlays
  simp only [ACode.tl, ACode.hd, ACode.inner]
  obtain ⟨u, hu, hu3⟩ := iand_le (ishr .i64 K 3) 3 (by decide) (by decide)
  obtain ⟨v, hv, hv3⟩ := iand_le (ishr .i64 K 5) 3 (by decide) (by decide)
  have e1 : decide ((u : Int) < 0) = false := decide_eq_false (by omega)
  try refine go_on ?_
  refine tri_condT ?_
  try refine go_on ?_
  cases hc : iand .i64 (ishr .i64 K 15) 3 == 3 with
  | true =>
    refine tri_condT ?_
    repeat (first | refine go_on ?_ | simp only [go_sem, hu, hv])
    refine tri_condT ?_
    try refine go_on ?_
    have c1 := plan_bad B c p w k (-1) v (.inl (by decide))
    refine ocall [0, 1] (c1) evd (Picks.mk' (by simp) evd) ?_; refine evg ?_
    try refine go_on ?_
    refine tri_condF ?_
    refine tri_skip ?_
    refine hQ ⟨B, c, p, w, k, wr⟩ _ _ ⟨h1, h2, h3, h4, by dsimp only; omega, h6⟩ ?_
    refine GC.mk' [] [0, 1, 2] (by simp) rfl (by simp) (by simp) evd evd
  | false =>
    refine tri_condF ?_
    repeat (first | refine go_on ?_ | simp only [go_sem, hu, hv])
    refine tri_condF ?_
    try refine go_on ?_
    refine ocall [0, 1] (plan_ok B c p w k u v (by omega) (by omega)) evd (Picks.mk' (by simp) evd) ?_; refine evg ?_
    try refine go_on ?_
    refine tri_condF ?_
    refine tri_skip ?_
    refine hQ ⟨B, c, true, u, v, u⟩ _ _ ⟨h1, fun _ => rfl, by dsimp only; omega, by dsimp only; omega, by dsimp only; omega, by dsimp only; omega⟩ ?_
    refine GC.mk' [] [0, 1, 2] (by simp) rfl (by simp) (by simp) evd evd
theorem dp_restart (ns : List Int) (S i : Nat) (x : PX) (K A N : Int) (ts : List (Nat × AV)) (hS : S ≤ 8) (hx : x.ok S i) (Q : Ex → Fr → St → Prop) (hQ : ∀ (x' : PX) fr σ, x'.ok S (i + 1) → GC 0 fr σ (x'.fr ns S i) x'.st → Q .normal fr σ) : Tri Try.prog 236 0 c_dp_switch Q (x.fm ns S i K A N 1 ts) x.st := by
  obtain ⟨B, c, p, w, k, wr⟩ := x
  obtain ⟨h1, h2, h3, h4, h5, h6⟩ := hx
  dsimp only [PX.fr, PX.fm, PX.st] at *
  unfold c_dp_switch c_dp_body c_law31_DevicePlays
  simp only [ACode.tl, ACode.hd, ACode.inner]
  try refine go_on ?_
  refine tri_condF ?_
  try refine go_on ?_
  refine tri_condT ?_
  try refine go_on ?_
  refine ocall [0, 1] (restart_walk B c p w k) evd (Picks.mk' (by simp) evd) ?_; refine evg ?_
  try refine go_on ?_
  refine hQ ⟨B, false, false, 0, 0, 0⟩ _ _ ⟨h1, fun h => rfl, Nat.zero_le _, Nat.zero_le _, by dsimp only; omega, by dsimp only; omega⟩ ?_
  refine GC.mk' [] [0, 1, 2] (by simp) rfl (by simp) (by simp) evd evd
def c_dp_read : ACode := ((c_dp_switch.tl 1).els.tl 1).els.tl 1
theorem dp_read2 (ns : List Int) (S i : Nat) (B : List UInt8) (c p : Bool) (w k : Nat) (wr K A N : Int) (ts : List (Nat × AV)) (m : Nat) (hm : iand .i64 N 7 = m) (hm7 : (m : Int) ≤ 7) (hS : S ≤ 8) (h1 : B.length = S * 64) (hA : -2 ≤ A) (hA2 : A ≤ 100) (Q : Ex → Fr → St → Prop)
    (hQ : ∀ fr σ, GC 0 fr σ (PX.fr ⟨B, c, p, w, k, wr⟩ ns S i) (PX.st ⟨B, c, p, w, k, wr⟩) → Q .normal fr σ) (h161 : FH.look ts 161 = .bool true) :
    Tri Try.prog 236 0 c_dp_read Q ⟨23, [.sl 1 false (nums .i64 ns), .int .i64 S, .dead, .dead, .bool false, .ptr 1 0, .int .i64 0, .sl 1 false (bts B), .bool c, .ptr 2 0, .int .i64 i, .int .i64 K, .int .i64 A, .int .i64 N, .dead, .dead, .dead, .dead, .dead, .dead, .dead, .dead, .dead], ts⟩ (PX.st ⟨B, c, p, w, k, wr⟩) := by
  dsimp only [PX.fr, PX.st] at *
  unfold c_dp_read c_dp_switch c_dp_body c_law31_DevicePlays
  simp only [ACode.tl, ACode.hd, ACode.inner, ACode.els]
  have hq : S * 64 / 64 = S := by omega
  refine tri_cond (t := true) (by (try simp only [go_sem, Nat.reduceAdd, Nat.reduceSub, Nat.reduceMul, Nat.reduceLT, Nat.reduceLeDiff, Nat.reduceEqDiff, reduceIte, Int.reduceToNat, Int.reduceLT, Int.reduceLE, Int.reduceEq, Int.reduceNeg, reduceCtorEq, Int.reduceBEq, Int.reduceBNe, h161])) (fun h => ?_) (fun h => by cases h)
  repeat (first | refine go_on ?_ | simp only [go_sem, hm])
  cases c with
  | true =>
    refine ocall [0, 1] (read_crash B p w k A m) evd (Picks.mk' (by simp) evd) ?_; refine evg ?_
    try refine go_on ?_
    refine tri_condT ?_
    try refine go_on ?_
    refine tri_condF ?_
    refine tri_skip ?_
    simp only [go_sem]
    refine hQ _ _ ?_
    refine GC.mk' [] [0, 1, 2] (by simp) rfl (by simp) (by simp) evd evd
  | false =>
    by_cases hA0 : A < 0
    · have hx : exB A m ((B.length / 64 : Nat) : Int) = false := by rw [h1, hq, exB, decide_eq_false (by omega)]; rfl
      have e1 : decide (A < 0) = true := decide_eq_true hA0
      refine ocall [0, 1] (read_bad B p w k A m (by omega) hx) evd (Picks.mk' (by simp) evd) ?_; refine evg ?_
      try refine go_on ?_
      refine tri_condF ?_
      repeat (first | refine go_on ?_ | simp only [go_sem, e1])
      refine tri_condT ?_
      try refine go_on ?_
      refine tri_condF ?_
      refine tri_skip ?_
      simp only [go_sem]
      refine hQ _ _ ?_
      refine GC.mk' [] [0, 1, 2] (by simp) rfl (by simp) (by simp) evd evd
    obtain ⟨a, rfl⟩ : ∃ a : Nat, A = a := ⟨A.toNat, by omega⟩
    have e1 : decide ((a : Int) < 0) = false := decide_eq_false hA0
    have e2 : IntKind.i64.wrap ((a : Int) + m) = ((a + m : Nat) : Int) := by rw [wrap_i64_in (by omega) (by omega)]; omega
    by_cases hb : a + m ≤ S
    · have e3 : decide (((a + m : Nat) : Int) > S) = false := decide_eq_false (by omega)
      have e4 : IntKind.i64.wrap ((a : Int) * 64) = ((a * 64 : Nat) : Int) := by rw [wrap_i64_in (by omega) (by omega)]; omega
      have e5 : IntKind.i64.wrap (((a + m : Nat) : Int) * 64) = (((a + m) * 64 : Nat) : Int) := by rw [wrap_i64_in (by omega) (by omega)]; omega
      have e6 : (a + m) * 64 - a * 64 = m * 64 := by omega
      refine ocall [0, 1] (read_ok B p w k a m (by omega) (by omega)) evd (Picks.mk' (by simp) evd) ?_; refine evg ?_
      try refine go_on ?_
      refine tri_condF ?_
      repeat (first | refine go_on ?_ | simp only [go_sem, hm, e1, e2, e3])
      refine tri_condF ?_
      repeat (first | refine go_on ?_ | simp only [go_sem, hm, e2, e4, e5, e6])
      refine tri_condF ?_
      refine tri_skip ?_
      simp only [go_sem]
      refine hQ _ _ ?_
      refine GC.mk' [] [0, 1, 2] (by simp) rfl (by simp) (by simp) evd evd
    · have hx : exB a m ((B.length / 64 : Nat) : Int) = false := by rw [h1, hq, exB, decide_eq_false (p := (m : Int) ≤ _) (by omega), Bool.and_false]
      have e3 : decide (((a + m : Nat) : Int) > S) = true := decide_eq_true (by omega)
      refine ocall [0, 1] (read_bad B p w k a m (by omega) hx) evd (Picks.mk' (by simp) evd) ?_; refine evg ?_
      try refine go_on ?_
      refine tri_condF ?_
      repeat (first | refine go_on ?_ | simp only [go_sem, hm, e1, e2, e3])
      refine tri_condT ?_
      try refine go_on ?_
      refine tri_condF ?_
      refine tri_skip ?_
      simp only [go_sem]
      refine hQ _ _ ?_
      refine GC.mk' [] [0, 1, 2] (by simp) rfl (by simp) (by simp) evd evd
/-- What the law asks of a read, once it has been called. -/
theorem dp_read (ns : List Int) (S i : Nat) (x : PX) (K A N D : Int) (ts : List (Nat × AV)) (hS : S ≤ 8) (hx : x.ok S i) (hD : D = 2 ∨ D = 3) (hA : -2 ≤ A) (hA2 : A ≤ 100) (Q : Ex → Fr → St → Prop) (hQ : ∀ (x' : PX) fr σ, x'.ok S (i + 1) → GC 0 fr σ (x'.fr ns S i) x'.st → Q .normal fr σ) : Tri Try.prog 236 0 c_dp_switch Q (x.fm ns S i K A N D ts) x.st := by
  obtain ⟨B, c, p, w, k, wr⟩ := x
  obtain ⟨h1, h2, h3, h4, h5, h6⟩ := hx
  dsimp only [PX.fr, PX.fm, PX.st] at *
  unfold c_dp_switch c_dp_body c_law31_DevicePlays
  simp only [ACode.tl, ACode.hd, ACode.inner]
  obtain ⟨m, hm, hm7⟩ := iand_le N 7 (by decide) (by decide)
  have hq : S * 64 / 64 = S := by omega
  have d0 : (D == 0) = false := by rcases hD with rfl | rfl <;> rfl
  have d1 : (D == 1) = false := by rcases hD with rfl | rfl <;> rfl
  have hQ' := fun fr σ => hQ ⟨B, c, p, w, k, wr⟩ fr σ ⟨h1, h2, h3, h4, by dsimp only; omega, h6⟩
  dsimp only at hQ'
  clear hQ
  repeat (first | refine go_on ?_ | simp only [go_sem, d0])
  refine tri_condF ?_
  repeat (first | refine go_on ?_ | simp only [go_sem, d1])
  refine tri_condF ?_
  try refine go_on ?_
  rcases hD with rfl | rfl
  · refine tri_condT ?_
    refine tri_skip ?_
    simp only [go_sem]
    exact dp_read2 ns S i B c p w k wr K A N _ m hm hm7 hS h1 hA hA2 Q hQ' rfl
  · refine tri_condF ?_
    try refine go_on ?_
    exact dp_read2 ns S i B c p w k wr K A N _ m hm hm7 hS h1 hA hA2 Q hQ' rfl
end Go.Proofs.Ytdkahoohedljhaa
