/-
  Package device: copies, New, Open, what is asked.
-/
import Derived.Test.YtdkahoohedljhaaBx
import Derived.Test.YtdkahoohedljhaaKh
namespace Go.Proofs.Ytdkahoohedljhaa
open Go Go.FH
set_option linter.unusedVariables false
set_option linter.unusedSimpArgs false

/-- Zero bytes. -/
def zr (n : Nat) : List UInt8 := List.replicate n 0
theorem length_zr (n : Nat) : (zr n).length = n := by simp [zr]
theorem bts_zr (n : Nat) : List.replicate n [AV.int .u8 0] = bts (zr n) := by simp [zr, bts]
attribute [go_sem] length_zr bts_zr
theorem selAV_tH (x : Bool) : selAV true (.bool x) (.tup []) = .bool x := rfl
theorem selAV_fH (y : Bool) : selAV false (.tup []) (.bool y) = .bool y := rfl
attribute [go_sem] selAV_tH selAV_fH
/-- Quotients of lengths. -/
theorem quo64 {n : Nat} (h : n ≤ 140737488355328) : IntKind.i64.wrap ((n : Int).tdiv 64) = ((n / 64 : Nat) : Int) := by
  rw [Int.tdiv_eq_ediv_of_nonneg (by omega), wrap_i64_in (by omega) (by omega)]; omega
theorem rem64 (n : Nat) : (n : Int).tmod 64 = ((n % 64 : Nat) : Int) := by rw [Int.tmod_eq_emod_of_nonneg (by omega)]; omega
/-- A device: its struct. -/
abbrev dvo (v n : Nat) (c p : Bool) (w k : Int) : AObj := .var [.hs 1 v 0 n, .bool c, .bool p, .int .i64 w, .int .i64 k]
/-- A device: its bytes and its struct. -/
abbrev dvs (B : List UInt8) (c p : Bool) (w k : Int) : St := [.vec 1 (bts B), dvo 0 B.length c p w k]

theorem clone_walk (bs : List UInt8) (cl : Bool) (hb : bs.length ≤ 140737488355328) : PC Try.prog 46 [.sl 1 cl (bts bs)] (.sl 1 false (bts bs)) := by
  refine PC.fact 3 f_slices_Clone_byte_byte (by simp) ⟨Pu_bts bs, trivial⟩ (Pu_bts bs) ?_
  unfold c_slices_Clone_byte_byte
  try refine go_on ?_
  intro b hb'
  try refine go_on ?_
  refine tri_cond evd (fun h => ?_) (fun h => ?_)
  · have h0 : bs = [] := by rw [← bts_eq_nil]; exact hb' (by simpa using h)
    subst h0
    try refine go_on ?_
    refine ⟨_, rfl, .inr ⟨.sl 0 true [], evd, trivial, Wk.empty _ _ _⟩⟩
  · try refine go_on ?_
    refine ⟨_, (by first | rfl | exact evd), .inl ?_⟩; (try simp only [go_sem, Nat.reduceAdd, Nat.reduceSub, Nat.reduceMul, Nat.reduceLT, Nat.reduceLeDiff, Nat.reduceEqDiff, reduceIte, Int.reduceToNat, Int.reduceLT, Int.reduceLE, Int.reduceEq, Int.reduceNeg, reduceCtorEq, Int.reduceBEq, Int.reduceBNe])
/-- A copy of bytes that nobody writes is one's own. -/
theorem clone_new (bs : List UInt8) (cl : Bool) (hb : bs.length ≤ 140737488355328) (h0 : bs ≠ []) : ACall Try.prog 46 [.sl 1 cl (bts bs)] [] (.hs 1 0 0 bs.length) [.vec 1 (bts bs)] := by
  refine ACall.fact 3 f_slices_Clone_byte_byte (by simp) ?_ (by simp)
  unfold c_slices_Clone_byte_byte
  have hne : (bts bs = []) = False := by rw [eq_iff_iff, iff_false, bts_eq_nil]; exact h0
  try refine go_on ?_
  intro b hb'
  have hbf : b = false := by
    cases b with
    | false => rfl
    | true => exact absurd (hb' rfl) (by rw [bts_eq_nil]; exact h0)
  subst hbf
  try refine go_on ?_
  refine tri_condF ?_
  repeat (first | refine go_on ?_ | simp only [go_sem, hne])
  refine finQ [] [0] _ (by simp) (by first | rfl | exact evd) (by simp) rfl (by simp) (by simp) evd evd
/-- A copy of a part of one's own bytes. -/
theorem clone_own (bs : List UInt8) (off len : Nat) (hb : bs.length ≤ 140737488355328) (hl : off + len ≤ bs.length) : ACall Try.prog 46 [.hs 1 0 off len] [.vec 1 (bts bs)] (.sl 1 false (bts ((bs.drop off).take len))) [.vec 1 (bts bs)] := by
  refine ACall.fact 3 f_slices_Clone_byte_byte (by simp) ?_ (by simp)
  unfold c_slices_Clone_byte_byte
  have hm : ((bs.drop off).take len).length = len := by simp; omega
  try refine go_on ?_
  intro b hb'
  try refine go_on ?_
  refine tri_cond evd (fun h => ?_) (fun h => ?_)
  · have h0 : len = 0 := hb' (by simpa using h)
    subst h0
    try refine go_on ?_
    refine finQw [] [0] _ (by simp) (by first | rfl | exact evd) (by simp) rfl (by simp) (by simp) evd evd (Wk.empty 0 1 _)
  · repeat (first | refine go_on ?_ | simp only [go_sem, hl])
    refine finQ [1] [0] _ (by simp) (by first | rfl | exact evd) (by simp) rfl (by simp) (by simp) evd evd
theorem new_bad (n : Int) (h : n < 1 ∨ 32768 < n) : PC Try.prog 29 [.int .i64 n] (.tup [.nilp, .int .i64 3]) := by
  refine PC.fact 3 f_device_New (by simp) ⟨trivial, trivial⟩ ⟨trivial, trivial, trivial⟩ ?_
  unfold c_device_New
  by_cases h1 : n < 1
  · have e1 : decide (n < 1) = true := decide_eq_true h1
    repeat (first | refine go_on ?_ | simp only [go_sem, e1])
    refine tri_condT ?_
    try refine go_on ?_
    refine ⟨_, (by first | rfl | exact evd), .inl ?_⟩; (try simp only [go_sem, Nat.reduceAdd, Nat.reduceSub, Nat.reduceMul, Nat.reduceLT, Nat.reduceLeDiff, Nat.reduceEqDiff, reduceIte, Int.reduceToNat, Int.reduceLT, Int.reduceLE, Int.reduceEq, Int.reduceNeg, reduceCtorEq, Int.reduceBEq, Int.reduceBNe])
  · have e1 : decide (n < 1) = false := decide_eq_false h1
    have e2 : decide (n > 32768) = true := decide_eq_true (by omega)
    repeat (first | refine go_on ?_ | simp only [go_sem, e1, e2])
    refine tri_condT ?_
    try refine go_on ?_
    refine ⟨_, (by first | rfl | exact evd), .inl ?_⟩; (try simp only [go_sem, Nat.reduceAdd, Nat.reduceSub, Nat.reduceMul, Nat.reduceLT, Nat.reduceLeDiff, Nat.reduceEqDiff, reduceIte, Int.reduceToNat, Int.reduceLT, Int.reduceLE, Int.reduceEq, Int.reduceNeg, reduceCtorEq, Int.reduceBEq, Int.reduceBNe])
theorem new_ok (n : Nat) (h1 : 1 ≤ n) (h2 : n ≤ 32768) : ACall Try.prog 29 [.int .i64 n] [] (.tup [.ptr 1 0, .int .i64 0]) (dvs (zr (n * 64)) false false 0 0) := by
  refine ACall.fact 3 f_device_New (by simp) ?_ (by simp)
  unfold c_device_New
  have e1 : decide ((n : Int) < 1) = false := decide_eq_false (by omega)
  have e2 : decide ((n : Int) > 32768) = false := decide_eq_false (by omega)
  have e3 : IntKind.i64.wrap (n * 64 : Int) = ((n * 64 : Nat) : Int) := by rw [wrap_i64_in (by omega) (by omega)]; omega
  repeat (first | refine go_on ?_ | simp only [go_sem, e1, e2, e3])
  refine tri_condF ?_
  repeat (first | refine go_on ?_ | simp only [go_sem, e3])
  refine finQ [] [0, 1] _ (by simp) (by first | rfl | exact evd) (by simp) rfl (by simp) (by simp) evd evd
theorem open_bad (bs : List UInt8) (cl : Bool) (hb : bs.length ≤ 140737488355328) (h : bs.length % 64 ≠ 0 ∨ bs.length < 64 ∨ 32768 < bs.length / 64) : PC Try.prog 39 [.sl 1 cl (bts bs)] (.tup [.nilp, .int .i64 2]) := by
  refine PC.fact 3 f_device_Open (by simp) ⟨Pu_bts bs, trivial⟩ ⟨trivial, trivial, trivial⟩ ?_
  unfold c_device_Open
  have q1 := quo64 hb
  have q2 := rem64 bs.length
  by_cases h1 : bs.length % 64 ≠ 0
  · have e1 : ((((bs.length % 64 : Nat) : Int)) != 0) = true := by rw [bne_iff_ne]; omega
    repeat (first | refine go_on ?_ | simp only [go_sem, q1, q2, e1])
    refine tri_condT ?_
    try refine go_on ?_
    refine ⟨_, (by first | rfl | exact evd), .inl ?_⟩; (try simp only [go_sem, Nat.reduceAdd, Nat.reduceSub, Nat.reduceMul, Nat.reduceLT, Nat.reduceLeDiff, Nat.reduceEqDiff, reduceIte, Int.reduceToNat, Int.reduceLT, Int.reduceLE, Int.reduceEq, Int.reduceNeg, reduceCtorEq, Int.reduceBEq, Int.reduceBNe])
  · have e1 : ((((bs.length % 64 : Nat) : Int)) != 0) = false := by rw [← Bool.not_eq_true, bne_iff_ne]; omega
    by_cases h2 : bs.length < 64
    · have e2 : decide ((((bs.length / 64 : Nat) : Int)) < 1) = true := decide_eq_true (by omega)
      repeat (first | refine go_on ?_ | simp only [go_sem, q1, q2, e1, e2])
      refine tri_condT ?_
      try refine go_on ?_
      refine ⟨_, (by first | rfl | exact evd), .inl ?_⟩; (try simp only [go_sem, Nat.reduceAdd, Nat.reduceSub, Nat.reduceMul, Nat.reduceLT, Nat.reduceLeDiff, Nat.reduceEqDiff, reduceIte, Int.reduceToNat, Int.reduceLT, Int.reduceLE, Int.reduceEq, Int.reduceNeg, reduceCtorEq, Int.reduceBEq, Int.reduceBNe])
    · have e2 : decide ((((bs.length / 64 : Nat) : Int)) < 1) = false := decide_eq_false (by omega)
      have e3 : decide ((((bs.length / 64 : Nat) : Int)) > 32768) = true := decide_eq_true (by omega)
      repeat (first | refine go_on ?_ | simp only [go_sem, q1, q2, e1, e2, e3])
      refine tri_condT ?_
      try refine go_on ?_
      refine ⟨_, (by first | rfl | exact evd), .inl ?_⟩; (try simp only [go_sem, Nat.reduceAdd, Nat.reduceSub, Nat.reduceMul, Nat.reduceLT, Nat.reduceLeDiff, Nat.reduceEqDiff, reduceIte, Int.reduceToNat, Int.reduceLT, Int.reduceLE, Int.reduceEq, Int.reduceNeg, reduceCtorEq, Int.reduceBEq, Int.reduceBNe])
theorem open_ok (bs : List UInt8) (cl : Bool) (h1 : bs.length % 64 = 0) (h2 : 64 ≤ bs.length) (h3 : bs.length ≤ 32768 * 64) : ACall Try.prog 39 [.sl 1 cl (bts bs)] [] (.tup [.ptr 1 0, .int .i64 0]) (dvs bs false false 0 0) := by
  refine ACall.fact 3 f_device_Open (by simp) ?_ (by simp)
  unfold c_device_Open
  have q1 := quo64 (n := bs.length) (by omega)
  have q2 := rem64 bs.length
  have e1 : ((((bs.length % 64 : Nat) : Int)) != 0) = false := by rw [← Bool.not_eq_true, bne_iff_ne]; omega
  have e2 : decide ((((bs.length / 64 : Nat) : Int)) < 1) = false := decide_eq_false (by omega)
  have e3 : decide ((((bs.length / 64 : Nat) : Int)) > 32768) = false := decide_eq_false (by omega)
  have c1 := clone_new bs cl (by omega) (by intro h; rw [h] at h2; simp at h2)
  repeat (first | refine go_on ?_ | simp only [go_sem, q1, q2, e1, e2, e3])
  refine tri_condF ?_
  try refine go_on ?_
  refine ocall [] (c1) evd (Picks.mk' (by simp) evd) ?_; refine evg ?_
  try refine go_on ?_
  refine finQ [] [0, 1] _ (by simp) (by first | rfl | exact evd) (by simp) rfl (by simp) (by simp) evd evd
theorem sectors_walk (B : List UInt8) (c p : Bool) (w k : Int) (hB : B.length ≤ 32768 * 64) : ACall Try.prog 37 [.ptr 1 0] (dvs B c p w k) (.int .i64 ((B.length / 64 : Nat) : Int)) (dvs B c p w k) := by
  refine ACall.fact 3 f_device_Device_Sectors (by simp) ?_ (by simp)
  unfold c_device_Device_Sectors
  have q1 := quo64 (n := B.length) (by omega)
  repeat (first | refine go_on ?_ | simp only [go_sem, q1])
  refine finQ [] [0, 1] _ (by simp) (by first | rfl | exact evd) (by simp) rfl (by simp) (by simp) evd evd
theorem image_walk (B : List UInt8) (c p : Bool) (w k : Int) (hB : B.length ≤ 32768 * 64) : ACall Try.prog 36 [.ptr 1 0] (dvs B c p w k) (.sl 1 false (bts B)) (dvs B c p w k) := by
  refine ACall.fact 3 f_device_Device_Image (by simp) ?_ (by simp)
  unfold c_device_Device_Image
  have c1 := clone_own B 0 B.length (by omega) (by omega)
  try refine go_on ?_
  refine ocall [0] (c1) evd (Picks.mk' (by simp) evd) ?_; refine evg ?_
  try refine go_on ?_
  refine finQ [] [0, 1] _ (by simp) (by first | rfl | exact evd) (by simp) rfl (by simp) (by simp) evd evd
theorem crashed_walk (B : List UInt8) (c p : Bool) (w k : Int) : ACall Try.prog 35 [.ptr 1 0] (dvs B c p w k) (.bool c) (dvs B c p w k) := by
  refine ACall.fact 3 f_device_Device_Crashed (by simp) ?_ (by simp)
  unfold c_device_Device_Crashed
  try refine go_on ?_
  refine finQ [] [0, 1] _ (by simp) (by first | rfl | exact evd) (by simp) rfl (by simp) (by simp) evd evd
theorem restart_walk (B : List UInt8) (c p : Bool) (w k : Int) : ACall Try.prog 31 [.ptr 1 0] (dvs B c p w k) (.tup []) (dvs B false false 0 0) := by
  refine ACall.fact 3 f_device_Device_Restart (by simp) ?_ (by simp)
  unfold c_device_Device_Restart
  try refine go_on ?_
  refine finQ [] [0, 1] _ (by simp) (by first | rfl | exact evd) (by simp) rfl (by simp) (by simp) evd evd
theorem plan_bad (B : List UInt8) (c p : Bool) (w k x y : Int) (h : x < 0 ∨ y < 0) : ACall Try.prog 30 [.ptr 1 0, .int .i64 x, .int .i64 y] (dvs B c p w k) (.int .i64 3) (dvs B c p w k) := by
  refine ACall.fact 3 f_device_Device_Plan (by simp) ?_ (by simp)
  unfold c_device_Device_Plan
  by_cases h1 : x < 0
  · have e1 : decide (x < 0) = true := decide_eq_true h1
    repeat (first | refine go_on ?_ | simp only [go_sem, e1])
    refine tri_condT ?_
    try refine go_on ?_
    refine finQ [] [0, 1] _ (by simp) (by first | rfl | exact evd) (by simp) rfl (by simp) (by simp) evd evd
  · have e1 : decide (x < 0) = false := decide_eq_false h1
    have e2 : decide (y < 0) = true := decide_eq_true (by omega)
    repeat (first | refine go_on ?_ | simp only [go_sem, e1, e2])
    refine tri_condT ?_
    try refine go_on ?_
    refine finQ [] [0, 1] _ (by simp) (by first | rfl | exact evd) (by simp) rfl (by simp) (by simp) evd evd
theorem plan_ok (B : List UInt8) (c p : Bool) (w k x y : Int) (h1 : 0 ≤ x) (h2 : 0 ≤ y) : ACall Try.prog 30 [.ptr 1 0, .int .i64 x, .int .i64 y] (dvs B c p w k) (.int .i64 0) (dvs B c true x y) := by
  refine ACall.fact 3 f_device_Device_Plan (by simp) ?_ (by simp)
  unfold c_device_Device_Plan
  have e1 : decide (x < 0) = false := decide_eq_false (by omega)
  have e2 : decide (y < 0) = false := decide_eq_false (by omega)
  repeat (first | refine go_on ?_ | simp only [go_sem, e1, e2])
  refine tri_condF ?_
  try refine go_on ?_
  refine finQ [] [0, 1] _ (by simp) (by first | rfl | exact evd) (by simp) rfl (by simp) (by simp) evd evd
/-- Whether some sectors exist. -/
def exB (at_ s n : Int) : Bool := decide (0 ≤ at_) && decide (0 ≤ s) && decide (at_ ≤ n) && decide (s ≤ n - at_)
theorem exist_walk (B : List UInt8) (c p : Bool) (w k x s : Int) (hB : B.length ≤ 32768 * 64) : ACall Try.prog 45 [.ptr 1 0, .int .i64 x, .int .i64 s] (dvs B c p w k) (.bool (exB x s ((B.length / 64 : Nat) : Int))) (dvs B c p w k) := by
  refine ACall.fact 3 f_device_Device_exist (by simp) ?_ (by simp)
  unfold c_device_Device_exist
  have c1 := sectors_walk B c p w k hB
  have hn : ((B.length / 64 : Nat) : Int) ≤ 32768 := by omega
  have hn0 : 0 ≤ ((B.length / 64 : Nat) : Int) := by omega
  generalize ((B.length / 64 : Nat) : Int) = n at *
  by_cases h1 : 0 ≤ x
  case neg =>
    have hr : exB x s n = false := by simp [exB, h1]
    have e1 : decide (x ≥ 0) = false := decide_eq_false h1
    rw [hr]
    repeat (first | refine go_on ?_ | simp only [go_sem, e1])
    refine finQ [] [0, 1] _ (by simp) (by first | rfl | exact evd) (by simp) rfl (by simp) (by simp) evd evd
  have e1 : decide (x ≥ 0) = true := decide_eq_true h1
  by_cases h2 : 0 ≤ s
  case neg =>
    have hr : exB x s n = false := by simp [exB, h2]
    have e2 : decide (s ≥ 0) = false := decide_eq_false h2
    rw [hr]
    repeat (first | refine go_on ?_ | simp only [go_sem, e1, e2])
    refine finQ [] [0, 1] _ (by simp) (by first | rfl | exact evd) (by simp) rfl (by simp) (by simp) evd evd
  have e2 : decide (s ≥ 0) = true := decide_eq_true h2
  by_cases h3 : x ≤ n
  case neg =>
    have hr : exB x s n = false := by simp [exB, h3]
    have e3 : decide (x ≤ n) = false := decide_eq_false h3
    rw [hr]
    repeat (first | refine go_on ?_ | simp only [go_sem, e1, e2, e3])
    refine ocall [0, 1] (c1) (by (try simp only [go_sem, e1, e2, e3]); try exact evd) (Picks.mk' (by simp) (by (try simp only [go_sem, e1, e2, e3]); try exact evd)) ?_; refine evg ?_
    repeat (first | refine go_on ?_ | simp only [go_sem, e1, e2, e3])
    refine finQ [] [0, 1] _ (by simp) (by first | rfl | exact evd) (by simp) rfl (by simp) (by simp) evd evd
  have e3 : decide (x ≤ n) = true := decide_eq_true h3
  have e4 : IntKind.i64.wrap (n - x) = n - x := wrap_i64_in (by omega) (by omega)
  have hr : exB x s n = decide (s ≤ n - x) := by simp [exB, h1, h2, h3]
  rw [hr]
  repeat (first | refine go_on ?_ | simp only [go_sem, e1, e2, e3, e4])
  refine ocall [0, 1] (c1) (by (try simp only [go_sem, e1, e2, e3, e4]); try exact evd) (Picks.mk' (by simp) (by (try simp only [go_sem, e1, e2, e3, e4]); try exact evd)) ?_; refine evg ?_
  repeat (first | refine go_on ?_ | simp only [go_sem, e1, e2, e3, e4])
  refine ocall [0, 1] (c1) (by (try simp only [go_sem, e1, e2, e3, e4]); try exact evd) (Picks.mk' (by simp) (by (try simp only [go_sem, e1, e2, e3, e4]); try exact evd)) ?_; refine evg ?_
  repeat (first | refine go_on ?_ | simp only [go_sem, e1, e2, e3, e4])
  refine finQ [] [0, 1] _ (by simp) (by first | rfl | exact evd) (by simp) rfl (by simp) (by simp) evd evd
end Go.Proofs.Ytdkahoohedljhaa
