/-
  Package device: Read and Write.
-/
import Derived.Test.YtdkahoohedljhaaHa
namespace Go.Proofs.Ytdkahoohedljhaa
open Go Go.FH
set_option linter.unusedVariables false
set_option linter.unusedSimpArgs false

theorem read_crash (B : List UInt8) (p : Bool) (w k x s : Int) : ACall Try.prog 32 [.ptr 1 0, .int .i64 x, .int .i64 s] (dvs B true p w k) (.tup [.sl 0 true [], .int .i64 24]) (dvs B true p w k) := by
  refine ACall.fact 4 f_device_Device_Read (by simp) ?_ (by simp)
  unfold c_device_Device_Read
  try refine go_on ?_
  refine tri_condT ?_
  try refine go_on ?_
  refine finQ [] [0, 1] _ (by simp) (by first | rfl | exact evd) (by simp) rfl (by simp) (by simp) evd evd
theorem read_bad (B : List UInt8) (p : Bool) (w k x s : Int) (hB : B.length ≤ 32768 * 64) (h : exB x s ((B.length / 64 : Nat) : Int) = false) : ACall Try.prog 32 [.ptr 1 0, .int .i64 x, .int .i64 s] (dvs B false p w k) (.tup [.sl 0 true [], .int .i64 3]) (dvs B false p w k) := by
  refine ACall.fact 4 f_device_Device_Read (by simp) ?_ (by simp)
  unfold c_device_Device_Read
  have c1 := exist_walk B false p w k x s hB
  rw [h] at c1
  try refine go_on ?_
  refine tri_condF ?_
  try refine go_on ?_
  refine ocall [0, 1] (c1) evd (Picks.mk' (by simp) evd) ?_; refine evg ?_
  try refine go_on ?_
  refine tri_condT ?_
  try refine go_on ?_
  refine finQ [] [0, 1] _ (by simp) (by first | rfl | exact evd) (by simp) rfl (by simp) (by simp) evd evd
theorem read_ok (B : List UInt8) (p : Bool) (w k : Int) (x s : Nat) (hB : B.length ≤ 32768 * 64) (h : x + s ≤ B.length / 64) : ACall Try.prog 32 [.ptr 1 0, .int .i64 x, .int .i64 s] (dvs B false p w k) (.tup [.sl 1 false (bts ((B.drop (x * 64)).take (s * 64))), .int .i64 0]) (dvs B false p w k) := by
  refine ACall.fact 4 f_device_Device_Read (by simp) ?_ (by simp)
  unfold c_device_Device_Read
  have c1 := exist_walk B false p w k x s hB
  have hx : exB x s ((B.length / 64 : Nat) : Int) = true := by
    simp only [exB, Bool.and_eq_true, decide_eq_true_eq]; omega
  rw [hx] at c1
  have c2 := clone_own B (x * 64) (s * 64) (by omega) (by omega)
  have e1 : IntKind.i64.wrap ((x : Int) * 64) = ((x * 64 : Nat) : Int) := by rw [wrap_i64_in (by omega) (by omega)]; omega
  have e2 : IntKind.i64.wrap ((x : Int) + s) = ((x + s : Nat) : Int) := by rw [wrap_i64_in (by omega) (by omega)]; omega
  have e3 : IntKind.i64.wrap (((x + s : Nat) : Int) * 64) = (((x + s) * 64 : Nat) : Int) := by rw [wrap_i64_in (by omega) (by omega)]; omega
  have e4 : (x + s) * 64 - x * 64 = s * 64 := by omega
  try refine go_on ?_
  refine tri_condF ?_
  try refine go_on ?_
  refine ocall [0, 1] (c1) evd (Picks.mk' (by simp) evd) ?_; refine evg ?_
  try refine go_on ?_
  refine tri_condF ?_
  repeat (first | refine go_on ?_ | simp only [go_sem, e1, e2, e3, e4])
  refine ocall [0] (c2) evd (Picks.mk' (by simp) evd) ?_; refine evg ?_
  try refine go_on ?_
  refine finQ [] [0, 1] _ (by simp) (by first | rfl | exact evd) (by simp) rfl (by simp) (by simp) evd evd
/-- Sectors of some bytes. -/
def need (n : Nat) : Nat := (n + 63) / 64
theorem need_ge (n : Nat) : n ≤ need n * 64 := by unfold need; omega
/-- Bytes laid into whole sectors. -/
def full (bs : List UInt8) : List UInt8 := bs ++ zr (need bs.length * 64 - bs.length)
theorem length_full (bs : List UInt8) : (full bs).length = need bs.length * 64 := by
  have := need_ge bs.length
  simp [full, length_zr]; omega
/-- Bytes laid over others. -/
def over (B : List UInt8) (off : Nat) (xs : List UInt8) : List UInt8 := B.take off ++ xs ++ B.drop (off + xs.length)
theorem length_over (B : List UInt8) (off : Nat) (xs : List UInt8) (h : off + xs.length ≤ B.length) : (over B off xs).length = B.length := by
  simp [over]; omega
/-- What is written: all sectors, or those that are kept. -/
def torn (t : Bool) (k : Nat) (bs : List UInt8) : List UInt8 := if t then (full bs).take (min k (need bs.length) * 64) else full bs
theorem write_crash (B : List UInt8) (p : Bool) (w k x : Int) (bs : List UInt8) (cl : Bool) : ACall Try.prog 33 [.ptr 1 0, .int .i64 x, .sl 1 cl (bts bs)] (dvs B true p w k) (.int .i64 24) (dvs B true p w k) := by
  refine ACall.fact 4 f_device_Device_Write (by simp) ?_ (by simp)
  unfold c_device_Device_Write
  try refine go_on ?_
  refine tri_condT ?_
  try refine go_on ?_
  refine finQ [] [0, 1] _ (by simp) (by first | rfl | exact evd) (by simp) rfl (by simp) (by simp) evd evd
theorem write_bad (B : List UInt8) (p : Bool) (w k x : Int) (bs : List UInt8) (cl : Bool) (hB : B.length ≤ 32768 * 64) (hb : bs.length ≤ 100000000000) (h : bs = [] ∨ exB x (need bs.length) ((B.length / 64 : Nat) : Int) = false) :
    ACall Try.prog 33 [.ptr 1 0, .int .i64 x, .sl 1 cl (bts bs)] (dvs B false p w k) (.int .i64 3) (dvs B false p w k) := by
  refine ACall.fact 4 f_device_Device_Write (by simp) ?_ (by simp)
  unfold c_device_Device_Write
  have e1 : IntKind.i64.wrap ((bs.length : Int) + 64) = ((bs.length + 64 : Nat) : Int) := by rw [wrap_i64_in (by omega) (by omega)]; omega
  have e2 : IntKind.i64.wrap (((bs.length + 64 : Nat) : Int) - 1) = ((bs.length + 63 : Nat) : Int) := by rw [wrap_i64_in (by omega) (by omega)]; omega
  have e3 : IntKind.i64.wrap (((bs.length + 63 : Nat) : Int).tdiv 64) = ((need bs.length : Nat) : Int) := quo64 (by omega)
  have c1 := exist_walk B false p w k x (need bs.length) hB
  by_cases h0 : bs = []
  · have e4 : (((need bs.length : Nat) : Int) == 0) = true := by rw [h0]; rfl
    try refine go_on ?_
    refine tri_condF ?_
    repeat (first | refine go_on ?_ | simp only [go_sem, e1, e2, e3, e4])
    refine tri_condT ?_
    try refine go_on ?_
    refine finQ [] [0, 1] _ (by simp) (by first | rfl | exact evd) (by simp) rfl (by simp) (by simp) evd evd
  · have e4 : (((need bs.length : Nat) : Int) == 0) = false := by
      have : 1 ≤ bs.length := List.length_pos_iff.2 h0
      rw [← Bool.not_eq_true, beq_iff_eq]; unfold need; omega
    rw [h.resolve_left h0] at c1
    try refine go_on ?_
    refine tri_condF ?_
    repeat (first | refine go_on ?_ | simp only [go_sem, e1, e2, e3, e4])
    refine ocall [0, 1] (c1) (by (try simp only [go_sem, e1, e2, e3, e4]); try exact evd) (Picks.mk' (by simp) (by (try simp only [go_sem, e1, e2, e3, e4]); try exact evd)) ?_; refine evg ?_
    repeat (first | refine go_on ?_ | simp only [go_sem, e1, e2, e3, e4])
    refine tri_condT ?_
    try refine go_on ?_
    refine finQ [] [0, 1] _ (by simp) (by first | rfl | exact evd) (by simp) rfl (by simp) (by simp) evd evd
theorem write_ok (B : List UInt8) (p : Bool) (w : Int) (k x : Nat) (bs : List UInt8) (cl : Bool) (hB : B.length ≤ 32768 * 64) (h0 : bs ≠ []) (hw : 0 ≤ w) (hw2 : w ≤ 1000000) (h : x + need bs.length ≤ B.length / 64) :
    ACall Try.prog 33 [.ptr 1 0, .int .i64 x, .sl 1 cl (bts bs)] (dvs B false p w k) (.int .i64 (if p && (w == 0) then 24 else 0)) (dvs (over B (x * 64) (torn (p && (w == 0)) k bs)) (p && (w == 0)) p (max (w - 1) 0) k) := by
  refine ACall.fact 4 f_device_Device_Write (by simp) ?_ (by simp)
  unfold c_device_Device_Write
  have hn := need_ge bs.length
  have h1 : 1 ≤ bs.length := List.length_pos_iff.2 h0
  have e1 : IntKind.i64.wrap ((bs.length : Int) + 64) = ((bs.length + 64 : Nat) : Int) := by rw [wrap_i64_in (by omega) (by omega)]; omega
  have e2 : IntKind.i64.wrap (((bs.length + 64 : Nat) : Int) - 1) = ((bs.length + 63 : Nat) : Int) := by rw [wrap_i64_in (by omega) (by omega)]; omega
  have e3 : IntKind.i64.wrap (((bs.length + 63 : Nat) : Int).tdiv 64) = ((need bs.length : Nat) : Int) := quo64 (by omega)
  have c1 := exist_walk B false p w k x (need bs.length) hB
  have hx : exB x (need bs.length) ((B.length / 64 : Nat) : Int) = true := by
    simp only [exB, Bool.and_eq_true, decide_eq_true_eq]; omega
  rw [hx] at c1
  have e4 : (((need bs.length : Nat) : Int) == 0) = false := by
    rw [← Bool.not_eq_true, beq_iff_eq]; omega
  have e5 : IntKind.i64.wrap (((need bs.length : Nat) : Int) * 64) = ((need bs.length * 64 : Nat) : Int) := by rw [wrap_i64_in (by omega) (by omega)]; omega
  try refine go_on ?_
  refine tri_condF ?_
  repeat (first | refine go_on ?_ | simp only [go_sem, e1, e2, e3, e4])
  refine ocall [0, 1] (c1) (by (try simp only [go_sem, e1, e2, e3, e4]); try exact evd) (Picks.mk' (by simp) (by (try simp only [go_sem, e1, e2, e3, e4]); try exact evd)) ?_; refine evg ?_
  repeat (first | refine go_on ?_ | simp only [go_sem, e1, e2, e3, e4])
  refine tri_condF ?_
  have e6 : (bs.take (min bs.length (need bs.length * 64)) ++ (zr (need bs.length * 64)).drop (min bs.length (need bs.length * 64))) = full bs := by
    rw [Nat.min_eq_left (by omega), List.take_length, full]
    simp [zr]
  have hf := length_full bs
  have e7 : IntKind.i64.wrap ((x : Int) * 64) = ((x * 64 : Nat) : Int) := by rw [wrap_i64_in (by omega) (by omega)]; omega
  have e8 : IntKind.i64.wrap (w - 1) = w - 1 := wrap_i64_in (by omega) (by omega)
  have e10 : (if 0 > w - 1 then (0 : Int) else w - 1) = max (w - 1) 0 := by omega
  have e11 : IntKind.i64.wrap ((if ((need bs.length : Nat) : Int) < (k : Int) then ((need bs.length : Nat) : Int) else (k : Int)) * 64) = ((min k (need bs.length) * 64 : Nat) : Int) := by
    rw [wrap_i64_in (by omega) (by omega)]; omega
  have f1 : (B.take (x * 64) ++ (full bs).take (min (need bs.length * 64) (B.length - x * 64)) ++ B.drop (x * 64 + min (need bs.length * 64) (B.length - x * 64))) = over B (x * 64) (torn false k bs) := by
    rw [Nat.min_eq_left (by omega), List.take_of_length_le (l := full bs) (by omega)]
    show _ = over B (x * 64) (full bs)
    rw [over, hf]
  have g1 : (over B (x * 64) (torn false k bs)).length = B.length := length_over _ _ _ (by show x * 64 + (full bs).length ≤ _; omega)
  have ht : (torn true k bs).length = min k (need bs.length) * 64 := by
    show ((full bs).take (min k (need bs.length) * 64)).length = _
    rw [List.length_take, hf]; omega
  have f2 : (B.take (x * 64) ++ (torn true k bs).take (min (min k (need bs.length) * 64) (B.length - x * 64)) ++ B.drop (x * 64 + min (min k (need bs.length) * 64) (B.length - x * 64))) = over B (x * 64) (torn true k bs) := by
    rw [Nat.min_eq_left (by omega), List.take_of_length_le (l := torn true k bs) (by omega), over, ht]
  have f3 : (full bs).take (min k (need bs.length) * 64) = torn true k bs := rfl
  have g2 : (over B (x * 64) (torn true k bs)).length = B.length := length_over _ _ _ (by omega)
  have e12 : (w == 0) = decide (w = 0) := rfl
  cases p with
  | false =>
    repeat (first | refine go_on ?_ | simp only [go_sem, e5, e6])
    refine tri_condF ?_
    repeat (first | refine go_on ?_ | simp only [go_sem, e7, e8, hf, e10, f1])
    refine tri_condF ?_
    try refine go_on ?_
    simp only [dvs, g1]
    refine finQ [] [0, 1] _ (by simp) (by first | rfl | exact evd) (by simp) rfl (by simp) (by simp) evd evd
  | true =>
    by_cases hw0 : w = 0
    · subst hw0
      repeat (first | refine go_on ?_ | simp only [go_sem, e5, e6])
      refine tri_condT ?_
      have hk : min k (need bs.length) * 64 ≤ need bs.length * 64 := by omega
      repeat (first | refine go_on ?_ | simp only [go_sem, e7, e8, e11, hf, f3, hk, e10, ht, f2])
      refine tri_condT ?_
      try refine go_on ?_
      simp only [dvs, g2]
      trace_state
      refine finQ [] [0, 1] _ (by simp) (by first | rfl | exact evd) (by simp) rfl (by simp) (by simp) evd evd
    · have e9 : (w == 0) = false := by rw [← Bool.not_eq_true, beq_iff_eq]; exact hw0
      repeat (first | refine go_on ?_ | simp only [go_sem, e5, e6, e9])
      refine tri_condF ?_
      repeat (first | refine go_on ?_ | simp only [go_sem, e7, e8, hf, e10, f1])
      refine tri_condF ?_
      try refine go_on ?_
      simp only [dvs, g1]
      refine finQ [] [0, 1] _ (by simp) (by first | rfl | exact evd) (by simp) rfl (by simp) (by simp) evd evd
end Go.Proofs.Ytdkahoohedljhaa
