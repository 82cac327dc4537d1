/-
  My texts Cb, Cc, Cd, Ce, Da, Db, Dc, Dd, De, Df, joined.
-/
import Derived.Test.YtdkahoohedljhaaMk
import Derived.Test.YtdkahoohedljhaaMc
namespace Go.Proofs.Ytdkahoohedljhaa
open Go Go.FH
set_option linter.unusedVariables false
set_option linter.unusedSimpArgs false

def sumA (a x : Int) : Int := (IntKind.u64.wrap (IntKind.u64.wrap (a + IntKind.u64.wrap x) + 1)).tmod 4294967295
def sumB (b a : Int) : Int := (IntKind.u64.wrap (b + a)).tmod 4294967295
def sums : List UInt8 → Int → Int → Int × Int
  | [], a, b => (a, b)
  | x :: xs, a, b => sums xs (sumA a x.toNat) (sumB b (sumA a x.toNat))
def sumV (bs : List UInt8) : Int := IntKind.u64.wrap (ishl .u64 (sums bs 1 0).2 32 + (sums bs 1 0).1)

theorem sums_step {bs : List UInt8} {i : Nat} (h : i < bs.length) (a b : Int) : sums (bs.drop i) a b = sums (bs.drop (i + 1)) (sumA a bs[i].toNat) (sumB b (sumA a bs[i].toNat)) := by
  rw [List.drop_eq_getElem_cons h, sums]

/-- A number as bytes of seven bits. -/
def uenc (n : Nat) : List UInt8 := if h : n < 128 then [UInt8.ofNat n] else UInt8.ofNat (n % 128 + 128) :: uenc (n / 128)
termination_by n
decreasing_by omega

theorem uenc_big {n : Nat} (h : 128 ≤ n) : uenc n = UInt8.ofNat (n % 128 + 128) :: uenc (n / 128) := by rw [uenc, dif_neg (by omega)]
theorem uenc_small {n : Nat} (h : n < 128) : uenc n = [UInt8.ofNat n] := by rw [uenc, dif_pos h]
theorem uhi_all : ∀ k : Fin 256, ior .u8 ((k.val : Nat) : Int) 128 = ((k.val % 128 + 128 : Nat) : Int) := by decide +kernel
theorem uhi (m : Nat) : ior .u8 (IntKind.u8.wrap (m : Int)) 128 = ((UInt8.ofNat (m % 128 + 128)).toNat : Int) := by
  have h := uhi_all ⟨m % 256, by omega⟩
  simp only at h
  rw [show IntKind.u8.wrap (m : Int) = ((m % 256 : Nat) : Int) by rw [IntKind.wrap_u8]; omega, h]
  simp only [UInt8.toNat_ofNat']
  omega
theorem ulo {m : Nat} (h : m < 128) : IntKind.u8.wrap (m : Int) = ((UInt8.ofNat m).toNat : Int) := by
  rw [IntKind.wrap_u8]; simp only [UInt8.toNat_ofNat']; omega
theorem ushr (m : Nat) : ishr .u64 (m : Int) 7 = ((m / 128 : Nat) : Int) := by
  unfold ishr
  rw [show ((2 : Int) ^ (min 7 IntKind.u64.bits)) = ((128 : Nat) : Int) by decide]
  rw [Int.fdiv_eq_ediv_of_nonneg _ (by omega)]; rfl

end Go.Proofs.Ytdkahoohedljhaa

namespace Go.Proofs.Ytdkahoohedljhaa
open Go Go.FH
set_option linter.unusedVariables false
set_option linter.unusedSimpArgs false

theorem clone_walk (bs : List UInt8) (cl : Bool) (hb : bs.length ≤ 140737488355328) : PC Try.prog 46 [.sl 1 cl (bts bs)] (.sl 1 false (bts bs)) := by
  refine PC.fact 3 f_slices_Clone_byte_byte (by simp) ⟨Pu_bts bs, trivial⟩ (Pu_bts bs) ?_
  unfold c_slices_Clone_byte_byte
  try refine go_on ?_
  intro b hb'
  try refine go_on ?_
  refine tri_cond evd (fun h => ?_) (fun h => ?_)
  · have h0 : bs = [] := by rw [← bts_eq_nil]; exact hb' (by simpa using h)
    subst h0
    try refine go_on ?_
    refine ⟨_, rfl, .inr ⟨.sl 0 true [], evd, trivial, Wk.empty _ _ _⟩⟩
  · try refine go_on ?_
    refine ⟨_, (by first | rfl | exact evd), .inl ?_⟩; (try simp only [go_sem, Nat.reduceAdd, Nat.reduceSub, Nat.reduceMul, Nat.reduceLT, Nat.reduceLeDiff, Nat.reduceEqDiff, reduceIte, Int.reduceToNat, Int.reduceLT, Int.reduceLE, Int.reduceEq, Int.reduceNeg, reduceCtorEq, Int.reduceBEq, Int.reduceBNe])

/-- What a reader finds at the front: the number, its length, what is wrong. -/
def rstep (v : Int) (b : UInt8) (i : Nat) : Int := ior .u64 v (ishl .u64 (IntKind.u64.wrap (iand .u8 (b.toNat : Int) 127)) (7 * i))
def rnumF : List UInt8 → Nat → Int → Int × Nat × Int
  | [], _, _ => (0, 0, 5)
  | b :: bs, i, v =>
    if i = 9 ∧ 1 < b.toNat then (0, 0, 2)
    else if b.toNat < 128 then (if b.toNat = 0 ∧ 0 < i then (0, 0, 2) else (rstep v b i, i + 1, 0))
    else rnumF bs (i + 1) (rstep v b i)
def rnum (bs : List UInt8) : Int × Nat × Int := rnumF (bs.take 10) 0 0
theorem rnumF_step {bs : List UInt8} {i : Nat} (h : i < bs.length) (v : Int) : rnumF (bs.drop i) i v = if i = 9 ∧ 1 < bs[i].toNat then (0, 0, 2)
    else if bs[i].toNat < 128 then (if bs[i].toNat = 0 ∧ 0 < i then (0, 0, 2) else (rstep v bs[i] i, i + 1, 0))
    else rnumF (bs.drop (i + 1)) (i + 1) (rstep v bs[i] i) := by
  rw [List.drop_eq_getElem_cons h, rnumF]

end Go.Proofs.Ytdkahoohedljhaa

namespace Go.Proofs.Ytdkahoohedljhaa
open Go Go.FH
set_option linter.unusedVariables false
set_option linter.unusedSimpArgs false

/-- A reader: its bytes and what is wrong. -/
abbrev rdr (cl : Bool) (bs : List UInt8) (e : Int) : AObj := .var [.sl 1 cl (bts bs), .int .i64 e]

/-- What Uint answers: the number, what is left, what is wrong. -/
def rUint (bs : List UInt8) (e m : Int) : Int × List UInt8 × Int :=
  if e ≠ 0 then (0, bs, e)
  else if (rnum bs).2.2 = 0 then (if m < (rnum bs).1 then (0, bs, 3) else ((rnum bs).1, bs.drop (rnum bs).2.1, 0)) else (0, bs, (rnum bs).2.2)

theorem rnumF_le : ∀ (l : List UInt8) (i : Nat) (v : Int), (rnumF l i v).2.1 ≤ i + l.length
  | [], i, v => by simp [rnumF]
  | b :: l, i, v => by
    rw [rnumF]
    have := rnumF_le l (i + 1) (rstep v b i)
    simp only [List.length_cons]
    (repeat' split) <;> first | omega | (simp only; omega)
theorem rnum_le (bs : List UInt8) : (rnum bs).2.1 ≤ bs.length := by
  have := rnumF_le (bs.take 10) 0 0
  simp only [rnum, List.length_take] at this ⊢; omega

theorem uenc300 : uenc 300 = [172, 2] := by rw [uenc_big (by omega), uenc_small (by omega)]; decide
theorem rUint300 : rUint [172, 2] 0 1000 = (300, [], 0) := by decide +kernel
theorem sumV_nil : sumV [] = 1 := by decide +kernel
end Go.Proofs.Ytdkahoohedljhaa

namespace Go.Proofs.Ytdkahoohedljhaa
open Go Go.FH Go.RowKit
set_option linter.unusedVariables false
set_option linter.unusedSimpArgs false

theorem bytes_of_ints (xs : List Int) (hx : ∀ z ∈ xs, (Lit.int .u8 z).wf = true) : ∃ bs : List UInt8, xs.map (Value.int .u8) = bs.map fun b => Value.int .u8 (b.toNat : Int) := by
  refine ⟨xs.map fun z => UInt8.ofNat z.toNat, ?_⟩
  rw [List.map_map]
  apply List.map_congr_left
  intro z hz
  have := hx z hz
  simp [Lit.wf, IntKind.min, IntKind.max, IntKind.signed, IntKind.bits] at this
  simp only [Function.comp, UInt8.toNat_ofNat']
  congr 1
  omega

end Go.Proofs.Ytdkahoohedljhaa

namespace Go.Proofs.Ytdkahoohedljhaa
open Go Go.FH
set_option linter.unusedVariables false
set_option linter.unusedSimpArgs false

theorem uenc_len : ∀ (k n : Nat), n < 128 ^ (k + 1) → (uenc n).length ≤ k + 1
  | 0, n, h => by rw [uenc_small (by simpa using h)]; simp
  | k + 1, n, h => by
    by_cases hn : n < 128
    · rw [uenc_small hn]; simp
    · rw [uenc_big (by omega), List.length_cons]
      have : n / 128 < 128 ^ (k + 1) := by
        rw [Nat.div_lt_iff_lt_mul (by omega)]
        rw [Nat.pow_succ] at h; exact h
      have := uenc_len k (n / 128) this
      omega
theorem uenc_len10 {n : Nat} (h : n < 18446744073709551616) : (uenc n).length ≤ 10 := uenc_len 9 n (by omega)
theorem uenc_pos (n : Nat) : 0 < (uenc n).length := by
  by_cases hn : n < 128
  · rw [uenc_small hn]; simp
  · rw [uenc_big (by omega)]; simp

theorem mask127 : ∀ k : Fin 256, iand .u8 ((k.val : Nat) : Int) 127 = ((k.val % 128 : Nat) : Int) := by decide +kernel
theorem or_add {v c k : Nat} (hv : v < 2 ^ k) (hc : v + c * 2 ^ k < 18446744073709551616) :
    ior .u64 (v : Int) ((c * 2 ^ k : Nat) : Int) = ((v + c * 2 ^ k : Nat) : Int) := by
  have e : (BitVec.ofInt IntKind.u64.bits (v : Int) ||| BitVec.ofInt IntKind.u64.bits ((c * 2 ^ k : Nat) : Int)).toNat = v + c * 2 ^ k := by
    rw [BitVec.toNat_or, BitVec.ofInt_natCast, BitVec.ofInt_natCast, BitVec.toNat_ofNat, BitVec.toNat_ofNat]
    rw [Nat.mod_eq_of_lt (show v < 2 ^ IntKind.u64.bits from Nat.lt_of_le_of_lt (Nat.le_add_right _ _) hc), Nat.mod_eq_of_lt (show c * 2 ^ k < 2 ^ IntKind.u64.bits from Nat.lt_of_le_of_lt (Nat.le_add_left _ _) hc)]
    rw [Nat.or_comm, Nat.mul_comm c, ← Nat.two_pow_add_eq_or_of_lt hv]
    omega
  unfold ior
  rw [e, wrap_u64_in (by omega) (by omega)]
theorem rstep_eq {v i : Nat} {b : UInt8} (hi : i ≤ 9) (hv : v < 2 ^ (7 * i)) (hb : v + b.toNat % 128 * 2 ^ (7 * i) < 18446744073709551616) : rstep v b i = ((v + b.toNat % 128 * 2 ^ (7 * i) : Nat) : Int) := by
  unfold rstep
  have h1 := mask127 ⟨b.toNat, b.toNat_lt⟩
  simp only at h1
  rw [h1, wrap_u64_in (n := ((b.toNat % 128 : Nat) : Int)) (by omega) (by omega)]
  unfold ishl
  have h2 : min (7 * i) IntKind.u64.bits = 7 * i := by simp only [IntKind.bits]; omega
  rw [h2, show (((b.toNat % 128 : Nat) : Int) * 2 ^ (7 * i)) = ((b.toNat % 128 * 2 ^ (7 * i) : Nat) : Int) by push_cast; rfl]
  rw [wrap_u64_in (n := ((b.toNat % 128 * 2 ^ (7 * i) : Nat) : Int)) (by omega) (by omega)]
  exact or_add hv hb

theorem rnumF_uenc (tail : List UInt8) : ∀ (m i v : Nat), i + (uenc m).length ≤ 10 → v < 2 ^ (7 * i) → v + m * 2 ^ (7 * i) < 18446744073709551616 → (0 < m ∨ i = 0) →
    rnumF ((uenc m ++ tail).take (10 - i)) i v = (((v + m * 2 ^ (7 * i) : Nat) : Int), i + (uenc m).length, 0) := by
  intro m
  induction m using Nat.strongRecOn with
  | _ m ih =>
    intro i v hl hv hs hp
    by_cases hm : m < 128
    · rw [uenc_small hm] at hl ⊢
      simp only [List.length_cons, List.length_nil] at hl ⊢
      have hb : (UInt8.ofNat m).toNat = m := by simp only [UInt8.toNat_ofNat']; omega
      rw [show 10 - i = (9 - i) + 1 by omega, List.cons_append, List.take_succ_cons, rnumF, hb]
      rw [if_neg, if_pos hm, if_neg (by omega), rstep_eq (by omega) hv (by rw [hb, Nat.mod_eq_of_lt hm]; exact hs), hb, Nat.mod_eq_of_lt hm]
      rintro ⟨rfl, h1⟩
      have : 2 * 2 ^ (7 * 9) ≤ m * 2 ^ (7 * 9) := Nat.mul_le_mul_right _ h1
      omega
    · rw [uenc_big (by omega)] at hl ⊢
      simp only [List.length_cons] at hl ⊢
      have hb : (UInt8.ofNat (m % 128 + 128)).toNat = m % 128 + 128 := by simp only [UInt8.toNat_ofNat']; omega
      have hpos := uenc_pos (m / 128)
      rw [show 10 - i = (10 - (i + 1)) + 1 by omega, List.cons_append, List.take_succ_cons, rnumF, hb]
      have e : 2 ^ (7 * (i + 1)) = 128 * 2 ^ (7 * i) := by rw [Nat.mul_add, Nat.pow_add, Nat.mul_comm]
      have em : m * 2 ^ (7 * i) = m % 128 * 2 ^ (7 * i) + m / 128 * 2 ^ (7 * (i + 1)) := by
        rw [e, ← Nat.mul_assoc, ← Nat.add_mul]
        congr 1; omega
      have h2 : m % 128 * 2 ^ (7 * i) ≤ 127 * 2 ^ (7 * i) := Nat.mul_le_mul_right _ (by omega)
      rw [if_neg (by omega), if_neg (by omega), rstep_eq (by omega) hv (by rw [hb, show (m % 128 + 128) % 128 = m % 128 by omega]; omega), hb, show (m % 128 + 128) % 128 = m % 128 by omega]
      rw [ih (m / 128) (by omega) (i + 1) _ (by omega) (by rw [e]; omega) (by omega) (by omega)]
      simp only [Prod.mk.injEq, and_true]
      exact ⟨by omega, by omega⟩
theorem rnum_uenc {n : Nat} (h : n < 18446744073709551616) (tail : List UInt8) : rnum (uenc n ++ tail) = ((n : Int), (uenc n).length, 0) := by
  have := rnumF_uenc tail n 0 0 (by have := uenc_len10 h; omega) (by simp) (by simpa using h) (.inr rfl)
  simpa [rnum] using this
/-- What is cut off before its end. -/
theorem rnumF_cut : ∀ (m i : Nat) (v : Int) (k : Nat), i + (uenc m).length ≤ 10 → k < (uenc m).length → rnumF ((uenc m).take k) i v = (0, 0, 5) := by
  intro m
  induction m using Nat.strongRecOn with
  | _ m ih =>
    intro i v k hl hk
    by_cases hm : m < 128
    · rw [uenc_small hm] at hl hk ⊢
      simp only [List.length_cons, List.length_nil] at hk
      rw [show k = 0 by omega]; rfl
    · rw [uenc_big (by omega)] at hl hk ⊢
      simp only [List.length_cons] at hk hl
      cases k with
      | zero => rfl
      | succ k =>
        have hb : (UInt8.ofNat (m % 128 + 128)).toNat = m % 128 + 128 := by simp only [UInt8.toNat_ofNat']; omega
        have hpos := uenc_pos (m / 128)
        rw [List.take_succ_cons, rnumF, hb, if_neg (by omega), if_neg (by omega)]
        exact ih (m / 128) (by omega) (i + 1) _ k (by omega) (by omega)
theorem rnum_cut {n k : Nat} (h : n < 18446744073709551616) (hk : k < (uenc n).length) : rnum ((uenc n).take k) = (0, 0, 5) := by
  have := uenc_len10 h
  unfold rnum
  rw [List.take_take, show min 10 k = k by omega]
  exact rnumF_cut n 0 0 k (by omega) hk
end Go.Proofs.Ytdkahoohedljhaa

namespace Go.Proofs.Ytdkahoohedljhaa
open Go Go.FH
set_option linter.unusedVariables false
set_option linter.unusedSimpArgs false

/-- A function that appends e to its first argument. -/
structure App (f : FuncId) (xs : List AV) (e : List UInt8) : Prop where
  clip : ∀ bs : List UInt8, bs.length + e.length ≤ 140737488355328 → ACall Try.prog f (.sl 1 true (bts bs) :: xs) [] (.hs 1 0 0 (bs.length + e.length)) [.vec 1 (bts (bs ++ e))]
  own : ∀ bs : List UInt8, bs.length + e.length ≤ 140737488355328 → ACall Try.prog f (.hs 1 0 0 bs.length :: xs) [.vec 1 (bts bs)] (.hs 1 1 0 (bs.length + e.length)) [.gone, .vec 1 (bts (bs ++ e))]

theorem iand127 (m : Nat) : iand .u64 (m : Int) 127 = ((m % 128 : Nat) : Int) := by
  unfold iand
  have : (BitVec.ofInt IntKind.u64.bits (m : Int) &&& BitVec.ofInt IntKind.u64.bits 127).toNat = m % 128 := by
    rw [BitVec.toNat_and, BitVec.ofInt_natCast, show BitVec.ofInt IntKind.u64.bits 127 = BitVec.ofNat IntKind.u64.bits (2 ^ 7 - 1) by decide, BitVec.toNat_ofNat, BitVec.toNat_ofNat]
    rw [show (2 ^ 7 - 1) % 2 ^ IntKind.u64.bits = 2 ^ 7 - 1 by decide, Nat.and_two_pow_sub_one_eq_mod]
    rw [Nat.mod_mod_of_dvd _ (by decide)]
  rw [this, wrap_u64_in (by omega) (by omega)]
theorem uhi2 (m : Nat) : ior .u8 (IntKind.u8.wrap (iand .u64 (m : Int) 127)) 128 = ((UInt8.ofNat (m % 128 + 128)).toNat : Int) := by
  rw [iand127, uhi, Nat.mod_mod]

theorem one_0 : [[AV.int .u8 0]] = bts [0] := rfl
theorem one_1 : [[AV.int .u8 1]] = bts [1] := rfl
def benc (x : Bool) : List UInt8 := if x then [1] else [0]

end Go.Proofs.Ytdkahoohedljhaa

namespace Go.Proofs.Ytdkahoohedljhaa
open Go Go.FH
set_option linter.unusedVariables false
set_option linter.unusedSimpArgs false

def wbyte (a : Wd) (i : Nat) : UInt8 := byt (ishr .u64 (a.1.getD (i / 8) 0) (8 * (i % 8)))
def pbytes (a : Wd) (k : Nat) : Rt := if h : k = 0 then rt0 else (pbytes a (k - 1)).set (31 - (k - 1)) (wbyte a (k - 1))
termination_by k
decreasing_by omega
theorem pbytes_0 (a : Wd) : pbytes a 0 = rt0 := by rw [pbytes, dif_pos rfl]
theorem pbytes_s (a : Wd) (i : Nat) : pbytes a (i + 1) = (pbytes a i).set (31 - i) (wbyte a i) := by rw [pbytes, dif_neg (by omega)]; rfl
theorem Pu_agg {cs : List AV} (h : PuL cs) : Pu (.agg cs) := h
/-- The bytes of a wide number. -/
def wbytes (a : Wd) : Rt := pbytes a 32
def wstep (b : Rt) (w : Wd) (i : Nat) : Wd := w.set (i / 8) (ior .u64 (w.1.getD (i / 8) 0) (ishl .u64 ((b.1.getD (31 - i) 0).toNat : Int) (8 * (i % 8))))
def wfold (b : Rt) (k : Nat) : Wd := if h : k = 0 then wd0 else wstep b (wfold b (k - 1)) (k - 1)
termination_by k
decreasing_by omega
theorem wfold_0 (b : Rt) : wfold b 0 = wd0 := by rw [wfold, dif_pos rfl]
theorem wfold_s (b : Rt) (i : Nat) : wfold b (i + 1) = wstep b (wfold b i) i := by rw [wfold, dif_neg (by omega)]; rfl
/-- The wide number that bytes are. -/
def wof (b : Rt) : Wd := wfold b 32
theorem ix1 {i : Nat} (h : i < 32) : IntKind.i64.wrap (31 - (i : Int)) = ((31 - i : Nat) : Int) := by rw [wrap_i64_in (by omega) (by omega)]; omega
theorem ix2 {i : Nat} (h : i < 32) : IntKind.i64.wrap ((i : Int).tdiv 8) = ((i / 8 : Nat) : Int) := by
  rw [Int.tdiv_eq_ediv_of_nonneg (by omega), wrap_i64_in (by omega) (by omega)]; rfl
theorem ix3 (i : Nat) : (i : Int).tmod 8 = ((i % 8 : Nat) : Int) := by rw [Int.tmod_eq_emod_of_nonneg (by omega)]; rfl
theorem ix4 (i : Nat) : IntKind.i64.wrap (8 * ((i % 8 : Nat) : Int)) = ((8 * (i % 8) : Nat) : Int) := by rw [wrap_i64_in (by omega) (by omega)]; omega
theorem ix5 {i : Nat} (h : i < 32) : IntKind.i64.wrap ((i : Int) + 1) = ((i + 1 : Nat) : Int) := by rw [wrap_i64_in (by omega) (by omega)]; omega
theorem ix6 (i : Nat) : IntKind.u64.wrap ((8 * (i % 8) : Nat) : Int) = ((8 * (i % 8) : Nat) : Int) := wrap_u64_in (by omega) (by omega)
theorem ix7 (b : UInt8) : IntKind.u64.wrap (b.toNat : Int) = (b.toNat : Int) := wrap_u64_in (by omega) (by have := b.toNat_lt; omega)
theorem wrap_to_byt (n : Int) : IntKind.u8.wrap n = ((byt n).toNat : Int) := (wrap_byt n).symm

/-- The bytes of a checkpoint. -/
def cenc (c : Cp) : List UInt8 := uenc c.ep.toNat ++ c.rt.1
/-- A length and bytes. -/
def xenc (x : List UInt8) : List UInt8 := uenc x.length ++ x

end Go.Proofs.Ytdkahoohedljhaa

namespace Go.Proofs.Ytdkahoohedljhaa
open Go Go.FH Go.RowKit
set_option linter.unusedVariables false
set_option linter.unusedSimpArgs false

/-- A function that appends e to a copy. -/
def Apc (f : FuncId) (xs : List AV) (e : List UInt8) : Prop := ∀ (bs : List UInt8) (cl : Bool), bs.length + e.length ≤ 140737488355328 → PC Try.prog f (.sl 1 cl (bts bs) :: xs) (.sl 1 false (bts (bs ++ e)))

theorem App.nil {f : FuncId} {xs : List AV} {e : List UInt8} (h : App f xs e) (he : e.length ≤ 140737488355328) : ACall Try.prog f (.sl 0 true [] :: xs) [] (.hs 1 0 0 e.length) [.vec 1 (bts e)] := by
  have := h.clip [] (by simpa using he)
  simp only [List.length_nil, Nat.zero_add, List.nil_append] at this
  exact this.wk ⟨Wk.empty 0 1 _, WkL.refl _⟩
theorem bts_ne {b : List UInt8} (h : b ≠ []) : (bts b = []) = False := by rw [eq_iff_iff, iff_false, bts_eq_nil]; exact h

end Go.Proofs.Ytdkahoohedljhaa

namespace Go.Proofs.Ytdkahoohedljhaa
open Go Go.FH
set_option linter.unusedVariables false
set_option linter.unusedSimpArgs false

/-- What Bool answers: the value, what is left, what is wrong. -/
def rBool (bs : List UInt8) (e : Int) : Bool × List UInt8 × Int :=
  if e ≠ 0 then (false, bs, e) else match bs with
    | [] => (false, [], 5)
    | b :: r => if 1 < b.toNat then (false, b :: r, 2) else ((b.toNat : Int) == 1, r, 0)
def mkRt (l : List UInt8) : Rt := if h : l.length = 32 then ⟨l, h⟩ else rt0
theorem mkRt_val {l : List UInt8} (h : l.length = 32) : (mkRt l).1 = l := by rw [mkRt, dif_pos h]
/-- What Root answers. -/
def rRoot (bs : List UInt8) (e : Int) : Rt × List UInt8 × Int :=
  if e ≠ 0 then (rt0, bs, e) else if bs.length < 32 then (rt0, bs, 5) else (mkRt (bs.take 32), bs.drop 32, 0)
/-- What Wide answers. -/
def rWide (bs : List UInt8) (e : Int) : Wd × List UInt8 × Int := (wof (rRoot bs e).1, (rRoot bs e).2)
abbrev maxU : Int := 18446744073709551615
/-- What Checkpoint answers. -/
def rCp (bs : List UInt8) (e : Int) : Cp × List UInt8 × Int :=
  if (rRoot (rUint bs e maxU).2.1 (rUint bs e maxU).2.2).2.2 ≠ 0 then (cp0, bs, (rRoot (rUint bs e maxU).2.1 (rUint bs e maxU).2.2).2.2)
  else (⟨(rUint bs e maxU).1, (rRoot (rUint bs e maxU).2.1 (rUint bs e maxU).2.2).1⟩, (rRoot (rUint bs e maxU).2.1 (rUint bs e maxU).2.2).2)
theorem rUint_len (bs : List UInt8) (e m : Int) : (rUint bs e m).2.1.length ≤ bs.length := by
  unfold rUint
  (repeat' split) <;> simp
theorem rRoot_len (bs : List UInt8) (e : Int) : (rRoot bs e).2.1.length ≤ bs.length := by
  unfold rRoot
  (repeat' split) <;> simp
theorem rstep_nonneg (v : Int) (b : UInt8) (i : Nat) : 0 ≤ rstep v b i := by unfold rstep ior; rw [wrap_u64]; omega
theorem rnumF_nonneg : ∀ (l : List UInt8) (i : Nat) (v : Int), 0 ≤ (rnumF l i v).1
  | [], i, v => by simp [rnumF]
  | b :: l, i, v => by
    rw [rnumF]
    have := rnumF_nonneg l (i + 1) (rstep v b i)
    have := rstep_nonneg v b i
    (repeat' split) <;> first | omega | (simp only; omega)
theorem rUint_nonneg (bs : List UInt8) (e m : Int) : 0 ≤ (rUint bs e m).1 := by
  have := rnumF_nonneg (bs.take 10) 0 0
  unfold rUint rnum
  (repeat' split) <;> first | omega | (simp only; omega) | (simp only; exact this)
/-- What Bytes answers. -/
def rBytes (bs : List UInt8) (e m : Int) : List UInt8 × List UInt8 × Int :=
  if (rUint bs e maxU).2.2 ≠ 0 then ([], bs, (rUint bs e maxU).2.2)
  else if m < 0 ∨ IntKind.u64.wrap m < (rUint bs e maxU).1 then ([], bs, 3)
  else if ((rUint bs e maxU).2.1.length : Int) < (rUint bs e maxU).1 then ([], bs, 5)
  else ((rUint bs e maxU).2.1.take (rUint bs e maxU).1.toNat, (rUint bs e maxU).2.1.drop (rUint bs e maxU).1.toNat, 0)
end Go.Proofs.Ytdkahoohedljhaa

namespace Go.Proofs.Ytdkahoohedljhaa
open Go Go.FH
set_option linter.unusedVariables false
set_option linter.unusedSimpArgs false

/-- What a reader answers: the value, what is left, what is wrong. -/
abbrev RR (α : Type) := List UInt8 → Int → α × List UInt8 × Int
structure Back {α : Type} (z v : α) (enc : List UInt8) (r : RR α) : Prop where
  full : ∀ t, r (enc ++ t) 0 = (v, t, 0)
  cut : ∀ k, k < enc.length → r (enc.take k) 0 = (z, enc.take k, 5)
  sticky : ∀ bs e, e ≠ 0 → r bs e = (z, bs, e)

theorem rUint_back {n : Nat} {m : Int} (h : n < 18446744073709551616) (hm : (n : Int) ≤ m) : Back 0 (n : Int) (uenc n) (fun bs e => rUint bs e m) := by
  refine ⟨fun t => ?_, fun k hk => ?_, fun bs e he => ?_⟩
  · simp only [rUint, rnum_uenc h, ne_eq, not_true_eq_false, if_false, if_true]
    rw [if_neg (by omega), List.drop_left]
  · simp only [rUint, rnum_cut h hk, ne_eq, not_true_eq_false, if_false]
    rw [if_neg (by decide)]
  · simp only [rUint, ne_eq, he, not_false_eq_true, if_true]
theorem rBool_back (x : Bool) : Back false x (benc x) rBool := by
  refine ⟨fun t => ?_, fun k hk => ?_, fun bs e he => ?_⟩
  · cases x <;> simp [rBool, benc]
  · have hk0 : k = 0 := by cases x <;> simp [benc] at hk <;> omega
    subst hk0
    simp [rBool]
  · simp only [rBool, ne_eq, he, not_false_eq_true, if_true]
theorem rRoot_back (r : Rt) : Back rt0 r r.1 rRoot := by
  have hr := r.2
  refine ⟨fun t => ?_, fun k hk => ?_, fun bs e he => ?_⟩
  · simp only [rRoot, ne_eq, not_true_eq_false, if_false]
    rw [if_neg (by rw [List.length_append]; omega)]
    have h1 : (r.1 ++ t).take 32 = r.1 := List.take_left' hr
    have h2 : (r.1 ++ t).drop 32 = t := List.drop_left' hr
    rw [h1, h2]
    congr 1
    exact Subtype.ext (mkRt_val hr)
  · simp only [rRoot, ne_eq, not_true_eq_false, if_false]
    rw [if_pos (by rw [List.length_take]; omega)]
  · simp only [rRoot, ne_eq, he, not_false_eq_true, if_true]

/-! Wide numbers. -/
theorem ishr_nat (m s : Nat) (hs : s < 64) : ishr .u64 (m : Int) s = ((m / 2 ^ s : Nat) : Int) := by
  unfold ishr
  rw [show min s IntKind.u64.bits = s by simp only [IntKind.bits]; omega, show ((2 : Int) ^ s) = ((2 ^ s : Nat) : Int) by push_cast; rfl]
  rw [Int.fdiv_eq_ediv_of_nonneg _ (Int.natCast_nonneg _)]; rfl
theorem ishl_nat {c s : Nat} (hs : s < 64) (h : c * 2 ^ s < 18446744073709551616) : ishl .u64 (c : Int) s = ((c * 2 ^ s : Nat) : Int) := by
  unfold ishl
  rw [show min s IntKind.u64.bits = s by simp only [IntKind.bits]; omega, show ((c : Int) * 2 ^ s) = ((c * 2 ^ s : Nat) : Int) by push_cast; rfl]
  exact wrap_u64_in (by omega) (by omega)
theorem byt_nat (m : Nat) : (byt (m : Int)).toNat = m % 256 := by
  have := wrap_byt (m : Int)
  rw [IntKind.wrap_u8] at this
  omega
theorem pbytes_get (a : Wd) : ∀ (k i : Nat), k ≤ 32 → i < k → (pbytes a k).1.getD (31 - i) 0 = wbyte a i
  | 0, i, _, h => by omega
  | k + 1, i, hk, h => by
    have hl := (pbytes a k).2
    simp only [pbytes_s, Rt.set, List.getD_eq_getElem?_getD, List.getElem?_set]
    by_cases hi : i = k
    · subst hi
      rw [if_pos rfl, if_pos (by omega)]; rfl
    · rw [if_neg (by omega)]
      have := pbytes_get a k i (by omega) (by omega)
      rwa [List.getD_eq_getElem?_getD] at this
/-- The limb j after k bytes. -/
theorem wfold_get (a : Wd) (ha : ∀ n ∈ a.1, 0 ≤ n ∧ n < 18446744073709551616) : ∀ (k j : Nat), k ≤ 32 → j < 4 → (wfold (wbytes a) k).1.getD j 0 = (((a.1.getD j 0).toNat % 2 ^ (8 * (min (k - 8 * j) 8)) : Nat) : Int)
  | 0, j, _, hj => by
    have : (8 * min (0 - 8 * j) 8) = 0 := by omega
    rw [this, Nat.pow_zero, Nat.mod_one]
    have hj' : j = 0 ∨ j = 1 ∨ j = 2 ∨ j = 3 := by omega
    rw [wfold_0]
    rcases hj' with rfl | rfl | rfl | rfl <;> rfl
  | k + 1, j, hk, hj => by
    have ih := wfold_get a ha k
    have hl := (wfold (wbytes a) k).2
    have hal := a.2
    simp only [wfold_s, wstep, Wd.set, List.getD_eq_getElem?_getD, List.getElem?_set]
    by_cases hjk : j = k / 8
    · subst hjk
      rw [if_pos rfl, if_pos (by omega)]
      have e1 := ih (k / 8) (by omega) (by omega)
      rw [List.getD_eq_getElem?_getD] at e1
      have e2 : (wbytes a).1[31 - k]?.getD 0 = wbyte a k := by
        have := pbytes_get a 32 k (by omega) (by omega)
        rwa [List.getD_eq_getElem?_getD] at this
      rw [e1, e2]
      have hmem : a.1.getD (k / 8) 0 ∈ a.1 := by rw [List.getD_eq_getElem?_getD, List.getElem?_eq_getElem (by omega)]; exact List.getElem_mem _
      have hb := ha _ hmem
      obtain ⟨x, hx⟩ : ∃ x : Nat, a.1.getD (k / 8) 0 = (x : Int) := ⟨(a.1.getD (k / 8) 0).toNat, by omega⟩
      simp only [wbyte, hx, Int.toNat_natCast]
      rw [hx] at hb
      have hs : 8 * (k % 8) < 64 := by omega
      rw [ishr_nat _ _ hs, byt_nat]
      simp only [Option.getD_some]
      have m1 : min (k - 8 * (k / 8)) 8 = k % 8 := by omega
      have m2 : min (k + 1 - 8 * (k / 8)) 8 = k % 8 + 1 := by omega
      rw [m1, m2]
      have e3 : x % 2 ^ (8 * (k % 8 + 1)) = x % 2 ^ (8 * (k % 8)) + x / 2 ^ (8 * (k % 8)) % 256 * 2 ^ (8 * (k % 8)) := by
        rw [Nat.mul_add, Nat.mul_one, Nat.pow_add, Nat.mod_mul, Nat.mul_comm (2 ^ (8 * (k % 8)))]
      have hlt : x % 2 ^ (8 * (k % 8)) + x / 2 ^ (8 * (k % 8)) % 256 * 2 ^ (8 * (k % 8)) < 18446744073709551616 := by
        rw [← e3]; exact Nat.lt_of_le_of_lt (Nat.mod_le _ _) (by omega)
      have hx2 : a.1[k / 8]?.getD 0 = (x : Int) := by rw [← List.getD_eq_getElem?_getD]; exact hx
      rw [ishl_nat hs (by omega), or_add (Nat.mod_lt _ (Nat.two_pow_pos _)) hlt, hx2, Int.toNat_natCast, e3]
    · rw [if_neg (by omega)]
      have e1 := ih j (by omega) hj
      rw [List.getD_eq_getElem?_getD] at e1
      rw [e1]
      have : min (k + 1 - 8 * j) 8 = min (k - 8 * j) 8 := by omega
      rw [this]; simp [List.getD_eq_getElem?_getD]
theorem wof_wbytes (a : Wd) (ha : ∀ n ∈ a.1, 0 ≤ n ∧ n < 18446744073709551616) : wof (wbytes a) = a := by
  apply Subtype.ext
  have h1 := (wof (wbytes a)).2
  have h2 := a.2
  apply List.ext_getElem (by omega)
  intro j hj1 hj2
  have := wfold_get a ha 32 j (by omega) (by omega)
  have e : (wof (wbytes a)).1.getD j 0 = (wof (wbytes a)).1[j] := by rw [List.getD_eq_getElem?_getD, List.getElem?_eq_getElem hj1]; rfl
  have e2 : a.1.getD j 0 = a.1[j] := by rw [List.getD_eq_getElem?_getD, List.getElem?_eq_getElem hj2]; rfl
  rw [← e]
  refine this.trans ?_
  rw [e2, show min (32 - 8 * j) 8 = 8 by omega]
  have hb := ha _ (List.getElem_mem hj2)
  rw [Nat.mod_eq_of_lt (by omega)]
  omega
theorem wstep_rt0 : ∀ k : Fin 32, wstep rt0 wd0 k.val = wd0 := by decide +kernel
theorem wfold_rt0 : ∀ k, k ≤ 32 → wfold rt0 k = wd0
  | 0, _ => wfold_0 _
  | k + 1, h => by rw [wfold_s, wfold_rt0 k (by omega)]; exact wstep_rt0 ⟨k, by omega⟩
theorem wof_rt0 : wof rt0 = wd0 := wfold_rt0 32 (Nat.le_refl _)
theorem rWide_back (a : Wd) (ha : ∀ n ∈ a.1, 0 ≤ n ∧ n < 18446744073709551616) : Back wd0 a (wbytes a).1 rWide := by
  have h := rRoot_back (wbytes a)
  refine ⟨fun t => ?_, fun k hk => ?_, fun bs e he => ?_⟩
  · simp only [rWide, h.full, wof_wbytes a ha]
  · simp only [rWide, h.cut k hk, wof_rt0]
  · simp only [rWide, h.sticky bs e he, wof_rt0]
theorem rCp_back (c : Cp) (h0 : 0 ≤ c.ep) (h1 : c.ep < 18446744073709551616) : Back cp0 c (cenc c) rCp := by
  have hu := rUint_back (n := c.ep.toNat) (m := maxU) (by omega) (by simp only [maxU]; omega)
  have hr := rRoot_back c.rt
  have hz : rCp = fun bs e => rCp bs e := rfl
  refine ⟨fun t => ?_, fun k hk => ?_, fun bs e he => ?_⟩
  · have e1 := hu.full (c.rt.1 ++ t)
    (try simp only at e1)
    simp only [rCp, cenc, List.append_assoc, e1, hr.full, ne_eq, not_true_eq_false, if_false]
    rw [show ((c.ep.toNat : Nat) : Int) = c.ep by omega]
  · by_cases hk1 : k < (uenc c.ep.toNat).length
    · have e1 := hu.cut k hk1
      (try simp only at e1)
      have e2 : (cenc c).take k = (uenc c.ep.toNat).take k := by rw [cenc, List.take_append_of_le_length (by omega)]
      simp only [rCp, e2, e1]
      rw [hr.sticky _ 5 (by decide)]
      simp
    · have e1 := hu.full (c.rt.1.take (k - (uenc c.ep.toNat).length))
      (try simp only at e1)
      have e2 : (cenc c).take k = uenc c.ep.toNat ++ c.rt.1.take (k - (uenc c.ep.toNat).length) := by rw [cenc, List.take_append, List.take_of_length_le (by omega)]
      have e3 := hr.cut (k - (uenc c.ep.toNat).length) (by rw [cenc, List.length_append] at hk; omega)
      simp only [rCp, e2, e1, e3]
      simp
  · have e1 := hu.sticky bs e he
    (try simp only at e1)
    simp only [rCp, e1, hr.sticky bs e he, ne_eq, he, not_false_eq_true, if_true]
theorem rBytes_back (x : List UInt8) (m : Int) (h0 : (x.length : Int) ≤ m) (h1 : x.length ≤ 140737488355328) (h2 : m < 9223372036854775808) : Back [] x (xenc x) (fun bs e => rBytes bs e m) := by
  have hu := rUint_back (n := x.length) (m := maxU) (by omega) (by simp only [maxU]; omega)
  have hm : ¬ m < 0 := by omega
  have hw : IntKind.u64.wrap m = m := wrap_u64_in (by omega) (by omega)
  refine ⟨fun t => ?_, fun k hk => ?_, fun bs e he => ?_⟩
  · have e1 := hu.full (x ++ t)
    (try simp only at e1)
    simp only [rBytes, xenc, List.append_assoc, e1, ne_eq, not_true_eq_false, if_false, hw]
    rw [if_neg (by omega), if_neg (by rw [List.length_append]; omega)]
    simp
  · by_cases hk1 : k < (uenc x.length).length
    · have e1 := hu.cut k hk1
      (try simp only at e1)
      have e2 : (xenc x).take k = (uenc x.length).take k := by rw [xenc, List.take_append_of_le_length (by omega)]
      simp only [rBytes, e2, e1]
      simp
    · have e1 := hu.full (x.take (k - (uenc x.length).length))
      (try simp only at e1)
      have e2 : (xenc x).take k = uenc x.length ++ x.take (k - (uenc x.length).length) := by rw [xenc, List.take_append, List.take_of_length_le (by omega)]
      have hk2 : k - (uenc x.length).length < x.length := by rw [xenc, List.length_append] at hk; omega
      simp only [rBytes, e2, e1, ne_eq, not_true_eq_false, if_false, hw]
      rw [if_neg (by omega), if_pos (by rw [List.length_take]; omega)]
  · have e1 := hu.sticky bs e he
    (try simp only at e1)
    simp only [rBytes, e1, ne_eq, he, not_false_eq_true, if_true]
end Go.Proofs.Ytdkahoohedljhaa
