/-
  The sums of bytes.
-/
import Derived.Test.YtachiahepppajaaKa
import Derived.Test.YtachiahepppajaaBs
namespace Go.Proofs.Ytachiahepppajaa
open Go Go.FH
set_option linter.unusedVariables false
set_option linter.unusedSimpArgs false

def sumA (a x : Int) : Int := (IntKind.u64.wrap (IntKind.u64.wrap (a + IntKind.u64.wrap x) + 1)).tmod 4294967295
def sumB (b a : Int) : Int := (IntKind.u64.wrap (b + a)).tmod 4294967295
def sums : List UInt8 → Int → Int → Int × Int
  | [], a, b => (a, b)
  | x :: xs, a, b => sums xs (sumA a x.toNat) (sumB b (sumA a x.toNat))
def sumV (bs : List UInt8) : Int := IntKind.u64.wrap (ishl .u64 (sums bs 1 0).2 32 + (sums bs 1 0).1)

theorem sums_step {bs : List UInt8} {i : Nat} (h : i < bs.length) (a b : Int) : sums (bs.drop i) a b = sums (bs.drop (i + 1)) (sumA a bs[i].toNat) (sumB b (sumA a bs[i].toNat)) := by
  rw [List.drop_eq_getElem_cons h, sums]

set_option maxHeartbeats 4000000 in
theorem sum_walk (bs : List UInt8) (cl : Bool) (hb : bs.length ≤ 9223372036854775807) : PC Try.prog 18 [.sl 1 cl (bts bs)] (.int .u64 (sumV bs)) := by
  refine PC.fact 10 f_codec_Checksum (by simp) ⟨Pu_bts bs, trivial⟩ trivial ?_
  unfold c_codec_Checksum
  repeat (first | with_reducible (first | refine tri_seq ?_ | refine tri_block ?_ | refine tri_reg ?_ | refine tri_dreg (by simp only [List.length_cons, List.length_nil]) ?_ | refine tri_skip ?_ | refine tri_exit ?_ | refine tri_ret ?_) | ((simp only [go_sem, Nat.reduceAdd, Nat.reduceSub, Nat.reduceMul, Nat.reduceLT, Nat.reduceLeDiff, Nat.reduceEqDiff, reduceIte, Int.reduceToNat, Int.reduceLT, Int.reduceLE, Int.reduceEq, Int.reduceNeg, reduceCtorEq, Int.reduceBEq, Int.reduceBNe])) | with_reducible refine And.intro (okH_of (by decide)) ?_ | (with_reducible refine And.intro ?_ ?_; first | omega | decide | (simp; done) | (simp; omega)))
  refine tri_loopF (fun x : Nat × Int × Int => ⟨10, [.sl 1 cl (bts bs), .dead, .int .u64 0, .int .u64 x.2.1, .int .u64 x.2.2, .dead, .dead, .sl 1 cl (bts bs), .int .i64 bs.length, .int .i64 x.1], []⟩) (fun _ => []) (fun x => bs.length - x.1)
    (fun x => x.1 ≤ bs.length ∧ sums (bs.drop x.1) x.2.1 x.2.2 = sums bs 1 0) [6] (0, 1, 0) ⟨by simp, by simp⟩ (by first | ((try simp only [go_sem, Nat.reduceAdd, Nat.reduceSub, Nat.reduceMul, Nat.reduceLT, Nat.reduceLeDiff, Nat.reduceEqDiff, reduceIte, Int.reduceToNat, Int.reduceLT, Int.reduceLE, Int.reduceEq, Int.reduceNeg, reduceCtorEq, Int.reduceBEq, Int.reduceBNe]); done) | ((try simp only [go_sem, Nat.reduceAdd, Nat.reduceSub, Nat.reduceMul, Nat.reduceLT, Nat.reduceLeDiff, Nat.reduceEqDiff, reduceIte, Int.reduceToNat, Int.reduceLT, Int.reduceLE, Int.reduceEq, Int.reduceNeg, reduceCtorEq, Int.reduceBEq, Int.reduceBNe]); rfl)) rfl ?_
  rintro ⟨i, a, b⟩ ⟨h1, h2⟩
  dsimp only at h1 h2 ⊢
  repeat (first | with_reducible (first | refine tri_seq ?_ | refine tri_block ?_ | refine tri_reg ?_ | refine tri_dreg (by simp only [List.length_cons, List.length_nil]) ?_ | refine tri_skip ?_ | refine tri_exit ?_ | refine tri_ret ?_) | ((simp only [go_sem, Nat.reduceAdd, Nat.reduceSub, Nat.reduceMul, Nat.reduceLT, Nat.reduceLeDiff, Nat.reduceEqDiff, reduceIte, Int.reduceToNat, Int.reduceLT, Int.reduceLE, Int.reduceEq, Int.reduceNeg, reduceCtorEq, Int.reduceBEq, Int.reduceBNe])) | with_reducible refine And.intro (okH_of (by decide)) ?_ | (with_reducible refine And.intro ?_ ?_; first | omega | decide | (simp; done) | (simp; omega)))
  refine tri_cond (by (try simp only [go_sem, Nat.reduceAdd, Nat.reduceSub, Nat.reduceMul, Nat.reduceLT, Nat.reduceLeDiff, Nat.reduceEqDiff, reduceIte, Int.reduceToNat, Int.reduceLT, Int.reduceLE, Int.reduceEq, Int.reduceNeg, reduceCtorEq, Int.reduceBEq, Int.reduceBNe]); rfl) (fun h => ?_) (fun h => ?_)
  · have hi : i < bs.length := by simpa using h
    repeat (first | with_reducible (first | refine tri_seq ?_ | refine tri_block ?_ | refine tri_reg ?_ | refine tri_dreg (by simp only [List.length_cons, List.length_nil]) ?_ | refine tri_skip ?_ | refine tri_exit ?_ | refine tri_ret ?_) | ((simp only [go_sem, Nat.reduceAdd, Nat.reduceSub, Nat.reduceMul, Nat.reduceLT, Nat.reduceLeDiff, Nat.reduceEqDiff, reduceIte, Int.reduceToNat, Int.reduceLT, Int.reduceLE, Int.reduceEq, Int.reduceNeg, reduceCtorEq, Int.reduceBEq, Int.reduceBNe])) | with_reducible refine And.intro (okH_of (by decide)) ?_ | (with_reducible refine And.intro ?_ ?_; first | omega | decide | (simp; done) | (simp; omega)))
    rw [getD_bts hi]
    repeat (first | with_reducible (first | refine tri_seq ?_ | refine tri_block ?_ | refine tri_reg ?_ | refine tri_dreg (by simp only [List.length_cons, List.length_nil]) ?_ | refine tri_skip ?_ | refine tri_exit ?_ | refine tri_ret ?_) | ((simp only [go_sem, Nat.reduceAdd, Nat.reduceSub, Nat.reduceMul, Nat.reduceLT, Nat.reduceLeDiff, Nat.reduceEqDiff, reduceIte, Int.reduceToNat, Int.reduceLT, Int.reduceLE, Int.reduceEq, Int.reduceNeg, reduceCtorEq, Int.reduceBEq, Int.reduceBNe])) | with_reducible refine And.intro (okH_of (by decide)) ?_ | (with_reducible refine And.intro ?_ ?_; first | omega | decide | (simp; done) | (simp; omega)))
    refine ⟨(i + 1, sumA a bs[i].toNat, sumB b (sumA a bs[i].toNat)), ⟨hi, ?_⟩, by dsimp only; omega, ?_⟩
    · rw [← h2, sums_step hi]
    · rw [wrap_i64_succ hi hb]
      rfl
  · have hi : i = bs.length := by simp at h; omega
    subst hi
    repeat (first | with_reducible (first | refine tri_seq ?_ | refine tri_block ?_ | refine tri_reg ?_ | refine tri_dreg (by simp only [List.length_cons, List.length_nil]) ?_ | refine tri_skip ?_ | refine tri_exit ?_ | refine tri_ret ?_) | ((simp only [go_sem, Nat.reduceAdd, Nat.reduceSub, Nat.reduceMul, Nat.reduceLT, Nat.reduceLeDiff, Nat.reduceEqDiff, reduceIte, Int.reduceToNat, Int.reduceLT, Int.reduceLE, Int.reduceEq, Int.reduceNeg, reduceCtorEq, Int.reduceBEq, Int.reduceBNe])) | with_reducible refine And.intro (okH_of (by decide)) ?_ | (with_reducible refine And.intro ?_ ?_; first | omega | decide | (simp; done) | (simp; omega)))
    refine ⟨_, rfl, .inl ?_⟩
    simp only [List.drop_length, sums] at h2
    simp only [sumV, ← h2, resAV, fz]
    rfl
theorem rsum_walk (bs : List UInt8) (cl : Bool) (hb : bs.length ≤ 9223372036854775807) : PC Try.prog 19 [.sl 1 cl (bts bs)] (.int .u64 (sumV bs)) := by
  refine PC.fact 6 f_ref4_Checksum (by simp) ⟨Pu_bts bs, trivial⟩ trivial ?_
  unfold c_ref4_Checksum
  repeat (first | with_reducible (first | refine tri_seq ?_ | refine tri_block ?_ | refine tri_reg ?_ | refine tri_dreg (by simp only [List.length_cons, List.length_nil]) ?_ | refine tri_skip ?_ | refine tri_exit ?_ | refine tri_ret ?_) | ((simp only [go_sem, Nat.reduceAdd, Nat.reduceSub, Nat.reduceMul, Nat.reduceLT, Nat.reduceLeDiff, Nat.reduceEqDiff, reduceIte, Int.reduceToNat, Int.reduceLT, Int.reduceLE, Int.reduceEq, Int.reduceNeg, reduceCtorEq, Int.reduceBEq, Int.reduceBNe])) | with_reducible refine And.intro (okH_of (by decide)) ?_ | (with_reducible refine And.intro ?_ ?_; first | omega | decide | (simp; done) | (simp; omega)))
  refine tri_loopF (fun x : Nat × Int × Int => ⟨6, [.sl 1 cl (bts bs), .dead, .int .u64 0, .int .u64 x.2.1, .int .u64 x.2.2, .int .i64 x.1], []⟩) (fun _ => []) (fun x => bs.length - x.1)
    (fun x => x.1 ≤ bs.length ∧ sums (bs.drop x.1) x.2.1 x.2.2 = sums bs 1 0) [] (0, 1, 0) ⟨by simp, by simp⟩ (by first | ((try simp only [go_sem, Nat.reduceAdd, Nat.reduceSub, Nat.reduceMul, Nat.reduceLT, Nat.reduceLeDiff, Nat.reduceEqDiff, reduceIte, Int.reduceToNat, Int.reduceLT, Int.reduceLE, Int.reduceEq, Int.reduceNeg, reduceCtorEq, Int.reduceBEq, Int.reduceBNe]); done) | ((try simp only [go_sem, Nat.reduceAdd, Nat.reduceSub, Nat.reduceMul, Nat.reduceLT, Nat.reduceLeDiff, Nat.reduceEqDiff, reduceIte, Int.reduceToNat, Int.reduceLT, Int.reduceLE, Int.reduceEq, Int.reduceNeg, reduceCtorEq, Int.reduceBEq, Int.reduceBNe]); rfl)) rfl ?_
  rintro ⟨i, a, b⟩ ⟨h1, h2⟩
  dsimp only at h1 h2 ⊢
  repeat (first | with_reducible (first | refine tri_seq ?_ | refine tri_block ?_ | refine tri_reg ?_ | refine tri_dreg (by simp only [List.length_cons, List.length_nil]) ?_ | refine tri_skip ?_ | refine tri_exit ?_ | refine tri_ret ?_) | ((simp only [go_sem, Nat.reduceAdd, Nat.reduceSub, Nat.reduceMul, Nat.reduceLT, Nat.reduceLeDiff, Nat.reduceEqDiff, reduceIte, Int.reduceToNat, Int.reduceLT, Int.reduceLE, Int.reduceEq, Int.reduceNeg, reduceCtorEq, Int.reduceBEq, Int.reduceBNe])) | with_reducible refine And.intro (okH_of (by decide)) ?_ | (with_reducible refine And.intro ?_ ?_; first | omega | decide | (simp; done) | (simp; omega)))
  refine tri_cond (by (try simp only [go_sem, Nat.reduceAdd, Nat.reduceSub, Nat.reduceMul, Nat.reduceLT, Nat.reduceLeDiff, Nat.reduceEqDiff, reduceIte, Int.reduceToNat, Int.reduceLT, Int.reduceLE, Int.reduceEq, Int.reduceNeg, reduceCtorEq, Int.reduceBEq, Int.reduceBNe]); rfl) (fun h => ?_) (fun h => ?_)
  · have hi : i < bs.length := by simpa using h
    repeat (first | with_reducible (first | refine tri_seq ?_ | refine tri_block ?_ | refine tri_reg ?_ | refine tri_dreg (by simp only [List.length_cons, List.length_nil]) ?_ | refine tri_skip ?_ | refine tri_exit ?_ | refine tri_ret ?_) | ((simp only [go_sem, Nat.reduceAdd, Nat.reduceSub, Nat.reduceMul, Nat.reduceLT, Nat.reduceLeDiff, Nat.reduceEqDiff, reduceIte, Int.reduceToNat, Int.reduceLT, Int.reduceLE, Int.reduceEq, Int.reduceNeg, reduceCtorEq, Int.reduceBEq, Int.reduceBNe])) | with_reducible refine And.intro (okH_of (by decide)) ?_ | (with_reducible refine And.intro ?_ ?_; first | omega | decide | (simp; done) | (simp; omega)))
    rw [getD_bts hi]
    repeat (first | with_reducible (first | refine tri_seq ?_ | refine tri_block ?_ | refine tri_reg ?_ | refine tri_dreg (by simp only [List.length_cons, List.length_nil]) ?_ | refine tri_skip ?_ | refine tri_exit ?_ | refine tri_ret ?_) | ((simp only [go_sem, Nat.reduceAdd, Nat.reduceSub, Nat.reduceMul, Nat.reduceLT, Nat.reduceLeDiff, Nat.reduceEqDiff, reduceIte, Int.reduceToNat, Int.reduceLT, Int.reduceLE, Int.reduceEq, Int.reduceNeg, reduceCtorEq, Int.reduceBEq, Int.reduceBNe])) | with_reducible refine And.intro (okH_of (by decide)) ?_ | (with_reducible refine And.intro ?_ ?_; first | omega | decide | (simp; done) | (simp; omega)))
    refine ⟨(i + 1, sumA a bs[i].toNat, sumB b (sumA a bs[i].toNat)), ⟨hi, ?_⟩, by dsimp only; omega, ?_⟩
    · rw [← h2, sums_step hi]
    · rw [wrap_i64_succ hi hb]
      rfl
  · have hi : i = bs.length := by simp at h; omega
    subst hi
    repeat (first | with_reducible (first | refine tri_seq ?_ | refine tri_block ?_ | refine tri_reg ?_ | refine tri_dreg (by simp only [List.length_cons, List.length_nil]) ?_ | refine tri_skip ?_ | refine tri_exit ?_ | refine tri_ret ?_) | ((simp only [go_sem, Nat.reduceAdd, Nat.reduceSub, Nat.reduceMul, Nat.reduceLT, Nat.reduceLeDiff, Nat.reduceEqDiff, reduceIte, Int.reduceToNat, Int.reduceLT, Int.reduceLE, Int.reduceEq, Int.reduceNeg, reduceCtorEq, Int.reduceBEq, Int.reduceBNe])) | with_reducible refine And.intro (okH_of (by decide)) ?_ | (with_reducible refine And.intro ?_ ?_; first | omega | decide | (simp; done) | (simp; omega)))
    refine ⟨_, rfl, .inl ?_⟩
    simp only [List.drop_length, sums] at h2
    simp only [sumV, ← h2, resAV, fz]
    rfl

theorem clip_walk (bs : List UInt8) (cl : Bool) : PC Try.prog 81 [.sl 1 cl (bts bs)] (.sl 1 true (bts bs)) := by
  refine PC.fact 3 f_slices_Clip_byte_byte (by simp) ⟨Pu_bts bs, trivial⟩ (Pu_bts bs) ?_
  unfold c_slices_Clip_byte_byte
  repeat (first | with_reducible (first | refine tri_seq ?_ | refine tri_block ?_ | refine tri_reg ?_ | refine tri_dreg (by simp only [List.length_cons, List.length_nil]) ?_ | refine tri_skip ?_ | refine tri_exit ?_ | refine tri_ret ?_) | ((simp only [go_sem, Nat.reduceAdd, Nat.reduceSub, Nat.reduceMul, Nat.reduceLT, Nat.reduceLeDiff, Nat.reduceEqDiff, reduceIte, Int.reduceToNat, Int.reduceLT, Int.reduceLE, Int.reduceEq, Int.reduceNeg, reduceCtorEq, Int.reduceBEq, Int.reduceBNe])) | with_reducible refine And.intro (okH_of (by decide)) ?_ | (with_reducible refine And.intro ?_ ?_; first | omega | decide | (simp; done) | (simp; omega)))
  refine ⟨_, (by first | rfl | ((try simp only [go_sem, Nat.reduceAdd, Nat.reduceSub, Nat.reduceMul, Nat.reduceLT, Nat.reduceLeDiff, Nat.reduceEqDiff, reduceIte, Int.reduceToNat, Int.reduceLT, Int.reduceLE, Int.reduceEq, Int.reduceNeg, reduceCtorEq, Int.reduceBEq, Int.reduceBNe]); rfl)), .inl ?_⟩; (try simp only [go_sem, Nat.reduceAdd, Nat.reduceSub, Nat.reduceMul, Nat.reduceLT, Nat.reduceLeDiff, Nat.reduceEqDiff, reduceIte, Int.reduceToNat, Int.reduceLT, Int.reduceLE, Int.reduceEq, Int.reduceNeg, reduceCtorEq, Int.reduceBEq, Int.reduceBNe])

/-- A number as bytes of seven bits. -/
def uenc (n : Nat) : List UInt8 := if h : n < 128 then [UInt8.ofNat n] else UInt8.ofNat (n % 128 + 128) :: uenc (n / 128)
termination_by n
decreasing_by omega

theorem uenc_big {n : Nat} (h : 128 ≤ n) : uenc n = UInt8.ofNat (n % 128 + 128) :: uenc (n / 128) := by rw [uenc, dif_neg (by omega)]
theorem uenc_small {n : Nat} (h : n < 128) : uenc n = [UInt8.ofNat n] := by rw [uenc, dif_pos h]
theorem uhi_all : ∀ k : Fin 256, ior .u8 ((k.val : Nat) : Int) 128 = ((k.val % 128 + 128 : Nat) : Int) := by decide +kernel
theorem uhi (m : Nat) : ior .u8 (IntKind.u8.wrap (m : Int)) 128 = ((UInt8.ofNat (m % 128 + 128)).toNat : Int) := by
  have h := uhi_all ⟨m % 256, by omega⟩
  simp only at h
  rw [show IntKind.u8.wrap (m : Int) = ((m % 256 : Nat) : Int) by rw [IntKind.wrap_u8]; omega, h]
  simp only [UInt8.toNat_ofNat']
  omega
theorem ulo {m : Nat} (h : m < 128) : IntKind.u8.wrap (m : Int) = ((UInt8.ofNat m).toNat : Int) := by
  rw [IntKind.wrap_u8]; simp only [UInt8.toNat_ofNat']; omega
theorem ushr (m : Nat) : ishr .u64 (m : Int) 7 = ((m / 128 : Nat) : Int) := by
  unfold ishr
  rw [show ((2 : Int) ^ (min 7 IntKind.u64.bits)) = ((128 : Nat) : Int) by decide]
  rw [Int.fdiv_eq_ediv_of_nonneg _ (by omega)]; rfl

theorem ruint_walk (bs : List UInt8) (n : Int) (h0 : 0 ≤ n) (h1 : n < 18446744073709551616) (hb : bs.length + (uenc n.toNat).length ≤ 140737488355328) : PC Try.prog 80 [.sl 1 true (bts bs), .int .u64 n] (.sl 1 false (bts (bs ++ uenc n.toNat))) := by
  refine PC.fact 5 f_raw_Uint (by simp) ⟨Pu_bts bs, trivial, trivial⟩ (Pu_bts _) ?_
  unfold c_raw_Uint
  repeat (first | with_reducible (first | refine tri_seq ?_ | refine tri_block ?_ | refine tri_reg ?_ | refine tri_dreg (by simp only [List.length_cons, List.length_nil]) ?_ | refine tri_skip ?_ | refine tri_exit ?_ | refine tri_ret ?_) | ((simp only [go_sem, Nat.reduceAdd, Nat.reduceSub, Nat.reduceMul, Nat.reduceLT, Nat.reduceLeDiff, Nat.reduceEqDiff, reduceIte, Int.reduceToNat, Int.reduceLT, Int.reduceLE, Int.reduceEq, Int.reduceNeg, reduceCtorEq, Int.reduceBEq, Int.reduceBNe])) | with_reducible refine And.intro (okH_of (by decide)) ?_ | (with_reducible refine And.intro ?_ ?_; first | omega | decide | (simp; done) | (simp; omega)))
  refine tri_loopG (fun x : Bool × List UInt8 × Nat => ⟨5, [if x.1 then .hs 1 0 0 x.2.1.length else .sl 1 true (bts x.2.1), .int .u64 x.2.2, .dead, .dead, .dead], []⟩) (fun x => if x.1 then [.vec 1 (bts x.2.1)] else []) (fun x => x.2.2)
    (fun x => x.2.1 ++ uenc x.2.2 = bs ++ uenc n.toNat ∧ x.2.2 < 18446744073709551616) (false, bs, n.toNat) ⟨rfl, by dsimp only; omega⟩ ?_ ?_
  · refine GC.mk' [] [] (by simp) rfl (by simp) (by simp) (by simp [objsOk]) ?_
    simp [slotsOk, fz, fzLL_bts, ren, renLL_bts]
    omega
  rintro ⟨st, acc, m⟩ ⟨h2, h3⟩
  dsimp only at h2 h3 ⊢
  have hl : acc.length + (uenc m).length = bs.length + (uenc n.toNat).length := by simpa using congrArg List.length h2
  cases st
  · repeat (first | with_reducible (first | refine tri_seq ?_ | refine tri_block ?_ | refine tri_reg ?_ | refine tri_dreg (by simp only [List.length_cons, List.length_nil]) ?_ | refine tri_skip ?_ | refine tri_exit ?_ | refine tri_ret ?_) | ((simp only [go_sem, Nat.reduceAdd, Nat.reduceSub, Nat.reduceMul, Nat.reduceLT, Nat.reduceLeDiff, Nat.reduceEqDiff, reduceIte, Int.reduceToNat, Int.reduceLT, Int.reduceLE, Int.reduceEq, Int.reduceNeg, reduceCtorEq, Int.reduceBEq, Int.reduceBNe])) | with_reducible refine And.intro (okH_of (by decide)) ?_ | (with_reducible refine And.intro ?_ ?_; first | omega | decide | (simp; done) | (simp; omega)))
    refine tri_cond (by (try simp only [go_sem, Nat.reduceAdd, Nat.reduceSub, Nat.reduceMul, Nat.reduceLT, Nat.reduceLeDiff, Nat.reduceEqDiff, reduceIte, Int.reduceToNat, Int.reduceLT, Int.reduceLE, Int.reduceEq, Int.reduceNeg, reduceCtorEq, Int.reduceBEq, Int.reduceBNe]); rfl) (fun h => ?_) (fun h => ?_)
    · have hm : 128 ≤ m := by simp at h; omega
      rw [uenc_big hm] at h2 hl
      simp only [List.length_cons] at hl
      repeat (first | with_reducible (first | refine tri_seq ?_ | refine tri_block ?_ | refine tri_reg ?_ | refine tri_dreg (by simp only [List.length_cons, List.length_nil]) ?_ | refine tri_skip ?_ | refine tri_exit ?_ | refine tri_ret ?_) | ((simp only [go_sem, Nat.reduceAdd, Nat.reduceSub, Nat.reduceMul, Nat.reduceLT, Nat.reduceLeDiff, Nat.reduceEqDiff, reduceIte, Int.reduceToNat, Int.reduceLT, Int.reduceLE, Int.reduceEq, Int.reduceNeg, reduceCtorEq, Int.reduceBEq, Int.reduceBNe])) | with_reducible refine And.intro (okH_of (by decide)) ?_ | (with_reducible refine And.intro ?_ ?_; first | omega | decide | (simp; done) | (simp; omega)))
      simp only [ushr, uhi]
      (try simp only [go_sem, Nat.reduceAdd, Nat.reduceSub, Nat.reduceMul, Nat.reduceLT, Nat.reduceLeDiff, Nat.reduceEqDiff, reduceIte, Int.reduceToNat, Int.reduceLT, Int.reduceLE, Int.reduceEq, Int.reduceNeg, reduceCtorEq, Int.reduceBEq, Int.reduceBNe])
      refine ⟨(true, acc ++ [UInt8.ofNat (m % 128 + 128)], m / 128), ⟨by simpa using h2, by dsimp only; omega⟩, by dsimp only; omega, ?_⟩
      refine GC.mk' [] [0] (by simp) rfl (by simp) (by simp) (by (try simp only [go_sem, Nat.reduceAdd, Nat.reduceSub, Nat.reduceMul, Nat.reduceLT, Nat.reduceLeDiff, Nat.reduceEqDiff, reduceIte, Int.reduceToNat, Int.reduceLT, Int.reduceLE, Int.reduceEq, Int.reduceNeg, reduceCtorEq, Int.reduceBEq, Int.reduceBNe]); try rfl) (by (try simp only [go_sem, Nat.reduceAdd, Nat.reduceSub, Nat.reduceMul, Nat.reduceLT, Nat.reduceLeDiff, Nat.reduceEqDiff, reduceIte, Int.reduceToNat, Int.reduceLT, Int.reduceLE, Int.reduceEq, Int.reduceNeg, reduceCtorEq, Int.reduceBEq, Int.reduceBNe]); try rfl)
    · have hm : m < 128 := by simp at h; omega
      rw [uenc_small hm] at h2 hl
      simp only [List.length_cons, List.length_nil] at hl
      repeat (first | with_reducible (first | refine tri_seq ?_ | refine tri_block ?_ | refine tri_reg ?_ | refine tri_dreg (by simp only [List.length_cons, List.length_nil]) ?_ | refine tri_skip ?_ | refine tri_exit ?_ | refine tri_ret ?_) | ((simp only [go_sem, Nat.reduceAdd, Nat.reduceSub, Nat.reduceMul, Nat.reduceLT, Nat.reduceLeDiff, Nat.reduceEqDiff, reduceIte, Int.reduceToNat, Int.reduceLT, Int.reduceLE, Int.reduceEq, Int.reduceNeg, reduceCtorEq, Int.reduceBEq, Int.reduceBNe])) | with_reducible refine And.intro (okH_of (by decide)) ?_ | (with_reducible refine And.intro ?_ ?_; first | omega | decide | (simp; done) | (simp; omega)))
      rw [← h2]
      simp only [ulo hm]
      (try simp only [go_sem, Nat.reduceAdd, Nat.reduceSub, Nat.reduceMul, Nat.reduceLT, Nat.reduceLeDiff, Nat.reduceEqDiff, reduceIte, Int.reduceToNat, Int.reduceLT, Int.reduceLE, Int.reduceEq, Int.reduceNeg, reduceCtorEq, Int.reduceBEq, Int.reduceBNe])
      refine ⟨_, (by first | rfl | ((try simp only [go_sem, Nat.reduceAdd, Nat.reduceSub, Nat.reduceMul, Nat.reduceLT, Nat.reduceLeDiff, Nat.reduceEqDiff, reduceIte, Int.reduceToNat, Int.reduceLT, Int.reduceLE, Int.reduceEq, Int.reduceNeg, reduceCtorEq, Int.reduceBEq, Int.reduceBNe]); rfl)), .inl ?_⟩; (try simp only [go_sem, Nat.reduceAdd, Nat.reduceSub, Nat.reduceMul, Nat.reduceLT, Nat.reduceLeDiff, Nat.reduceEqDiff, reduceIte, Int.reduceToNat, Int.reduceLT, Int.reduceLE, Int.reduceEq, Int.reduceNeg, reduceCtorEq, Int.reduceBEq, Int.reduceBNe])
  · repeat (first | with_reducible (first | refine tri_seq ?_ | refine tri_block ?_ | refine tri_reg ?_ | refine tri_dreg (by simp only [List.length_cons, List.length_nil]) ?_ | refine tri_skip ?_ | refine tri_exit ?_ | refine tri_ret ?_) | ((simp only [go_sem, Nat.reduceAdd, Nat.reduceSub, Nat.reduceMul, Nat.reduceLT, Nat.reduceLeDiff, Nat.reduceEqDiff, reduceIte, Int.reduceToNat, Int.reduceLT, Int.reduceLE, Int.reduceEq, Int.reduceNeg, reduceCtorEq, Int.reduceBEq, Int.reduceBNe])) | with_reducible refine And.intro (okH_of (by decide)) ?_ | (with_reducible refine And.intro ?_ ?_; first | omega | decide | (simp; done) | (simp; omega)))
    refine tri_cond (by (try simp only [go_sem, Nat.reduceAdd, Nat.reduceSub, Nat.reduceMul, Nat.reduceLT, Nat.reduceLeDiff, Nat.reduceEqDiff, reduceIte, Int.reduceToNat, Int.reduceLT, Int.reduceLE, Int.reduceEq, Int.reduceNeg, reduceCtorEq, Int.reduceBEq, Int.reduceBNe]); rfl) (fun h => ?_) (fun h => ?_)
    · have hm : 128 ≤ m := by simp at h; omega
      rw [uenc_big hm] at h2 hl
      simp only [List.length_cons] at hl
      repeat (first | with_reducible (first | refine tri_seq ?_ | refine tri_block ?_ | refine tri_reg ?_ | refine tri_dreg (by simp only [List.length_cons, List.length_nil]) ?_ | refine tri_skip ?_ | refine tri_exit ?_ | refine tri_ret ?_) | ((simp only [go_sem, Nat.reduceAdd, Nat.reduceSub, Nat.reduceMul, Nat.reduceLT, Nat.reduceLeDiff, Nat.reduceEqDiff, reduceIte, Int.reduceToNat, Int.reduceLT, Int.reduceLE, Int.reduceEq, Int.reduceNeg, reduceCtorEq, Int.reduceBEq, Int.reduceBNe])) | with_reducible refine And.intro (okH_of (by decide)) ?_ | (with_reducible refine And.intro ?_ ?_; first | omega | decide | (simp; done) | (simp; omega)))
      simp only [ushr, uhi]
      (try simp only [go_sem, Nat.reduceAdd, Nat.reduceSub, Nat.reduceMul, Nat.reduceLT, Nat.reduceLeDiff, Nat.reduceEqDiff, reduceIte, Int.reduceToNat, Int.reduceLT, Int.reduceLE, Int.reduceEq, Int.reduceNeg, reduceCtorEq, Int.reduceBEq, Int.reduceBNe])
      refine ⟨(true, acc ++ [UInt8.ofNat (m % 128 + 128)], m / 128), ⟨by simpa using h2, by dsimp only; omega⟩, by dsimp only; omega, ?_⟩
      refine GC.mk' [] [1] (by simp) rfl (by simp) (by simp) (by (try simp only [go_sem, Nat.reduceAdd, Nat.reduceSub, Nat.reduceMul, Nat.reduceLT, Nat.reduceLeDiff, Nat.reduceEqDiff, reduceIte, Int.reduceToNat, Int.reduceLT, Int.reduceLE, Int.reduceEq, Int.reduceNeg, reduceCtorEq, Int.reduceBEq, Int.reduceBNe]); try rfl) (by (try simp only [go_sem, Nat.reduceAdd, Nat.reduceSub, Nat.reduceMul, Nat.reduceLT, Nat.reduceLeDiff, Nat.reduceEqDiff, reduceIte, Int.reduceToNat, Int.reduceLT, Int.reduceLE, Int.reduceEq, Int.reduceNeg, reduceCtorEq, Int.reduceBEq, Int.reduceBNe]); try rfl)
    · have hm : m < 128 := by simp at h; omega
      rw [uenc_small hm] at h2 hl
      simp only [List.length_cons, List.length_nil] at hl
      repeat (first | with_reducible (first | refine tri_seq ?_ | refine tri_block ?_ | refine tri_reg ?_ | refine tri_dreg (by simp only [List.length_cons, List.length_nil]) ?_ | refine tri_skip ?_ | refine tri_exit ?_ | refine tri_ret ?_) | ((simp only [go_sem, Nat.reduceAdd, Nat.reduceSub, Nat.reduceMul, Nat.reduceLT, Nat.reduceLeDiff, Nat.reduceEqDiff, reduceIte, Int.reduceToNat, Int.reduceLT, Int.reduceLE, Int.reduceEq, Int.reduceNeg, reduceCtorEq, Int.reduceBEq, Int.reduceBNe])) | with_reducible refine And.intro (okH_of (by decide)) ?_ | (with_reducible refine And.intro ?_ ?_; first | omega | decide | (simp; done) | (simp; omega)))
      rw [← h2]
      simp only [ulo hm]
      (try simp only [go_sem, Nat.reduceAdd, Nat.reduceSub, Nat.reduceMul, Nat.reduceLT, Nat.reduceLeDiff, Nat.reduceEqDiff, reduceIte, Int.reduceToNat, Int.reduceLT, Int.reduceLE, Int.reduceEq, Int.reduceNeg, reduceCtorEq, Int.reduceBEq, Int.reduceBNe])
      refine ⟨_, (by first | rfl | ((try simp only [go_sem, Nat.reduceAdd, Nat.reduceSub, Nat.reduceMul, Nat.reduceLT, Nat.reduceLeDiff, Nat.reduceEqDiff, reduceIte, Int.reduceToNat, Int.reduceLT, Int.reduceLE, Int.reduceEq, Int.reduceNeg, reduceCtorEq, Int.reduceBEq, Int.reduceBNe]); rfl)), .inl ?_⟩; (try simp only [go_sem, Nat.reduceAdd, Nat.reduceSub, Nat.reduceMul, Nat.reduceLT, Nat.reduceLeDiff, Nat.reduceEqDiff, reduceIte, Int.reduceToNat, Int.reduceLT, Int.reduceLE, Int.reduceEq, Int.reduceNeg, reduceCtorEq, Int.reduceBEq, Int.reduceBNe])
theorem auint_walk (bs : List UInt8) (cl : Bool) (n : Int) (h0 : 0 ≤ n) (h1 : n < 18446744073709551616) (hb : bs.length + (uenc n.toNat).length ≤ 140737488355328) : PC Try.prog 20 [.sl 1 cl (bts bs), .int .u64 n] (.sl 1 false (bts (bs ++ uenc n.toNat))) := by
  refine PC.fact 5 f_codec_AppendUint (by simp) ⟨Pu_bts bs, trivial, trivial⟩ (Pu_bts _) ?_
  unfold c_codec_AppendUint
  repeat (first | with_reducible (first | refine tri_seq ?_ | refine tri_block ?_ | refine tri_reg ?_ | refine tri_dreg (by simp only [List.length_cons, List.length_nil]) ?_ | refine tri_skip ?_ | refine tri_exit ?_ | refine tri_ret ?_) | ((simp only [go_sem, Nat.reduceAdd, Nat.reduceSub, Nat.reduceMul, Nat.reduceLT, Nat.reduceLeDiff, Nat.reduceEqDiff, reduceIte, Int.reduceToNat, Int.reduceLT, Int.reduceLE, Int.reduceEq, Int.reduceNeg, reduceCtorEq, Int.reduceBEq, Int.reduceBNe])) | with_reducible refine And.intro (okH_of (by decide)) ?_ | (with_reducible refine And.intro ?_ ?_; first | omega | decide | (simp; done) | (simp; omega)))
  refine pcall (clip_walk _ _) ?_
  repeat (first | with_reducible (first | refine tri_seq ?_ | refine tri_block ?_ | refine tri_reg ?_ | refine tri_dreg (by simp only [List.length_cons, List.length_nil]) ?_ | refine tri_skip ?_ | refine tri_exit ?_ | refine tri_ret ?_) | ((simp only [go_sem, Nat.reduceAdd, Nat.reduceSub, Nat.reduceMul, Nat.reduceLT, Nat.reduceLeDiff, Nat.reduceEqDiff, reduceIte, Int.reduceToNat, Int.reduceLT, Int.reduceLE, Int.reduceEq, Int.reduceNeg, reduceCtorEq, Int.reduceBEq, Int.reduceBNe])) | with_reducible refine And.intro (okH_of (by decide)) ?_ | (with_reducible refine And.intro ?_ ?_; first | omega | decide | (simp; done) | (simp; omega)))
  refine pcall (ruint_walk _ _ h0 h1 hb) ?_
  repeat (first | with_reducible (first | refine tri_seq ?_ | refine tri_block ?_ | refine tri_reg ?_ | refine tri_dreg (by simp only [List.length_cons, List.length_nil]) ?_ | refine tri_skip ?_ | refine tri_exit ?_ | refine tri_ret ?_) | ((simp only [go_sem, Nat.reduceAdd, Nat.reduceSub, Nat.reduceMul, Nat.reduceLT, Nat.reduceLeDiff, Nat.reduceEqDiff, reduceIte, Int.reduceToNat, Int.reduceLT, Int.reduceLE, Int.reduceEq, Int.reduceNeg, reduceCtorEq, Int.reduceBEq, Int.reduceBNe])) | with_reducible refine And.intro (okH_of (by decide)) ?_ | (with_reducible refine And.intro ?_ ?_; first | omega | decide | (simp; done) | (simp; omega)))
  refine ⟨_, (by first | rfl | ((try simp only [go_sem, Nat.reduceAdd, Nat.reduceSub, Nat.reduceMul, Nat.reduceLT, Nat.reduceLeDiff, Nat.reduceEqDiff, reduceIte, Int.reduceToNat, Int.reduceLT, Int.reduceLE, Int.reduceEq, Int.reduceNeg, reduceCtorEq, Int.reduceBEq, Int.reduceBNe]); rfl)), .inl ?_⟩; (try simp only [go_sem, Nat.reduceAdd, Nat.reduceSub, Nat.reduceMul, Nat.reduceLT, Nat.reduceLeDiff, Nat.reduceEqDiff, reduceIte, Int.reduceToNat, Int.reduceLT, Int.reduceLE, Int.reduceEq, Int.reduceNeg, reduceCtorEq, Int.reduceBEq, Int.reduceBNe])
end Go.Proofs.Ytachiahepppajaa
