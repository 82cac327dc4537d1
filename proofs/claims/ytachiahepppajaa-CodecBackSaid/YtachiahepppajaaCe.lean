/-
  The law CodecSums.
-/
import Derived.Test.YtachiahepppajaaCd
import Derived.Test.YtachiahepppajaaBo
namespace Go.Proofs.Ytachiahepppajaa
open Go Go.FH Go.RowKit
set_option linter.unusedVariables false
set_option linter.unusedSimpArgs false

theorem codecSums_pc (bs : List UInt8) (cl : Bool) (hb : bs.length ≤ 9223372036854775807) : PC Try.prog 3 [.sl 1 cl (bts bs)] (.bool true) := by
  refine PC.fact 3 f_law4_CodecSums (by simp) ⟨Pu_bts bs, trivial⟩ trivial ?_
  unfold c_law4_CodecSums
  repeat (first | with_reducible (first | refine tri_seq ?_ | refine tri_block ?_ | refine tri_reg ?_ | refine tri_dreg (by simp only [List.length_cons, List.length_nil]) ?_ | refine tri_skip ?_ | refine tri_exit ?_ | refine tri_ret ?_) | ((simp only [go_sem, Nat.reduceAdd, Nat.reduceSub, Nat.reduceMul, Nat.reduceLT, Nat.reduceLeDiff, Nat.reduceEqDiff, reduceIte, Int.reduceToNat, Int.reduceLT, Int.reduceLE, Int.reduceEq, Int.reduceNeg, reduceCtorEq, Int.reduceBEq, Int.reduceBNe])) | with_reducible refine And.intro (okH_of (by decide)) ?_ | (with_reducible refine And.intro ?_ ?_; first | omega | decide | (simp; done) | (simp; omega)))
  refine tri_cond (by (try simp only [go_sem, Nat.reduceAdd, Nat.reduceSub, Nat.reduceMul, Nat.reduceLT, Nat.reduceLeDiff, Nat.reduceEqDiff, reduceIte, Int.reduceToNat, Int.reduceLT, Int.reduceLE, Int.reduceEq, Int.reduceNeg, reduceCtorEq, Int.reduceBEq, Int.reduceBNe]); try rfl) (fun h => ?_) (fun h => ?_)
  · repeat (first | with_reducible (first | refine tri_seq ?_ | refine tri_block ?_ | refine tri_reg ?_ | refine tri_dreg (by simp only [List.length_cons, List.length_nil]) ?_ | refine tri_skip ?_ | refine tri_exit ?_ | refine tri_ret ?_) | ((simp only [go_sem, Nat.reduceAdd, Nat.reduceSub, Nat.reduceMul, Nat.reduceLT, Nat.reduceLeDiff, Nat.reduceEqDiff, reduceIte, Int.reduceToNat, Int.reduceLT, Int.reduceLE, Int.reduceEq, Int.reduceNeg, reduceCtorEq, Int.reduceBEq, Int.reduceBNe])) | with_reducible refine And.intro (okH_of (by decide)) ?_ | (with_reducible refine And.intro ?_ ?_; first | omega | decide | (simp; done) | (simp; omega)))
    refine pcall awake4_walk ?_
    repeat (first | with_reducible (first | refine tri_seq ?_ | refine tri_block ?_ | refine tri_reg ?_ | refine tri_dreg (by simp only [List.length_cons, List.length_nil]) ?_ | refine tri_skip ?_ | refine tri_exit ?_ | refine tri_ret ?_) | ((simp only [go_sem, Nat.reduceAdd, Nat.reduceSub, Nat.reduceMul, Nat.reduceLT, Nat.reduceLeDiff, Nat.reduceEqDiff, reduceIte, Int.reduceToNat, Int.reduceLT, Int.reduceLE, Int.reduceEq, Int.reduceNeg, reduceCtorEq, Int.reduceBEq, Int.reduceBNe])) | with_reducible refine And.intro (okH_of (by decide)) ?_ | (with_reducible refine And.intro ?_ ?_; first | omega | decide | (simp; done) | (simp; omega)))
    refine ⟨_, (by first | rfl | ((try simp only [go_sem, Nat.reduceAdd, Nat.reduceSub, Nat.reduceMul, Nat.reduceLT, Nat.reduceLeDiff, Nat.reduceEqDiff, reduceIte, Int.reduceToNat, Int.reduceLT, Int.reduceLE, Int.reduceEq, Int.reduceNeg, reduceCtorEq, Int.reduceBEq, Int.reduceBNe]); try rfl)), .inl ?_⟩; (try simp only [go_sem, Nat.reduceAdd, Nat.reduceSub, Nat.reduceMul, Nat.reduceLT, Nat.reduceLeDiff, Nat.reduceEqDiff, reduceIte, Int.reduceToNat, Int.reduceLT, Int.reduceLE, Int.reduceEq, Int.reduceNeg, reduceCtorEq, Int.reduceBEq, Int.reduceBNe])
  · repeat (first | with_reducible (first | refine tri_seq ?_ | refine tri_block ?_ | refine tri_reg ?_ | refine tri_dreg (by simp only [List.length_cons, List.length_nil]) ?_ | refine tri_skip ?_ | refine tri_exit ?_ | refine tri_ret ?_) | ((simp only [go_sem, Nat.reduceAdd, Nat.reduceSub, Nat.reduceMul, Nat.reduceLT, Nat.reduceLeDiff, Nat.reduceEqDiff, reduceIte, Int.reduceToNat, Int.reduceLT, Int.reduceLE, Int.reduceEq, Int.reduceNeg, reduceCtorEq, Int.reduceBEq, Int.reduceBNe])) | with_reducible refine And.intro (okH_of (by decide)) ?_ | (with_reducible refine And.intro ?_ ?_; first | omega | decide | (simp; done) | (simp; omega)))
    refine pcall (sum_walk _ _ hb) ?_
    repeat (first | with_reducible (first | refine tri_seq ?_ | refine tri_block ?_ | refine tri_reg ?_ | refine tri_dreg (by simp only [List.length_cons, List.length_nil]) ?_ | refine tri_skip ?_ | refine tri_exit ?_ | refine tri_ret ?_) | ((simp only [go_sem, Nat.reduceAdd, Nat.reduceSub, Nat.reduceMul, Nat.reduceLT, Nat.reduceLeDiff, Nat.reduceEqDiff, reduceIte, Int.reduceToNat, Int.reduceLT, Int.reduceLE, Int.reduceEq, Int.reduceNeg, reduceCtorEq, Int.reduceBEq, Int.reduceBNe])) | with_reducible refine And.intro (okH_of (by decide)) ?_ | (with_reducible refine And.intro ?_ ?_; first | omega | decide | (simp; done) | (simp; omega)))
    refine pcall (rsum_walk _ _ hb) ?_
    repeat (first | with_reducible (first | refine tri_seq ?_ | refine tri_block ?_ | refine tri_reg ?_ | refine tri_dreg (by simp only [List.length_cons, List.length_nil]) ?_ | refine tri_skip ?_ | refine tri_exit ?_ | refine tri_ret ?_) | ((simp only [go_sem, Nat.reduceAdd, Nat.reduceSub, Nat.reduceMul, Nat.reduceLT, Nat.reduceLeDiff, Nat.reduceEqDiff, reduceIte, Int.reduceToNat, Int.reduceLT, Int.reduceLE, Int.reduceEq, Int.reduceNeg, reduceCtorEq, Int.reduceBEq, Int.reduceBNe])) | with_reducible refine And.intro (okH_of (by decide)) ?_ | (with_reducible refine And.intro ?_ ?_; first | omega | decide | (simp; done) | (simp; omega)))
    refine pcall awake4_walk ?_
    repeat (first | with_reducible (first | refine tri_seq ?_ | refine tri_block ?_ | refine tri_reg ?_ | refine tri_dreg (by simp only [List.length_cons, List.length_nil]) ?_ | refine tri_skip ?_ | refine tri_exit ?_ | refine tri_ret ?_) | ((simp only [go_sem, Nat.reduceAdd, Nat.reduceSub, Nat.reduceMul, Nat.reduceLT, Nat.reduceLeDiff, Nat.reduceEqDiff, reduceIte, Int.reduceToNat, Int.reduceLT, Int.reduceLE, Int.reduceEq, Int.reduceNeg, reduceCtorEq, Int.reduceBEq, Int.reduceBNe])) | with_reducible refine And.intro (okH_of (by decide)) ?_ | (with_reducible refine And.intro ?_ ?_; first | omega | decide | (simp; done) | (simp; omega)))
    refine ⟨_, (by first | rfl | ((try simp only [go_sem, Nat.reduceAdd, Nat.reduceSub, Nat.reduceMul, Nat.reduceLT, Nat.reduceLeDiff, Nat.reduceEqDiff, reduceIte, Int.reduceToNat, Int.reduceLT, Int.reduceLE, Int.reduceEq, Int.reduceNeg, reduceCtorEq, Int.reduceBEq, Int.reduceBNe]); try rfl)), .inl ?_⟩; (try simp only [go_sem, Nat.reduceAdd, Nat.reduceSub, Nat.reduceMul, Nat.reduceLT, Nat.reduceLeDiff, Nat.reduceEqDiff, reduceIte, Int.reduceToNat, Int.reduceLT, Int.reduceLE, Int.reduceEq, Int.reduceNeg, reduceCtorEq, Int.reduceBEq, Int.reduceBNe])

theorem bytes_of_ints (xs : List Int) (hx : ∀ z ∈ xs, (Lit.int .u8 z).wf = true) : ∃ bs : List UInt8, xs.map (Value.int .u8) = bs.map fun b => Value.int .u8 (b.toNat : Int) := by
  refine ⟨xs.map fun z => UInt8.ofNat z.toNat, ?_⟩
  rw [List.map_map]
  apply List.map_congr_left
  intro z hz
  have := hx z hz
  simp [Lit.wf, IntKind.min, IntKind.max, IntKind.signed, IntKind.bits] at this
  simp only [Function.comp, UInt8.toNat_ofNat']
  congr 1
  omega

theorem walk_CodecSums (w : World) (ad : Option Addr) (n c : Nat) (xs : List Int) (h : Sl w (fun _ => True) ad n c (xs.map (Value.int .u8))) (hx : ∀ z ∈ xs, (Lit.int .u8 z).wf = true) :
    Calls Try.prog 3 #[.slice ad n c] w fun e w' => e = .returned (.bool true) ∧ Below w.heap.size w w' := by
  obtain ⟨bs, hbs⟩ := bytes_of_ints xs hx
  rw [hbs] at h
  have hl := h.len
  rw [List.length_map] at hl
  have hm := h.le
  have hc := h.cmax
  exact (codecSums_pc bs false (by simp only [maxLen] at hc; omega)).law ⟨_, [], rfl, top_bytes h, rfl⟩
end Go.Proofs.Ytachiahepppajaa
