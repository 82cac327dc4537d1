/-
  Records are read back. Plain laws.
-/
import Derived.Test.YtachiahepppajabMj
import Derived.Test.YtachiahepppajabMf
namespace Go.Proofs.Ytachiahepppajab
open Go Go.FH Go.RowKit
set_option linter.unusedVariables false
set_option linter.unusedSimpArgs false

theorem rU_full {n : Int} (h : U64 n) (t : List UInt8) : rUint (uenc n.toNat ++ t) 0 maxU = (n, t, 0) := by
  have h0 := h.lo
  have h1 := h.hi
  have := (rUint_back (n := n.toNat) (m := maxU) (by omega) (by simp only [maxU]; omega)).full t
  (try simp only at this)
  rw [this, show ((n.toNat : Nat) : Int) = n by omega]
theorem rU_most {n m : Int} (h0 : 0 ≤ n) (h1 : n ≤ m) (h2 : m < 18446744073709551616) (t : List UInt8) : rUint (uenc n.toNat ++ t) 0 m = (n, t, 0) := by
  have := (rUint_back (n := n.toNat) (m := m) (by omega) (by omega)).full t
  (try simp only at this)
  rw [this, show ((n.toNat : Nat) : Int) = n by omega]
theorem rC_full {c : Cp} (h : U64 c.ep) (t : List UInt8) : rCp (cenc c ++ t) 0 = (c, t, 0) := (rCp_back c h.lo h.hi).full t
theorem rR_full (r : Rt) (t : List UInt8) : rRoot (r.1 ++ t) 0 = (r, t, 0) := (rRoot_back r).full t

theorem rLst_full {l : List Int} (hv : vErr l 1024 = 0) (t : List UInt8) : ∀ (k i : Nat), l.length - i = k → i ≤ l.length → rLst k (if i = 0 then -1 else l.getD (i - 1) 0) (l.take i) (lFrom l i ++ t) 0 = (l, t, 0)
  | 0, i, hk, hi => by
    have : i = l.length := by omega
    subst this
    rw [lFrom_end (by omega), rLst, List.take_length, List.nil_append]
  | k + 1, i, hk, hi => by
    have hlt : i < l.length := by omega
    have hd := vErr_step hv hlt
    rw [lFrom_step hlt, rLst, if_neg (by simp), List.append_assoc, rU_most hd.1 (by omega) (by omega)]
    have e : (if i = 0 then -1 else l.getD (i - 1) 0) + 1 + dstep l i = l.getD i 0 := by
      unfold dstep
      split
      · subst_vars; omega
      · omega
    have e2 : l.take i ++ [l.getD i 0] = l.take (i + 1) := by
      rw [List.take_add_one, List.getD_eq_getElem?_getD, List.getElem?_eq_getElem hlt]; rfl
    simp only
    rw [e, e2]
    have := rLst_full hv t k (i + 1) (by omega) (by omega)
    rw [if_neg (by omega), Nat.add_sub_cancel] at this
    exact this
theorem rL_full {l : List Int} (hv : vErr l 1024 = 0) (t : List UInt8) : rList (lenc l ++ t) 0 = (l, t, 0) := by
  have hl := vErr_len (n := 1024) hv
  have h1 := rU_most (n := l.length) (m := 1024) (by omega) (by omega) (by omega) (lFrom l 0 ++ t)
  rw [Int.toNat_natCast] at h1
  unfold rList
  rw [lenc, List.append_assoc, h1]
  have := rLst_full hv t _ 0 rfl (by omega)
  simpa using this
theorem rNums_full : ∀ (l acc : List Int) (t : List UInt8), (∀ n ∈ l, U64 n) → rNums l.length acc (nenc l ++ t) 0 = (acc ++ l, t, 0)
  | [], acc, t, _ => by simp [rNums, nenc]
  | n :: l, acc, t, h => by
    rw [List.length_cons, rNums, if_neg (by simp), nenc, List.append_assoc, rU_full (h n (by simp))]
    simp only
    rw [rNums_full l (acc ++ [n]) t (fun m hm => h m (by simp [hm]))]
    simp

theorem rAtt_full (x : Att) (l : List Int) (h1 : U64 x.slot) (h2 : U64 x.target.ep) (hv : vErr l 1024 = 0) : rAtt (aenc x l) 0 = ((x.slot, x.root, x.target, l), [], 0) := by
  have e := rL_full hv []
  rw [List.append_nil] at e
  unfold rAtt
  simp only [aenc, List.append_assoc, rU_full h1, rR_full, rC_full h2, e]
theorem rClm_full {x : Clm} {l : List Int} {cl : Bool} (h : ClmU x l cl) (hv : vErr l 1024 = 0) (t : List UInt8) : rClm (clenc x l ++ t) 0 = ((x.src, x.tgt, x.root, l), t, 0) := by
  unfold rClm
  simp only [clenc, List.append_assoc, rU_full h.src, rU_full h.tgt, rR_full, rL_full hv]
theorem rSlg_full {x : Slg} {l1 l2 : List Int} {c1 c2 : Bool} (h1 : ClmU x.fst l1 c1) (h2 : ClmU x.snd l2 c2) (v1 : vErr l1 1024 = 0) (v2 : vErr l2 1024 = 0) : rSlg (slenc x l1 l2) 0 = (((x.fst.src, x.fst.tgt, x.fst.root, l1), (x.snd.src, x.snd.tgt, x.snd.root, l2)), [], 0) := by
  have e := rClm_full h2 v2 []
  rw [List.append_nil] at e
  unfold rSlg
  simp only [slenc, rClm_full h1 v1, e]
theorem rTab_full {x : Tab} {l : List Int} {cl : Bool} (h : TabU x l cl) (hl : l.length ≤ 1024) : rTab (tenc x l) 0 = ((x.cp, l), [], 0) := by
  have h1 := rU_most (n := l.length) (m := 1024) (by omega) (by omega) (by omega) (nenc l)
  rw [Int.toNat_natCast] at h1
  have e := rNums_full l [] [] h.all
  rw [List.append_nil] at e
  unfold rTab
  simp only [tenc, cenc, List.append_assoc, rU_full h.ep, rR_full, h1, Int.toNat_natCast, e]
  rfl
theorem rVdt_full (x : Vdt) (h1 : U64 x.tag) (h2 : ¬ vBad x) : rVdt (venc x) 0 = (x, [], 0) := by
  unfold vBad at h2
  have e := rR_full x.latest []
  rw [List.append_nil] at e
  unfold rVdt
  simp only [venc, List.append_assoc, rU_full h1, rU_most (n := x.kind) (m := 4) (by omega) (by omega) (by omega), e]
theorem rBlk_full (x : Blk) (h : BlkU x) (hd : ∀ n ∈ x.diff.1, 0 ≤ n ∧ n < 18446744073709551616) (hp : ∀ n ∈ x.pdiff.1, 0 ≤ n ∧ n < 18446744073709551616) (t : List UInt8) : rBlk (kenc x ++ t) 0 = (x, t, 0) := by
  have w1 := fun t => (rWide_back x.diff hd).full t
  have w2 := fun t => (rWide_back x.pdiff hp).full t
  have b1 := fun t => (rBool_back x.timely).full t
  unfold rBlk
  simp only [kenc, List.append_assoc, rU_full h.slot, rR_full, w1, w2, rC_full h.just, rC_full h.fin, rC_full h.j, rC_full h.f, b1]
end Go.Proofs.Ytachiahepppajab
