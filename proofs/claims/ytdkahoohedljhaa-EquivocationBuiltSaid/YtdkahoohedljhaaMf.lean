/-
  My texts Ef, Eg, Eh, Ei, joined.
-/
import Derived.Test.YtdkahoohedljhaaMe
import Derived.Test.YtdkahoohedljhaaMd
import Derived.Test.YtdkahoohedljhaaMc
namespace Go.Proofs.Ytdkahoohedljhaa
open Go Go.FH Go.RowKit
set_option linter.unusedVariables false
set_option linter.unusedSimpArgs false

theorem vErr_lt {l : List Int} {n : Int} (h : vErr l n = 0) : ∀ j, j < l.length → (j : Int) ≤ l.getD j 0
  | 0, hj => by have := ((vErr_ok h).2 0 hj).1; omega
  | j + 1, hj => by
    have h1 := vErr_lt h j (by omega)
    have h2 := ((vErr_ok h).2 (j + 1) hj).2.2 (by omega)
    simp only [Nat.add_sub_cancel] at h2
    omega
theorem vErr_len {l : List Int} {n : Nat} (h : vErr l n = 0) : l.length ≤ n := by
  by_cases h0 : l.length = 0
  · omega
  · have h1 := vErr_lt h (l.length - 1) (by omega)
    have h2 := ((vErr_ok h).2 (l.length - 1) (by omega)).2.1
    omega
theorem lFrom_le {l : List Int} (hv : vErr l 1024 = 0) : ∀ (k i : Nat), l.length - i = k → (lFrom l i).length ≤ 10 * k
  | 0, i, hk => by rw [lFrom_end (by omega)]; simp
  | k + 1, i, hk => by
    rw [lFrom_step (by omega), List.length_append]
    have h1 := lFrom_le hv k (i + 1) (by omega)
    have h2 := vErr_step hv (j := i) (by omega)
    have h3 := uenc_len10 (n := (dstep l i).toNat) (by omega)
    omega
theorem lenc_le {l : List Int} (hv : vErr l 1024 = 0) : (lenc l).length ≤ 10250 := by
  have h1 := vErr_len (n := 1024) hv
  have h2 := lFrom_le hv _ 0 rfl
  have h3 := uenc_len10 (n := l.length) (by omega)
  rw [lenc, List.length_append]
  omega

/-- The bytes of an attestation. -/
def aenc (x : Att) (l : List Int) : List UInt8 := uenc x.slot.toNat ++ x.root.1 ++ cenc x.target ++ lenc l
structure U64 (n : Int) : Prop where
  lo : 0 ≤ n
  hi : n < 18446744073709551616
theorem U64.len {n : Int} (h : U64 n) : (uenc n.toNat).length ≤ 10 := uenc_len10 (by have := h.lo; have := h.hi; omega)
theorem cenc_le {c : Cp} (h : U64 c.ep) : (cenc c).length ≤ 42 := by
  have := h.len
  have := c.rt.2
  rw [cenc, List.length_append]; omega

end Go.Proofs.Ytdkahoohedljhaa

namespace Go.Proofs.Ytdkahoohedljhaa
open Go Go.FH Go.RowKit
set_option linter.unusedVariables false
set_option linter.unusedSimpArgs false

/-- The bytes of a verdict. -/
def venc (x : Vdt) : List UInt8 := uenc x.tag.toNat ++ uenc x.kind.toNat ++ x.latest.1
def vBad (x : Vdt) : Prop := x.kind < 1 ∨ 4 < x.kind
instance (x : Vdt) : Decidable (vBad x) := inferInstanceAs (Decidable (_ ∨ _))
/-- The bytes of a block. -/
def kenc (x : Blk) : List UInt8 := uenc x.slot.toNat ++ x.root.1 ++ x.parent.1 ++ x.payload.1 ++ (wbytes x.diff).1 ++ (wbytes x.pdiff).1 ++ cenc x.just ++ cenc x.fin ++ cenc x.pul.j ++ cenc x.pul.f ++ benc x.timely
structure BlkU (x : Blk) : Prop where
  slot : U64 x.slot
  just : U64 x.just.ep
  fin : U64 x.fin.ep
  j : U64 x.pul.j.ep
  f : U64 x.pul.f.ep
end Go.Proofs.Ytdkahoohedljhaa

namespace Go.Proofs.Ytdkahoohedljhaa
open Go Go.FH Go.RowKit
set_option linter.unusedVariables false
set_option linter.unusedSimpArgs false

/-- The bytes of a claim. -/
def clenc (x : Clm) (l : List Int) : List UInt8 := uenc x.src.toNat ++ uenc x.tgt.toNat ++ x.root.1 ++ lenc l
structure ClmU (x : Clm) (l : List Int) (cl : Bool) : Prop where
  src : U64 x.src
  tgt : U64 x.tgt
  vals : x.vals = .sl 1 cl (nums .i64 l)
  len : l.length ≤ 140737488355328
theorem clenc_le {x : Clm} {l : List Int} {cl : Bool} (h : ClmU x l cl) (hv : vErr l 1024 = 0) : (clenc x l).length ≤ 10302 := by
  have := h.src.len
  have := h.tgt.len
  have := lenc_le hv
  have := x.root.2
  simp only [clenc, List.length_append]; omega
theorem ClmU.good {x : Clm} {l : List Int} {cl : Bool} (h : ClmU x l cl) : x.good = true := by rw [Clm.good, h.vals]; rfl
theorem ClmU.pu {x : Clm} {l : List Int} {cl : Bool} (h : ClmU x l cl) : x.Pure := by rw [Clm.Pure, h.vals]; exact Pu_nums _ _

theorem ClmU.map {x : Clm} {l : List Int} {cl : Bool} (h : ClmU x l cl) (ρ : Nat → Nat) : x.map (ren ρ) = x := by
  have hv := h.vals
  obtain ⟨s, t, r, v⟩ := x
  simp only at hv
  subst hv
  simp only [Clm.map, ren, renLL_nums]

def slErr (l1 l2 : List Int) : Int := if vErr l1 1024 = 0 then vErr l2 1024 else vErr l1 1024
/-- The bytes of a slashing. -/
def slenc (x : Slg) (l1 l2 : List Int) : List UInt8 := clenc x.fst l1 ++ clenc x.snd l2

end Go.Proofs.Ytdkahoohedljhaa

namespace Go.Proofs.Ytdkahoohedljhaa
open Go Go.FH Go.RowKit
set_option linter.unusedVariables false
set_option linter.unusedSimpArgs false

structure TabU (x : Tab) (l : List Int) (cl : Bool) : Prop where
  ep : U64 x.cp.ep
  bals : x.bals = .sl 1 cl (nums .u64 l)
  all : ∀ n ∈ l, U64 n
  len : l.length ≤ 140737488355328
/-- The bytes of a table. -/
def tenc (x : Tab) (l : List Int) : List UInt8 := cenc x.cp ++ uenc l.length ++ nenc l
theorem nenc_le : ∀ {l : List Int}, (∀ n ∈ l, U64 n) → (nenc l).length ≤ 10 * l.length
  | [], _ => by simp [nenc]
  | n :: l, h => by
    have h1 := nenc_le (l := l) (fun m hm => h m (by simp [hm]))
    have h2 := (h n (by simp)).len
    simp only [nenc, List.length_append, List.length_cons]; omega
theorem nenc_drop {l : List Int} {i : Nat} (h : i < l.length) : nenc (l.drop i) = uenc (l.getD i 0).toNat ++ nenc (l.drop (i + 1)) := by
  rw [List.drop_eq_getElem_cons h, nenc, List.getD_eq_getElem?_getD, List.getElem?_eq_getElem h]; rfl
theorem TabU.good {x : Tab} {l : List Int} {cl : Bool} (h : TabU x l cl) : x.good = true := by rw [Tab.good, h.bals]; rfl
theorem TabU.pu {x : Tab} {l : List Int} {cl : Bool} (h : TabU x l cl) : x.Pure := by rw [Tab.Pure, h.bals]; exact Pu_nums _ _
theorem TabU.getD {x : Tab} {l : List Int} {cl : Bool} (h : TabU x l cl) {i : Nat} (hi : i < l.length) : U64 (l.getD i 0) := by
  rw [List.getD_eq_getElem?_getD, List.getElem?_eq_getElem hi]; exact h.all _ (List.getElem_mem hi)

end Go.Proofs.Ytdkahoohedljhaa
