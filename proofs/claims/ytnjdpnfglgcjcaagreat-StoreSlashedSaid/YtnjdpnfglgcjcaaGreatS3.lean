/-
 My texts Rh, joined.
-/
import Derived.Test.YtnjdpnfglgcjcaaGreatS2
import Derived.Test.YtnjdpnfglgcjcaaGreatR1
set_option linter.unusedVariables false
set_option linter.unusedSimpArgs false
set_option maxRecDepth 8000
set_option maxHeartbeats 4000000
namespace Go.Proofs.YtnjdpnfglgcjcaaGreat
open Go Go.FH Go.RowKit
theorem E6(n:Int):0<=gr .i64 n 16777215/\gr .i64 n 16777215<16777216:=by
 unfold gr
 have h:(BitVec.ofInt IntKind.i64.bits n &&& BitVec.ofInt IntKind.i64.bits 16777215).toNat<=16777215:=by
  rw[BitVec.toNat_and];exact Nat.le_trans Nat.and_le_right (by decide)
 rw[aK (by omega) (by omega)];omega
theorem Uj{s:am}{b:Blk}(h0:(cq s b).2.2≠0):(cq s b).1=d9/\(cq s b).2.1=[]:=by
 unfold cq at h0 ⊢;split
 ·rename_i h1;rw[if_pos h1]at h0;split
  ·exact⟨rfl,rfl⟩
  ·rename_i h2;rw[if_neg h2]at h0;exact absurd rfl h0
 ·rename_i h1;rw[if_neg h1]at h0;split
  ·exact⟨rfl,rfl⟩
  ·rename_i h2;rw[if_neg h2]at h0;exact absurd rfl h0
end Go.Proofs.YtnjdpnfglgcjcaaGreat
