/-
  Operations: the reference reads one.
-/
import Derived.Test.YtachiahepppajabGh
namespace Go.Proofs.Ytachiahepppajab
open Go Go.FH Go.RowKit
set_option linter.unusedVariables false
set_option linter.unusedSimpArgs false

theorem PuL_op0 : PuL (sOpC sOp0) := (PuL_sOpC _).2 ⟨trivial, ⟨trivial, trivial⟩, trivial⟩
/-- What the reference answers: the operation, the bytes that it takes, what is wrong. -/
def nOp (b : List UInt8) : OpV × Int × Int := if (rOp b).2.2 ≠ 0 then (opZ, 0, (rOp b).2.2) else ((rOp b).1, ((b.length - (rOp b).2.1.length : Nat) : Int), 0)
theorem wk_res3 {x : SOp} {y : OpV} (n e : Int) (h : WkC (sOpC x) (sOpC (opL y))) : Wk (.tup [.agg (sOpC x), .int .i64 n, .int .i64 e]) (.tup [.agg (sOpC (opL y)), .int .i64 n, .int .i64 e]) := Wk.tup ⟨Wk.agg h, Wk.refl _, Wk.refl _, trivial⟩
theorem nOp_bad {b : List UInt8} {x : OpV} {l : List UInt8} {e : Int} (h : rOp b = (x, l, e)) (he : e ≠ 0) : nOp b = (opZ, 0, e) := by simp [nOp, h, he]
theorem nOp_ok {b : List UInt8} {x : OpV} {l : List UInt8} (h : rOp b = (x, l, 0)) : nOp b = (x, ((b.length - l.length : Nat) : Int), 0) := by simp [nOp, h]

end Go.Proofs.Ytachiahepppajab
