/-
  The laws RecordsAttestations, RecordsSlashings.
-/
import Derived.Test.YtachiahepppajabFb
namespace Go.Proofs.Ytachiahepppajab
open Go Go.FH Go.RowKit
set_option linter.unusedVariables false
set_option linter.unusedSimpArgs false

theorem U64.of {n : Int} (h : (Lit.int .u64 n).wf = true) : U64 n := ⟨(bounds_u64 h).1, by have := (bounds_u64 h).2; omega⟩
end Go.Proofs.Ytachiahepppajab
