/-
  Operations: the reference encodes the field that a kind uses.
-/
import Derived.Test.YtachiahepppajabGc
namespace Go.Proofs.Ytachiahepppajab
open Go Go.FH Go.RowKit
set_option linter.unusedVariables false
set_option linter.unusedSimpArgs false

end Go.Proofs.Ytachiahepppajab
