/-
  Operations: the reference encodes a script.
-/
import Derived.Test.YtachiahepppajabGf
namespace Go.Proofs.Ytachiahepppajab
open Go Go.FH Go.RowKit
set_option linter.unusedVariables false
set_option linter.unusedSimpArgs false

end Go.Proofs.Ytachiahepppajab
