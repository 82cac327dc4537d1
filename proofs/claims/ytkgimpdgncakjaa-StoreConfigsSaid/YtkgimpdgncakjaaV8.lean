/-
 My texts Na, Nb, Nc, joined.
-/
import Derived.Test.YtkgimpdgncakjaaV7
namespace Go.Proofs.Ytkgimpdgncakjaa
open Go Go.FH Go.RowKit
set_option linter.unusedVariables false
set_option linter.unusedSimpArgs false
set_option maxRecDepth 8000
set_option maxHeartbeats 4000000
end Go.Proofs.Ytkgimpdgncakjaa
