/-
 The law RecordsChanged.
-/
import Derived.Test.YtipiipgpnkpejaaGreatU4
import Derived.Test.YtipiipgpnkpejaaGreatV1
import Derived.Test.YtipiipgpnkpejaaGreatV2
import Derived.Test.YtipiipgpnkpejaaGreatW5
namespace Go.Proofs.YtipiipgpnkpejaaGreat
open Go Go.FH Go.RowKit
set_option linter.unusedVariables false
set_option linter.unusedSimpArgs false
set_option maxRecDepth 8000
set_option maxHeartbeats 4000000
theorem OO_(a b:Int):∃u:UInt8,GH_ .u8 a b=(u.toNat:Int):=⟨_,rG_ _⟩
end Go.Proofs.YtipiipgpnkpejaaGreat
