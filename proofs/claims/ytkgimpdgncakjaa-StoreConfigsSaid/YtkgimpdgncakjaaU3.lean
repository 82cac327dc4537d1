/-
 My texts Mc, Md, joined.
-/
import Derived.Test.YtkgimpdgncakjaaU2
import Derived.Test.YtkgimpdgncakjaaV7
namespace Go.Proofs.Ytkgimpdgncakjaa
open Go Go.FH Go.RowKit
set_option linter.unusedVariables false
set_option linter.unusedSimpArgs false
set_option maxRecDepth 8000
set_option maxHeartbeats 4000000
section
variable{fr:Fr}{σ:St}{rs:List dd_}{G:aB_→Prop}{l:List AV}{a:Int}{b:Rt}{c:Cp}{d:List Int}
end
section
variable{fr:Fr}{σ:St}{rs:List dd_}{G:as_→Prop}{l:List AV}{c:Cp}{d:List Int}
end
end Go.Proofs.Ytkgimpdgncakjaa
