/- Joined. -/
import Derived.Test.YtmpddimhleianaaGreatO2
import Derived.Test.YtmpddimhleianaaGreatW3
import Derived.Test.YtmpddimhleianaaGreatChecked
import Derived.KernelRfl
import Derived.Test.YtmpddimhleianaaGreatO1
import Derived.Test.YtmpddimhleianaaGreatP1
set_option linter.unusedVariables false
set_option linter.unusedSimpArgs false
set_option maxRecDepth 8000
set_option maxHeartbeats 4000000
namespace Go.Proofs.YtmpddimhleianaaGreat
open Go Go.FH Go.RowKit
def pn(s:aI):Int:=if valA s≠0 then valA s else if 1048576<(ej s).length then 11 else 0
def Dt(s:aI):List UInt8:=if pn s=0 then ej s else []
structure afK(s:aI):Prop where
 hr:Qw s.sto
 nw:U64 s.sto.now
 q:s.reqs.length<=2097152
 y:s.rets.length<=2097152
 d:∀r∈s.reqs,0<=r.due
 w:valA s=0->AB s/\Dk s
end Go.Proofs.YtmpddimhleianaaGreat
