/- Joined. -/
import Derived.Test.YtmpddimhleianaaGreatO2v
import Derived.Test.YtmpddimhleianaaGreatR1v
import Derived.Test.YtmpddimhleianaaGreatO1v
set_option linter.unusedVariables false
set_option linter.unusedSimpArgs false
set_option maxRecDepth 8000
set_option maxHeartbeats 4000000
namespace Go.Proofs.YtmpddimhleianaaGreat
open Go Go.FH Go.RowKit
def P9(s:al):Int:=if valA s≠0 then valA s else if 1048576<(pp s).length then 11 else 0
def aaD(s:al):List UInt8:=if P9 s=0 then pp s else []
structure abn(s:al):Prop where
 hr:Ly s.sto
 nw:U64 s.sto.now
 q:s.reqs.length<=2097152
 y:s.rets.length<=2097152
 d:∀r∈s.reqs,0<=r.due
 w:valA s=0->SN s/\aas s
end Go.Proofs.YtmpddimhleianaaGreat
