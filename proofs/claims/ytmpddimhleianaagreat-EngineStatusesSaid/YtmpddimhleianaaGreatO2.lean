/- Joined. -/
import Derived.Test.YtmpddimhleianaaGreatO1
import Derived.Test.YtmpddimhleianaaGreatW8
import Derived.Test.YtmpddimhleianaaGreatW3
import Derived.Test.YtmpddimhleianaaGreatChecked
import Derived.KernelRfl
import Derived.Test.YtmpddimhleianaaGreatV7
set_option linter.unusedVariables false
set_option linter.unusedSimpArgs false
set_option maxRecDepth 8000
set_option maxHeartbeats 4000000
namespace Go.Proofs.YtmpddimhleianaaGreat
open Go Go.FH Go.RowKit
def eE(s:aI):List UInt8:=fW s.over++fW s.halt
def eD(s:aI):List UInt8:=(if s.sent=true then QO s.last else [])++eE s
def eC(s:aI):List UInt8:=iE s.tag++(fW s.sent++eD s)
def eB(s:aI):List UInt8:=lsE mZ s.reqs++(lsE mZ s.rets++eC s)
def eA(s:aI):List UInt8:=iE s.sto.now++(s.sto.boost.1++(lsE pU s.sto.tabs++eB s))
def e9(s:aI):List UInt8:=lsE rZ s.sto.nodes++eA s
def e8(s:aI):List UInt8:=lsE i9 s.sto.orph++e9 s
def e7(s:aI):List UInt8:=lsE sC s.sto.early++e8 s
def e6(s:aI):List UInt8:=dt s.sto.j++(dt s.sto.f++e7 s)
def e5(s:aI):List UInt8:=lsE iE s.sto.eqv++e6 s
def e4(s:aI):List UInt8:=lsE rd s.sto.latest++e5 s
structure Dk(s:aI):Prop where
 w:(ej s).length<=1099511627776
end Go.Proofs.YtmpddimhleianaaGreat
