/-
 Abstract forms of bodies, each with its fact. Printed by a program of mine.
-/
import Derived.Test.YtmpddimhleianaaGreatW3v
import Derived.Test.YtmpddimhleianaaGreatChecked
import Derived.KernelRfl
set_option maxRecDepth 100000
set_option maxHeartbeats 200000
namespace Go.Proofs.YtmpddimhleianaaGreat
open Go Go.FH
def oJ:am:=(sR [wZ 2 34 0,wS 3 false]
(sR [fA 4 0 2,lA 5 33 4,fA 6 47 1,fA 7 0 6,lA 8 33 7,oo 9 (.eqa [(33,1)] false (.t 5) (.t 8)),om 3 9]
.ret))
theorem vX:cE Tryz.prog 303=some (10,[.tmp 3],oJ):=by kernel_rfl
def mH:am:=(sR [wZ 1 252 0,oo 2 (.new (aG mB)),oo 3 (.mv (.c (.sl 0 true [])))]
(sR [lA 5 252 1,kA 6 54 5,sO 252 2 6]
(sR [fA 7 0 1,lA 8 150 7,kA 9 87 8,oo 4 (.new (bH jB)),sO 96 4 9]
(.seq (sR [fA 10 153 1,lF 11 1 10,om 12 11,wB 13 154 1 12,wF 14 96 13 12,wF 15 96 4 12,og 16 (.eqa [(96,1)] false (.t 14) (.t 15)) 12 true,wN 17 12 16]
(cN 17
(sR [lA 18 252 2,sO 252 2 18,oo 3 (.mv (.c (.sl 0 true [])))]
.ret)
.skip))
(.seq (.dreg [(lA 19 96 4,0),(fA 20 153 2,0),(on (.sto 1 (.t 20) (cb true)),2),(fA 21 154 2,7),(sO 96 21 19,15)])
(.seq (.dreg [(lA 22 252 2,0),(lA 23 96 4,0),(oo 24 (.bldO 96 1 (bH jB) [(0,(.t 23))]),2),(sO 252 2 22,1),(om 3 24,15)])
.ret))))))
theorem qZ:cE Tryz.prog 43=some (25,[.cell 2 true 252,.tmp 3],mH):=by kernel_rfl
end Go.Proofs.YtmpddimhleianaaGreat
