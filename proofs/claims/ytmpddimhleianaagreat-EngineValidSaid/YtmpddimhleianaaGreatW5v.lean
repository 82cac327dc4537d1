/- Joined. -/
import Derived.Test.YtmpddimhleianaaGreatW3v
import Derived.Test.YtmpddimhleianaaGreatChecked
import Derived.KernelRfl
set_option maxRecDepth 100000
set_option maxHeartbeats 200000
namespace Go.Proofs.YtmpddimhleianaaGreat
open Go Go.FH
def qS:am:=nfO (P:=Tryz.prog) 228
theorem zx:cE Tryz.prog 228=some (18,[.tmp 4],qS):=by kernel_rfl
def pA:am:=(sR [wZ 3 33 1,wR 4 0]
(.seq (sR [wR 5 0]
(.block 0 (.loop (.seq (sR [om 6 5,om 7 0,lN 8 7,bI 9 .lss 6 8]
(cN 9
.skip
(.exit 0)))
(.seq (.block 1 (.seq (.dreg [(om 12 0,0),(om 13 5,0),(iX 14 34 12 13,3),(fA 15 0 14,7),(lA 16 33 15,15),(lA 17 33 3,0),(oo 18 (.eqa [(33,1)] false (.t 16) (.t 17)),63)])
(cN 18
(sR [om 19 5,om 4 19]
.ret)
.skip)))
(.reg [om 10 5,bC 11 .add 10 (ci 1),om 5 11]))))))
(sR [wR 4 (-1)]
.ret)))
theorem xP:cE Tryz.prog 66=some (20,[.tmp 4],pA):=by kernel_rfl
def dQ:am:=nfO (P:=Tryz.prog) 297
theorem zC:cE Tryz.prog 297=some (35,[.tmp 4],dQ):=by kernel_rfl
def oK:am:=nfO (P:=Tryz.prog) 55
theorem vY:cE Tryz.prog 55=some (24,[.tmp 2],oK):=by kernel_rfl
def oH:am:=nfO (P:=Tryz.prog) 57
theorem vU:cE Tryz.prog 57=some (64,[.tmp 2],oH):=by kernel_rfl
def rN:am:=nfO (P:=Tryz.prog) 101
theorem BD:cE Tryz.prog 101=some (59,[.tmp 2,.tmp 3],rN):=by kernel_rfl
def vI:am:=nfO (P:=Tryz.prog) 112
theorem HM:cE Tryz.prog 112=some (67,[.tmp 2,.tmp 3],vI):=by kernel_rfl
def uu:am:=(sR [wZ 1 446 0,wS 2 false]
(.seq (.dreg [(fA 6 1 1,0),(lA 7 238 6,1),(oo 8 (.bld (au dx) []),0),(oo 9 (.eqa [(237,1),(1,0)] false (.t 7) (.t 8)),7),(oo 10 (.bld [(.int .i64 (0)),(.bool false)] [(0,1,(ci 2)),(1,1,(.t 9))]),15),(fA 11 239 1,0),(lA 12 67 11,32),(kA 13 165 12,96),(oo 14 (.bld [(.int .i64 (0)),(.bool false)] [(0,1,(ci 3)),(1,1,(.t 13))]),224),(fA 15 306 1,0),(fA 16 0 15,512),(lA 17 35 16,1536),(kA 18 166 17,3808),(om 19 18,7904),(wB 20 306 1 19,16096),(wB 21 35 20 19,32480),(wF 22 35 21 19,65248),(wW 23 166 22 19,130784),(wN 24 19 23,261856),(oo 25 (.bld [(.int .i64 (0)),(.bool false)] [(0,1,(ci 4)),(1,1,(.t 24))]),524000),(fA 26 376 1,0),(fA 27 0 26,1048576),(lA 28 33 27,3145728),(oo 29 (.bld (cpC cp0) []),0),(oo 30 (.eqa [(33,1)] false (.t 28) (.t 29)),15728640),(om 31 30,32767712),(wB 32 376 1 31,66322144),(wB 33 33 32 31,133431008),(wD 34 1 33 31,267648736),(og 35 (.len false (.t 34)) 31 true,536084192),(wL 36 .eql 35 (ci 0) 31,1072955104),(wN 37 31 36,2146696928),(oo 38 (.bld [(.int .i64 (0)),(.bool false)] [(0,1,(ci 5)),(1,1,(.t 37))]),4294180576),(fA 39 410 1,0),(lA 40 34 39,8589934592),(oo 41 (.bld (dZ jn) []),0),(oo 42 (.eqa [(34,1)] false (.t 40) (.t 41)),60129542144),(oo 43 (.bld [(.int .i64 (0)),(.bool false)] [(0,1,(ci 6)),(1,1,(.t 42))]),128849018880),(fA 44 444 1,0),(lF 45 1 44,274877906944),(bC 46 .eql 45 (ci 0),824633720832),(om 47 46,1924211670752),(wB 48 445 1 47,4123234926304),(wD 49 1 48 47,8521281437408),(wL 50 .eql 49 (ci 0) 47,17317374459616),(wN 51 47 50,34909560504032),(oo 52 (.bld [(.int .i64 (0)),(.bool false)] [(0,1,(ci 8)),(1,1,(.t 51))]),70093932592864),(oo 53 (.bldS 2 6 [(.int .i64 (0)),(.bool false)] [(0,(.t 10)),(1,(.t 14)),(2,(.t 25)),(3,(.t 38)),(4,(.t 43)),(5,(.t 52))]),140737488355327),(om 3 53,281474976710655)])
(.seq (sR [om 54 3,lN 55 54,wR 56 0]
(.block 0 (.loop (sR [bI 57 .lss 56 55]
(.seq (cN 57
.skip
(.exit 0))
(.seq (.block 1 (sR [iX 58 2 54 56,lA 59 2 58,oo 5 (.new [(.int .i64 (0)),(.bool false)]),sO 2 5 59]
(sR [fA 60 0 5,lF 61 1 60,fA 62 0 1,lF 63 1 62,bI 64 .neq 61 63,om 65 64,wB 66 1 5 65,wD 67 1 66 65,wQ 68 67 65,wN 69 65 68]
(cN 69
(sR [wS 2 false]
.ret)
.skip))))
(.reg [bC 70 .add 56 (ci 1),om 56 70])))))))
(sR [wS 2 true]
.ret))))
theorem El:cE Tryz.prog 102=some (71,[.tmp 2],uu):=by kernel_rfl
def uq:am:=(sR [wZ 2 446 0,wZ 3 446 1,wS 4 false]
(sR [fA 5 0 2,lF 6 1 5,fA 7 0 3,lF 8 1 7,bI 9 .eql 6 8,om 10 9,wB 11 1 2 10,wF 12 238 11 10,wB 13 1 3 10,wF 14 238 13 10,og 15 (.eqa [(237,1),(1,0)] false (.t 12) (.t 14)) 10 true,wN 16 10 15,om 17 16,wB 18 239 2 17,wF 19 67 18 17,wB 20 239 3 17,wF 21 67 20 17,wY 22 96 19 21 17,wN 23 17 22,om 24 23,wB 25 306 2 24,wF 26 70 25 24,wB 27 306 3 24,wF 28 70 27 24,wY 29 200 26 28 24,wN 30 24 29,om 31 30,wB 32 376 2 31,wF 33 34 32 31,wB 34 376 3 31,wF 35 34 34 31,wY 36 156 33 35 31,wN 37 31 36,om 38 37,wB 39 410 2 38,wF 40 34 39 38,wB 41 410 3 38,wF 42 34 41 38,og 43 (.eqa [(34,1)] false (.t 40) (.t 42)) 38 true,wN 44 38 43,om 45 44,wB 46 444 2 45,wD 47 1 46 45,wB 48 444 3 45,wD 49 1 48 45,wJ 50 .eql 47 49 45,wN 51 45 50,om 52 51,wB 53 445 2 52,wD 54 1 53 52,wB 55 445 3 52,wD 56 1 55 52,wJ 57 .eql 54 56 52,wN 58 52 57,om 4 58]
.ret))
theorem Ej:cE Tryz.prog 113=some (59,[.tmp 4],uq):=by kernel_rfl
def qX:am:=nfO (P:=Tryz.prog) 163
theorem zE:cE Tryz.prog 163=some (9,[.tmp 2],qX):=by kernel_rfl
def kO:am:=(sR [wZ 1 67 0,wS 2 false]
(sR [fA 3 0 1,lF 4 1 3,bC 5 .eql 4 (cu 0),om 6 5,wB 7 1 1 6,wF 8 32 7 6,og 9 (.bld (rtc rt0) []) 6 true,og 10 (.eqa [(32,1)] false (.t 8) (.t 9)) 6 true,wN 11 6 10,om 12 11,wB 13 33 1 12,wF 14 33 13 12,og 15 (.bld (cpC cp0) []) 12 true,og 16 (.eqa [(33,1)] false (.t 14) (.t 15)) 12 true,wN 17 12 16,om 18 17,wB 19 66 1 18,wD 20 1 19 18,og 21 (.len false (.t 20)) 18 true,wL 22 .eql 21 (ci 0) 18,wN 23 18 22,om 2 23]
.ret))
theorem qw:cE Tryz.prog 165=some (24,[.tmp 2],kO):=by kernel_rfl
def pC:am:=nfO (P:=Tryz.prog) 166
theorem xS:cE Tryz.prog 166=some (23,[.tmp 2],pC):=by kernel_rfl
def rk:am:=nfO (P:=Tryz.prog) 249
theorem abW:cE Tryz.prog 249=some (94,[.cell 6 true 33,.cell 7 true 33,.tmp 8],rk):=by kernel_rfl
def SG:am:=(sR [wZ 2 34 0,wS 3 false]
(sR [fA 4 0 2,lA 5 33 4,lA 6 33 1,oo 7 (.eqa [(33,1)] false (.t 5) (.t 6)),om 3 7]
.ret))
theorem abU:cE Tryz.prog 320=some (8,[.tmp 3],SG):=by kernel_rfl
def rL:am:=(sR [wZ 3 150 0,wZ 4 33 1,wZ 5 33 2,oo 6 (.new (ak i6))]
(sR [lA 13 150 3,kA 14 86 13,oo 7 (.new (ak i6)),sO 150 7 14]
(sR [lA 16 150 3,lA 17 33 4,lA 18 33 5,kC 19 249 16 17 18,om 15 19,eX 20 0 15,eX 21 1 15,eX 22 2 15,oo 8 (.new (cpC cp0)),oo 9 (.new (cpC cp0)),sO 33 8 20,sO 33 9 21,om 10 22]
(.seq (sR [om 23 10,wO 24 23]
(cN 24
(sR [lA 25 150 7,sO 150 6 25]
.ret)
.skip))
(.seq (.dreg [(lA 26 33 8,0),(lA 27 33 9,0),(fA 28 47 7,1),(fA 29 0 28,5),(sO 33 29 26,13),(fA 30 47 7,31),(fA 31 33 30,63),(sO 33 31 27,127)])
(sR [fA 32 149 7,lF 33 1 32,oo 34 (.mkf (.func 251) [(.t 8)]),kB 35 250 33 34,fA 36 149 7,sO 1 36 35]
(.seq (sR [lA 37 33 9,fA 38 47 3,fA 39 33 38,lA 40 33 39,oo 41 (.eqa [(33,1)] false (.t 37) (.t 40))]
(cN 41
(sR [lA 42 150 7,sO 150 6 42]
.ret)
.skip))
(.seq (.dreg [(fA 44 115 3,0),(lA 45 1 44,1),(fA 46 115 3,0),(lA 47 1 46,4),(fA 48 1 9,0),(lA 49 32 48,16),(kB 50 125 47 49,60),(kB 51 252 45 50,127),(om 43 51,255),(eX 52 0 43,511),(eX 53 1 43,511),(eX 54 2 43,511),(fA 55 115 7,1023),(sO 1 55 52,5119)])
(.seq (sR [fA 56 115 7,lA 57 1 56,fA 58 117 7,lA 59 32 58,kB 60 125 57 59,bC 61 .lss 60 (ci 0)]
(cN 61
(.reg [oo 62 (.bld (rtc rt0) []),fA 63 117 7,sO 32 63 62])
.skip))
(sR [fA 65 0 9,lF 66 1 65,fA 67 0 3,fA 68 6 67,lF 69 1 68,kB 70 231 66 69,om 64 70,eX 71 0 64,eX 72 1 64,oo 11 (.new [(.int .u64 (0))]),sO 1 11 71,om 12 72]
(sR [fA 73 113 7,fA 74 1 73,lF 75 1 74,oo 76 (.mkf (.func 254) [(.t 11)]),kB 77 253 75 76,fA 78 113 7,fA 79 1 78,sO 1 79 77]
(sR [lA 80 150 7,sO 150 6 80]
.ret))))))))))))
theorem JF:cE Tryz.prog 169=some (81,[.cell 6 true 150],rL):=by kernel_rfl
end Go.Proofs.YtmpddimhleianaaGreat
