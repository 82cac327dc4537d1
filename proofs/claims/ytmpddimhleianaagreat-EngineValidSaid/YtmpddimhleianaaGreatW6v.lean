/- Joined. -/
import Derived.Test.YtmpddimhleianaaGreatW3v
import Derived.Test.YtmpddimhleianaaGreatChecked
import Derived.KernelRfl
set_option maxRecDepth 100000
set_option maxHeartbeats 200000
namespace Go.Proofs.YtmpddimhleianaaGreat
open Go Go.FH
def yO:am:=nfO (P:=Tryz.prog) 44
theorem JG:cE Tryz.prog 44=some (126,[.cell 2 true 150,.tmp 3],yO):=by kernel_rfl
def ck:am:=nfO (P:=Tryz.prog) 117
theorem Ef:cE Tryz.prog 117=some (108,[.cell 4 true 150,.tmp 5,.tmp 6],ck):=by kernel_rfl
def cw:am:=(sR [wZ 3 150 0,wZ 4 33 1,wZ 5 33 2,oo 6 (.new (ak i6))]
(sR [lA 16 150 3,lA 17 33 4,lA 18 33 5,kC 19 286 16 17 18,om 15 19,eX 20 0 15,eX 21 1 15,eX 22 2 15,oo 7 (.new (cpC cp0)),oo 8 (.new (cpC cp0)),sO 33 7 20,sO 33 8 21,om 9 22]
(.seq (sR [om 23 9,wO 24 23]
(cN 24
(sR [lA 25 150 3,sO 150 6 25]
.ret)
.skip))
(sR [fA 26 149 3,lF 27 1 26,fA 28 0 7,lF 29 1 28,kB 30 287 27 29,fA 31 149 3,sO 1 31 30]
(sR [lA 32 33 8,fA 33 47 3,fA 34 33 33,lA 35 33 34,oo 36 (.eqa [(33,1)] true (.t 32) (.t 35)),om 10 36]
(.seq (.dreg [(lA 37 33 7,0),(lA 38 33 8,0),(fA 39 47 3,1),(fA 40 0 39,5),(sO 33 40 37,13),(fA 41 47 3,31),(fA 42 33 41,63),(sO 33 42 38,127)])
(.seq (sR [om 43 10,wO 44 43]
(cN 44
(sR [lA 45 150 3,sO 150 6 45]
.ret)
.skip))
(.seq (.dreg [(fA 47 115 3,0),(lA 48 1 47,1),(fA 49 115 3,0),(lA 50 1 49,4),(fA 51 1 8,0),(lA 52 32 51,16),(kB 53 32 50 52,60),(kB 54 288 48 53,127),(om 46 54,255),(eX 55 0 46,511),(eX 56 1 46,511),(eX 57 2 46,511),(fA 58 115 3,1023),(sO 1 58 55,5119)])
(.seq (sR [fA 59 115 3,lA 60 1 59,fA 61 117 3,lA 62 32 61,kB 63 32 60 62,bC 64 .lss 63 (ci 0)]
(cN 64
(.reg [oo 65 (.bld (rtc rt0) []),fA 66 117 3,sO 32 66 65])
.skip))
(sR [lA 68 150 3,fA 69 0 8,lF 70 1 69,kB 71 133 68 70,om 67 71,eX 72 0 67,eX 73 1 67,om 11 72,om 12 73]
(sR [oo 13 (.mv (.c (.sl 0 true [])))]
(.seq (sR [wR 14 0]
(.block 0 (.loop (.seq (sR [om 74 14,fA 75 113 3,fA 76 1 75,lF 77 1 76,lN 78 77,bI 79 .lss 74 78]
(cN 79
.skip
(.exit 0)))
(.seq (.block 1 (sR [fA 82 113 3,fA 83 1 82,lF 84 1 83,om 85 14,iX 86 238 84 85,fA 87 66 86,lF 88 1 87,om 89 11,bI 90 .gtr 88 89]
(cN 90
(.reg [om 91 13,fA 92 113 3,fA 93 1 92,lF 94 1 93,om 95 14,iX 96 238 94 95,lA 97 238 96,oo 98 (.bldS 238 1 (au dx) [(0,(.t 97))]),oo 99 (.app 238 336 (.t 91) (.t 98)),om 13 99])
.skip)))
(.reg [om 80 14,bC 81 .add 80 (ci 1),om 14 81]))))))
(sR [om 100 13,fA 101 113 3,fA 102 1 101,sO 1 102 100]
(sR [lA 103 150 3,sO 150 6 103]
.ret))))))))))))))
theorem BB:cE Tryz.prog 202=some (104,[.cell 6 true 150],cw):=by kernel_rfl
def bq:am:=nfO (P:=Tryz.prog) 203
theorem pe:cE Tryz.prog 203=some (99,[.tmp 4,.tmp 5],bq):=by kernel_rfl
def zu:am:=nfO (P:=Tryz.prog) 286
theorem ab2:cE Tryz.prog 286=some (118,[.cell 6 true 33,.cell 7 true 33,.tmp 8],zu):=by kernel_rfl
def ul:am:=nfO (P:=Tryz.prog) 14
theorem Eg:cE Tryz.prog 14=some (26,[.cell 2 true 252,.tmp 3,.tmp 4],ul):=by kernel_rfl
def vG:am:=nfO (P:=Tryz.prog) 21
theorem HK:cE Tryz.prog 21=some (42,[.cell 4 true 252,.tmp 5,.tmp 6],vG):=by kernel_rfl
def kM:am:=(sR [wZ 1 252 0,oo 2 (.new (aG mB)),oo 3 (.mv (.c (.sl 0 true [])))]
(sR [fA 5 0 1,lA 6 150 5,kA 7 30 6,oo 4 (.new (bH jB)),sO 96 4 7]
(.seq (sR [fA 8 153 1,lF 9 1 8,om 10 9,wB 11 154 1 10,wF 12 96 11 10,wF 13 96 4 10,og 14 (.eqa [(96,1)] false (.t 12) (.t 13)) 10 true,wN 15 10 14]
(cN 15
(sR [lA 16 252 1,sO 252 2 16,oo 3 (.mv (.c (.sl 0 true [])))]
.ret)
.skip))
(.seq (.dreg [(lA 17 96 4,0),(fA 18 153 1,0),(on (.sto 1 (.t 18) (cb true)),2),(fA 19 154 1,7),(sO 96 19 17,15)])
(.seq (.dreg [(lA 20 252 1,0),(lA 21 96 4,0),(oo 22 (.bldO 96 1 (bH jB) [(0,(.t 21))]),2),(sO 252 2 20,1),(om 3 22,15)])
.ret)))))
theorem HI:cE Tryz.prog 45=some (23,[.cell 2 true 252,.tmp 3],kM):=by kernel_rfl
def qT:am:=nfO (P:=Tryz.prog) 58
theorem zy:cE Tryz.prog 58=some (87,[.cell 4 true 252,.tmp 5],qT):=by kernel_rfl
def qU:am:=nfO (P:=Tryz.prog) 122
theorem zA:cE Tryz.prog 122=some (95,[.cell 4 true 252,.tmp 5],qU):=by kernel_rfl
def um:am:=nfO (P:=Tryz.prog) 215
theorem Ei:cE Tryz.prog 215=some (48,[.cell 4 true 35,.cell 5 true 252,.tmp 6],um):=by kernel_rfl
def dz:am:=nfO (P:=Tryz.prog) 216
theorem Eh:cE Tryz.prog 216=some (117,[.cell 4 true 252],dz):=by kernel_rfl
def vB:am:=nfO (P:=Tryz.prog) 18
theorem HE:cE Tryz.prog 18=some (13,[.cell 2 true 252],vB):=by kernel_rfl
def vA:am:=nfO (P:=Tryz.prog) 49
theorem HD:cE Tryz.prog 49=some (234,[.cell 6 true 238],vA):=by kernel_rfl
def jM:am:=nfO (P:=Tryz.prog) 50
theorem nT:cE Tryz.prog 50=some (104,[.cell 4 true 67],jM):=by kernel_rfl
def vC:am:=nfO (P:=Tryz.prog) 52
theorem HF:cE Tryz.prog 52=some (73,[.cell 4 true 34],vC):=by kernel_rfl
def rK:am:=nfO (P:=Tryz.prog) 53
theorem BA:cE Tryz.prog 53=some (106,[.cell 4 true 34],rK):=by kernel_rfl
def AW:am:=nfO (P:=Tryz.prog) 48
theorem Me:cE Tryz.prog 48=some (59,[.cell 2 true 45,.tmp 3,.cell 4 true 252],AW):=by kernel_rfl
def yN:am:=nfO (P:=Tryz.prog) 98
theorem JE:cE Tryz.prog 98=some (38,[.cell 2 true 4],yN):=by kernel_rfl
def uk:am:=nfO (P:=Tryz.prog) 12
theorem Ee:cE Tryz.prog 12=some (67,[.cell 2 true 45],uk):=by kernel_rfl
def Fl:am:=nfO (P:=Tryz.prog) 19
theorem Qb:cE Tryz.prog 19=some (59,[.cell 6 true 446],Fl):=by kernel_rfl
end Go.Proofs.YtmpddimhleianaaGreat
