/-
 My texts Kk, Kr, Kt, Kl, joined.
-/
import Derived.Test.YtkgimpdgncakjaaGreatW3
import Derived.Test.YtkgimpdgncakjaaGreatChecked
import Derived.KernelRfl
namespace Go.Proofs.YtkgimpdgncakjaaGreat
open Go Go.FH
def rp_:ad_:=(sR [oo 1 (.box 45 (.t 0)),oo 2 (.new (ai_ bI_)),oo 3 (.mv (ci 0))]
(.seq (sR [fA 9 6 1,lF 10 1 9,bC 11 .lss 10 (cu 1),om 12 11,og 13 (.fldA 6 (.t 1)) 12 false,og 14 (.ld false 1 (.t 13)) 12 false,og 15 (.bin .gtr (.t 14) (cu 64)) 12 false,oo 16 (.pick (.t 12) (cb true) (.t 15)),om 17 16,og 18 (.fldA 7 (.t 1)) 17 false,og 19 (.ld false 1 (.t 18)) 17 false,og 20 (.bin .gtr (.t 19) (cu 100)) 17 false,oo 21 (.pick (.t 17) (cb true) (.t 20)),om 22 21,og 23 (.fldA 44 (.t 1)) 22 false,og 24 (.ld false 1 (.t 23)) 22 false,og 25 (.len false (.t 24)) 22 false,og 26 (.bin .gtr (.t 25) (ci 1024)) 22 false,oo 27 (.pick (.t 22) (cb true) (.t 26)),om 28 27,og 29 (.fldA 0 (.t 1)) 28 false,og 30 (.fldA 0 (.t 29)) 28 false,og 31 (.ld false 1 (.t 30)) 28 false,og 32 (.call (cf 139) [(.t 31),(ci 1),(ci 4096)]) 28 false,og 33 (.un .not (.t 32)) 28 false,oo 34 (.pick (.t 28) (cb true) (.t 33)),om 35 34,og 36 (.fldA 0 (.t 1)) 35 false,og 37 (.fldA 1 (.t 36)) 35 false,og 38 (.ld false 1 (.t 37)) 35 false,og 39 (.call (cf 139) [(.t 38),(ci 0),(ci 64)]) 35 false,og 40 (.un .not (.t 39)) 35 false,oo 41 (.pick (.t 35) (cb true) (.t 40)),om 42 41,og 43 (.fldA 0 (.t 1)) 42 false,og 44 (.fldA 2 (.t 43)) 42 false,og 45 (.ld false 1 (.t 44)) 42 false,og 46 (.call (cf 139) [(.t 45),(ci 0),(ci 256)]) 42 false,og 47 (.un .not (.t 46)) 42 false,oo 48 (.pick (.t 42) (cb true) (.t 47)),om 49 48,og 50 (.fldA 0 (.t 1)) 49 false,og 51 (.fldA 3 (.t 50)) 49 false,og 52 (.ld false 1 (.t 51)) 49 false,og 53 (.call (cf 139) [(.t 52),(ci 1),(ci 64)]) 49 false,og 54 (.un .not (.t 53)) 49 false,oo 55 (.pick (.t 49) (cb true) (.t 54)),om 56 55,og 57 (.fldA 0 (.t 1)) 56 false,og 58 (.fldA 4 (.t 57)) 56 false,og 59 (.ld false 1 (.t 58)) 56 false,og 60 (.call (cf 139) [(.t 59),(ci 0),(ci 256)]) 56 false,og 61 (.un .not (.t 60)) 56 false,oo 62 (.pick (.t 56) (cb true) (.t 61)),om 63 62,og 64 (.fldA 0 (.t 1)) 63 false,og 65 (.fldA 5 (.t 64)) 63 false,og 66 (.ld false 1 (.t 65)) 63 false,og 67 (.bin .lss (.t 66) (cu 1)) 63 false,oo 68 (.pick (.t 63) (cb true) (.t 67)),om 69 68,og 70 (.fldA 0 (.t 1)) 69 false,og 71 (.fldA 5 (.t 70)) 69 false,og 72 (.ld false 1 (.t 71)) 69 false,og 73 (.bin .gtr (.t 72) (cu 1048576)) 69 false,oo 74 (.pick (.t 69) (cb true) (.t 73))]
(cN 74
(sR [oo 75 (.bld (ai_ bI_) []),sO 150 2 75,oo 3 (.mv (ci 3))]
.ret)
.skip))
(.seq (sR [fA 76 12 1,lA 77 32 76,oo 78 (.bld (rtc rt0) []),oo 79 (.eqa [(32,1)] false (.t 77) (.t 78))]
(cN 79
(sR [oo 80 (.bld (ai_ bI_) []),sO 150 2 80,oo 3 (.mv (ci 2))]
.ret)
.skip))
(sR [fA 81 12 1,lA 82 32 81,oo 83 (.bld (cpC cp0) [(1,32,(.t 82))]),oo 4 (.new (cpC cp0)),sO 33 4 83]
(sR [lA 84 33 4,fA 85 44 1,lF 86 1 85,oo 87 (.bld (aT_ fw_) [(0,33,(.t 84)),(33,1,(.t 86))]),oo 5 (.new (aT_ fw_)),sO 34 5 87]
(.seq (sR [lA 88 34 5,fA 89 44 1,lF 90 1 89,lN 91 90,kB 92 69 88 91,om 6 92]
(sR [om 93 6,bC 94 .neq 93 (ci 0)]
(cN 94
(sR [oo 95 (.bld (ai_ bI_) []),om 96 6,sO 150 2 95,om 3 96]
.ret)
.skip)))
(sR [fA 97 44 1,lF 98 1 97,oo 99 (.app 1 8 (.c (.sl 0 true [])) (.t 98)),fA 100 44 1,sO 1 100 99]
(sR [fA 101 12 1,lA 102 32 101,lA 103 33 4,lA 104 33 4,lA 105 33 4,lA 106 33 4,oo 107 (.bld (cg_ ks_) [(0,33,(.t 105)),(33,33,(.t 106))]),oo 108 (.bld (ap_ bR_) [(67,32,(.t 102)),(171,33,(.t 103)),(204,33,(.t 104)),(0,66,(.t 107))]),oo 7 (.new (ap_ bR_)),sO 238 7 108]
(.seq (.dreg [(lA 109 45 1,0),(lA 110 33 4,0),(lA 111 33 4,0),(oo 112 (.bld (cg_ ks_) [(0,33,(.t 110)),(33,33,(.t 111))]),6),(lA 113 238 7,0),(oo 114 (.call (cf 140) [(.t 113),(ci 1)]),16),(lA 115 34 5,0),(kA 116 141 115,112),(oo 117 (.bldS 34 1 (aT_ fw_) [(0,(.t 116))]),240),(oo 118 (.bld (ai_ bI_) [(0,45,(.t 109)),(47,66,(.t 112)),(115,1,(.t 114)),(149,1,(.t 117))]),511),(oo 8 (.new (ai_ bI_)),0),(sO 150 8 118,2047)])
(sR [fA 119 44 1,lF 120 1 119,lN 121 120,oo 122 (.mk 34 48 (aZ_ eh_) (.t 121) (.t 121)),fA 123 45 8,fA 124 0 123,sO 1 124 122]
(sR [lA 125 150 8,sO 150 2 125,oo 3 (.mv (ci 0))]
.ret)))))))))))
theorem BN_:av_ Tryz.prog 66=some (126,[.cell 2 true 150,.tmp 3],rp_):=by kernel_rfl
def lC_:ad_:=(sR [oo 6 (.mv (cb false))]
(sR [om 7 0,om 8 1,bI 9 .geq 7 8,om 10 9,omg 11 0 10 true,omg 12 2 10 true,og 13 (.bin .leq (.t 11) (.t 12)) 10 true,oo 14 (.pick (.t 10) (.t 13) (cb false)),om 6 14]
.ret))
theorem tW_:av_ Tryz.prog 139=some (15,[.tmp 6],lC_):=by kernel_rfl
def pl_:ad_:=(sR [oo 1 (.box 150 (.t 0)),oo 2 (.new (ai_ bI_)),oo 3 (.mv (ci 0))]
(.seq (sR [fA 9 116 1,lF 10 1 9,bC 11 .geq 10 (cu 1099511627776)]
(cN 11
(sR [oo 12 (.bld (ai_ bI_) []),sO 150 2 12,oo 3 (.mv (ci 3))]
.ret)
.skip))
(sR [fA 13 116 1,lF 14 1 13,bC 15 .add 14 (cu 1),fA 16 116 1,sO 1 16 15]
(sR [oo 17 (.bld (rtc rt0) []),fA 18 117 1,sO 32 18 17]
(.seq (sR [fA 19 116 1,lF 20 1 19,fA 21 0 1,fA 22 6 21,lF 23 1 22,bI 24 .rem 20 23,bC 25 .eql 24 (cu 0)]
(cN 25
(sR [lA 26 150 1,kA 27 44 26,oo 4 (.new (cg_ ks_)),sO 66 4 27]
(.reg [lA 28 150 1,fA 29 0 4,lA 30 33 29,fA 31 33 4,lA 32 33 31,kC 33 45 28 30 32,sO 150 1 33]))
.skip))
(sR [fA 34 113 1,fA 35 0 34,lF 36 1 35,om 5 36]
(sR [fA 37 113 1,fA 38 0 37,on (.sto 1 (.t 38) (.c (.sl 0 true [])))]
(.seq (sR [oo 6 (.mv (ci 0))]
(.block 0 (.loop (.seq (sR [om 39 6,om 40 5,lN 41 40,bI 42 .lss 39 41]
(cN 42
.skip
(.exit 0)))
(.seq (.block 1 (.seq (.seq (.dreg [(om 45 5,0),(om 46 6,0),(iX 47 67 45 46,3),(fA 48 0 47,7),(lF 49 1 48,15),(fA 50 116 1,0),(lF 51 1 50,32),(bI 52 .geq 49 51,127)])
(cN 52
(.seq (.dreg [(fA 53 113 1,0),(fA 54 0 53,1),(lF 55 1 54,3),(om 56 5,0),(om 57 6,0),(iX 58 67 56 57,24),(lA 59 67 58,56),(oo 60 (.bldS 67 1 (aY_ jw_) [(0,(.t 59))]),120),(oo 61 (.app 67 104 (.t 55) (.t 60)),255),(fA 62 113 1,511),(fA 63 0 62,1023),(sO 1 63 61,2047)])
(.exit 1))
.skip))
(.seq (.dreg [(lA 65 150 1,0),(om 66 5,0),(om 67 6,0),(iX 68 67 66 67,6),(lA 69 67 68,14),(kB 70 46 65 69,31),(om 64 70,63),(eX 71 0 64,127),(eX 72 1 64,127),(om 7 71,255),(om 8 72,1023)])
(sR [om 73 8,bC 74 .eql 73 (ci 0)]
(cN 74
(.dreg [(lA 75 150 1,0),(om 76 5,0),(om 77 6,0),(iX 78 67 76 77,6),(lA 79 67 78,14),(kB 80 47 75 79,31),(sO 150 1 80,63)])
.skip)))))
(.reg [om 43 6,bC 44 .add 43 (ci 1),om 6 44]))))))
(sR [lA 81 150 1,sO 150 2 81,oo 3 (.mv (ci 0))]
.ret)))))))))
theorem zN_:av_ Tryz.prog 12=some (82,[.cell 2 true 150,.tmp 3],pl_):=by kernel_rfl
def bb_:ad_:=(sR [oo 2 (.box 150 (.t 0)),oo 3 (.box 238 (.t 1)),oo 4 (.new (ai_ bI_)),oo 5 (.mv (.c (.sl 0 true []))),oo 6 (.mv (ci 0))]
(sR [lA 12 150 2,lA 13 238 3,kB 14 84 12 13,om 7 14]
(.seq (sR [om 15 7,bC 16 .eql 15 (ci 10)]
(cN 16
(.seq (sR [fA 17 113 2,fA 18 1 17,lF 19 1 18,lN 20 19,fA 21 0 2,fA 22 0 21,fA 23 1 22,lF 24 1 23,bI 25 .geq 20 24]
(cN 25
(sR [oo 26 (.bld (ai_ bI_) []),sO 150 4 26,oo 5 (.mv (.c (.sl 0 true []))),oo 6 (.mv (ci 11))]
.ret)
.skip))
(sR [fA 27 237 3,on (.sto 1 (.t 27) (cb false))]
(.seq (.dreg [(fA 28 113 2,0),(fA 29 1 28,1),(lF 30 1 29,3),(oo 31 (.app 238 336 (.c (.sl 0 true [])) (.t 30)),7),(lA 32 238 3,0),(oo 33 (.bldS 238 1 (ap_ bR_) [(0,(.t 32))]),16),(oo 34 (.app 238 336 (.t 31) (.t 33)),63),(fA 35 113 2,127),(fA 36 1 35,255),(sO 1 36 34,511)])
(sR [lA 37 150 2,sO 150 4 37,oo 5 (.mv (.c (.sl 0 true []))),oo 6 (.mv (ci 0))]
.ret))))
.skip))
(.seq (sR [om 38 7,bC 39 .neq 38 (ci 0)]
(cN 39
(sR [oo 40 (.bld (ai_ bI_) []),om 41 7,sO 150 4 40,oo 5 (.mv (.c (.sl 0 true []))),om 6 41]
.ret)
.skip))
(sR [fA 42 237 3,lF 43 1 42,om 44 43,og 45 (.fldA 66 (.t 3)) 44 true,og 46 (.ld false 1 (.t 45)) 44 true,og 47 (.fldA 116 (.t 2)) 44 true,og 48 (.ld false 1 (.t 47)) 44 true,og 49 (.bin .eql (.t 46) (.t 48)) 44 true,oo 50 (.pick (.t 44) (.t 49) (cb false)),om 51 50,og 52 (.fldA 117 (.t 2)) 51 true,og 53 (.ld true 32 (.t 52)) 51 true,og 54 (.bld (rtc rt0) []) 51 true,og 55 (.eqa [(32,1)] false (.t 53) (.t 54)) 51 true,oo 56 (.pick (.t 51) (.t 55) (cb false)),om 8 56]
(sR [lA 57 150 2,lA 58 238 3,kB 59 85 57 58,sO 150 2 59]
(.seq (sR [om 60 8]
(cN 60
(.reg [fA 61 67 3,lA 62 32 61,fA 63 117 2,sO 32 63 62])
.skip))
(sR [fA 64 67 3,lA 65 32 64,oo 66 (.bldS 32 1 (rtc rt0) [(0,(.t 65))]),om 9 66]
(.seq (sR [lA 67 150 2,kA 68 86 67,om 10 68]
(.block 0 (.loop (.seq (sR [om 69 10,bC 70 .geq 69 (ci 0)]
(cN 70
.skip
(.exit 0)))
(.seq (.block 1 (sR [fA 73 113 2,fA 74 1 73,lF 75 1 74,om 76 10,iX 77 238 75 76,lA 78 238 77,oo 11 (.new (ap_ bR_)),sO 238 11 78]
(.seq (.dreg [(fA 79 113 2,0),(fA 80 1 79,1),(lF 81 1 80,3),(om 82 10,0),(oo 83 (.sli 238 (.t 81) none (some (.t 82)) none),15),(oo 84 (.app 238 336 (.c (.sl 0 true [])) (.t 83)),31),(fA 85 113 2,0),(fA 86 1 85,64),(lF 87 1 86,192),(om 88 10,0),(bC 89 .add 88 (ci 1),512),(oo 90 (.sli 238 (.t 87) (some (.t 89)) none none),1984),(oo 91 (.app 238 336 (.t 84) (.t 90)),4095),(fA 92 113 2,8191),(fA 93 1 92,16383),(sO 1 93 91,32767)])
(sR [lA 94 150 2,lA 95 238 11,kB 96 84 94 95,bC 97 .eql 96 (ci 0)]
(cN 97
(sR [lA 98 150 2,lA 99 238 11,kB 100 85 98 99,sO 150 2 100]
(.reg [om 101 9,fA 102 67 11,lA 103 32 102,oo 104 (.bldS 32 1 (rtc rt0) [(0,(.t 103))]),oo 105 (.app 32 32 (.t 101) (.t 104)),om 9 105]))
.skip)))))
(.reg [lA 71 150 2,kA 72 86 71,om 10 72]))))))
(sR [lA 106 150 2,om 107 9,sO 150 4 106,om 5 107,oo 6 (.mv (ci 0))]
.ret))))))))))
theorem wv_:av_ Tryz.prog 21=some (108,[.cell 4 true 150,.tmp 5,.tmp 6],bb_):=by kernel_rfl
def ly_:ad_:=(sR [oo 2 (.box 150 (.t 0)),oo 3 (.box 67 (.t 1)),oo 4 (.new (ai_ bI_)),oo 5 (.mv (ci 0))]
(sR [lA 9 150 2,lA 10 67 3,kB 11 46 9 10,om 8 11,eX 12 0 8,eX 13 1 8,om 6 12,om 7 13]
(.seq (sR [om 14 7,bC 15 .neq 14 (ci 0)]
(cN 15
(sR [oo 16 (.bld (ai_ bI_) []),om 17 7,sO 150 4 16,om 5 17]
.ret)
.skip))
(.seq (sR [om 18 6,oo 19 (.un .not (.t 18))]
(cN 19
(sR [lA 20 150 2,lA 21 67 3,kB 22 47 20 21,sO 150 4 22,oo 5 (.mv (ci 0))]
.ret)
.skip))
(.seq (sR [fA 23 113 2,fA 24 0 23,lF 25 1 24,lN 26 25,fA 27 0 2,fA 28 0 27,fA 29 2 28,lF 30 1 29,bI 31 .geq 26 30]
(cN 31
(sR [oo 32 (.bld (ai_ bI_) []),sO 150 4 32,oo 5 (.mv (ci 11))]
.ret)
.skip))
(sR [fA 33 66 3,lF 34 1 33,oo 35 (.app 1 8 (.c (.sl 0 true [])) (.t 34)),fA 36 66 3,sO 1 36 35]
(.seq (.dreg [(fA 37 113 2,0),(fA 38 0 37,1),(lF 39 1 38,3),(oo 40 (.app 67 104 (.c (.sl 0 true [])) (.t 39)),7),(lA 41 67 3,0),(oo 42 (.bldS 67 1 (aY_ jw_) [(0,(.t 41))]),16),(oo 43 (.app 67 104 (.t 40) (.t 42)),63),(fA 44 113 2,127),(fA 45 0 44,255),(sO 1 45 43,511)])
(sR [lA 46 150 2,sO 150 4 46,oo 5 (.mv (ci 0))]
.ret))))))))
theorem tR_:av_ Tryz.prog 33=some (47,[.cell 4 true 150,.tmp 5],ly_):=by kernel_rfl
def nE_:ad_:=(sR [oo 2 (.box 150 (.t 0)),oo 3 (.box 70 (.t 1)),oo 4 (.new (ai_ bI_)),oo 5 (.mv (ci 0))]
(.seq (.seq (.dreg [(lA 9 70 3,0),(lA 10 150 2,0),(kA 11 70 10,2),(kB 12 94 9 11,7),(om 6 12,15)])
(sR [om 13 6,bC 14 .neq 13 (ci 0)]
(cN 14
(sR [oo 15 (.bld (ai_ bI_) []),om 16 6,sO 150 4 15,om 5 16]
.ret)
.skip)))
(.seq (.dreg [(fA 18 45 2,0),(fA 19 1 18,1),(lF 20 1 19,3),(lA 21 70 3,0),(kA 22 26 21,8),(kB 23 95 20 22,31),(om 17 23,63),(eX 24 0 17,127),(eX 25 1 17,127),(om 7 24,255),(om 8 25,1023)])
(.seq (sR [om 26 8,bC 27 .eql 26 (ci 0)]
(cN 27
(sR [oo 28 (.bld (ai_ bI_) []),sO 150 4 28,oo 5 (.mv (ci 9))]
.ret)
.skip))
(sR [om 29 7,fA 30 45 2,fA 31 1 30,sO 1 31 29]
(sR [lA 32 150 2,sO 150 4 32,oo 5 (.mv (ci 0))]
.ret))))))
theorem wx_:av_ Tryz.prog 34=some (33,[.cell 4 true 150,.tmp 5],nE_):=by kernel_rfl
def jD_:ad_:=(sR [oo 2 (.box 150 (.t 0)),oo 3 (.box 34 (.t 1)),oo 4 (.new (ai_ bI_)),oo 5 (.mv (ci 0))]
(.seq (.seq (.dreg [(lA 9 34 3,0),(lA 10 150 2,0),(kA 11 70 10,2),(kB 12 69 9 11,7),(om 6 12,15)])
(sR [om 13 6,bC 14 .neq 13 (ci 0)]
(cN 14
(sR [oo 15 (.bld (ai_ bI_) []),om 16 6,sO 150 4 15,om 5 16]
.ret)
.skip)))
(.seq (sR [fA 17 0 3,fA 18 0 17,lF 19 1 18,fA 20 47 2,fA 21 0 20,fA 22 0 21,lF 23 1 22,bI 24 .lss 19 23]
(cN 24
(sR [oo 25 (.bld (ai_ bI_) []),sO 150 4 25,oo 5 (.mv (ci 13))]
.ret)
.skip))
(.seq (.dreg [(fA 27 149 2,0),(lF 28 1 27,1),(lA 29 34 3,0),(lA 30 150 2,0),(kA 31 70 30,8),(fA 32 0 2,0),(fA 33 0 32,32),(fA 34 3 33,96),(lF 35 1 34,224),(oo 36 (.call (cf 101) [(.t 28),(.t 29),(.t 31),(.t 35)]),511),(om 26 36,1023),(eX 37 0 26,2047),(eX 38 1 26,2047),(om 7 37,4095),(om 8 38,16383)])
(.seq (sR [om 39 8,bC 40 .neq 39 (ci 0)]
(cN 40
(sR [oo 41 (.bld (ai_ bI_) []),om 42 8,sO 150 4 41,om 5 42]
.ret)
.skip))
(sR [om 43 7,fA 44 149 2,sO 1 44 43]
(sR [lA 45 150 2,sO 150 4 45,oo 5 (.mv (ci 0))]
.ret)))))))
theorem qB_:av_ Tryz.prog 36=some (46,[.cell 4 true 150,.tmp 5],jD_):=by kernel_rfl
def pi_:ad_:=(sR [oo 1 (.box 150 (.t 0)),oo 2 (.mv (ci 0))]
(.seq (.dreg [(lA 7 150 1,0),(kA 8 257 7,1),(lA 9 150 1,0),(kA 10 258 9,7),(om 3 8,15),(om 4 10,31)])
(sR [fA 11 115 1,lA 12 1 11,fA 13 47 1,fA 14 0 13,fA 15 1 14,lA 16 32 15,kB 17 23 12 16,om 5 17]
(.block 0 (.loop (.block 1 (sR [fA 18 115 1,lA 19 1 18,om 20 3,om 21 4,om 22 5,oo 23 (.call (cf 259) [(.t 19),(.t 20),(.t 21),(.t 22)]),om 6 23]
(.seq (sR [om 24 6,bC 25 .lss 24 (ci 0)]
(cN 25
(sR [om 26 5,om 2 26]
.ret)
.skip))
(.reg [om 27 6,om 5 27])))))))))
theorem zK_:av_ Tryz.prog 236=some (28,[.tmp 2],pi_):=by kernel_rfl
def kH_:ad_:=(sR [oo 1 (.box 150 (.t 0)),oo 2 (.new (cg_ ks_))]
(sR [oo 3 (.new (cg_ ks_))]
(sR [oo 4 (.mv (cb false))]
(.seq (sR [oo 5 (.mv (ci 0))]
(.block 0 (.loop (.seq (sR [om 7 5,fA 8 115 1,fA 9 0 8,lF 10 1 9,lN 11 10,bI 12 .lss 7 11]
(cN 12
.skip
(.exit 0)))
(.seq (.block 1 (sR [fA 15 115 1,fA 16 0 15,lF 17 1 16,om 18 5,iX 19 240 17 18,lA 20 240 19,oo 6 (.new (aG_ dE_)),sO 240 6 20]
(.seq (sR [fA 21 239 6,lF 22 1 21,bC 23 .eql 22 (ci 2)]
(cN 23
(.exit 1)
.skip))
(.seq (sR [om 24 4,oo 25 (.un .not (.t 24)),om 26 25,og 27 (.fldA 0 (.t 6)) 26 false,og 28 (.fldA 0 (.t 27)) 26 false,og 29 (.fldA 0 (.t 28)) 26 false,og 30 (.fldA 0 (.t 29)) 26 false,og 31 (.ld false 1 (.t 30)) 26 false,og 32 (.fldA 0 (.t 3)) 26 false,og 33 (.fldA 0 (.t 32)) 26 false,og 34 (.ld false 1 (.t 33)) 26 false,og 35 (.bin .gtr (.t 31) (.t 34)) 26 false,oo 36 (.pick (.t 26) (cb true) (.t 35))]
(cN 36
(.reg [fA 37 0 6,fA 38 0 37,fA 39 0 38,lA 40 33 39,fA 41 0 3,sO 33 41 40])
.skip))
(.seq (sR [om 42 4,oo 43 (.un .not (.t 42)),om 44 43,og 45 (.fldA 0 (.t 6)) 44 false,og 46 (.fldA 0 (.t 45)) 44 false,og 47 (.fldA 33 (.t 46)) 44 false,og 48 (.fldA 0 (.t 47)) 44 false,og 49 (.ld false 1 (.t 48)) 44 false,og 50 (.fldA 33 (.t 3)) 44 false,og 51 (.fldA 0 (.t 50)) 44 false,og 52 (.ld false 1 (.t 51)) 44 false,og 53 (.bin .gtr (.t 49) (.t 52)) 44 false,oo 54 (.pick (.t 44) (cb true) (.t 53))]
(cN 54
(.reg [fA 55 0 6,fA 56 0 55,fA 57 33 56,lA 58 33 57,fA 59 33 3,sO 33 59 58])
.skip))
(.reg [oo 4 (.mv (cb true))]))))))
(.reg [om 13 5,bC 14 .add 13 (ci 1),om 5 14]))))))
(sR [lA 60 66 3,sO 66 2 60]
.ret)))))
theorem sd_:av_ Tryz.prog 44=some (61,[.cell 2 true 66],kH_):=by kernel_rfl
def bd_:ad_:=(sR [oo 3 (.box 150 (.t 0)),oo 4 (.box 33 (.t 1)),oo 5 (.box 33 (.t 2)),oo 6 (.new (ai_ bI_))]
(sR [lA 16 150 3,lA 17 33 4,lA 18 33 5,kC 19 123 16 17 18,om 15 19,eX 20 0 15,eX 21 1 15,eX 22 2 15,oo 7 (.new (cpC cp0)),oo 8 (.new (cpC cp0)),sO 33 7 20,sO 33 8 21,om 9 22]
(.seq (sR [om 23 9,oo 24 (.un .not (.t 23))]
(cN 24
(sR [lA 25 150 3,sO 150 6 25]
.ret)
.skip))
(sR [fA 26 149 3,lF 27 1 26,fA 28 0 7,lF 29 1 28,kB 30 124 27 29,fA 31 149 3,sO 1 31 30]
(sR [lA 32 33 8,fA 33 47 3,fA 34 33 33,lA 35 33 34,oo 36 (.eqa [(33,1)] true (.t 32) (.t 35)),om 10 36]
(.seq (.dreg [(lA 37 33 7,0),(lA 38 33 8,0),(fA 39 47 3,1),(fA 40 0 39,5),(sO 33 40 37,13),(fA 41 47 3,31),(fA 42 33 41,63),(sO 33 42 38,127)])
(.seq (sR [om 43 10,oo 44 (.un .not (.t 43))]
(cN 44
(sR [lA 45 150 3,sO 150 6 45]
.ret)
.skip))
(.seq (.dreg [(fA 47 115 3,0),(lA 48 1 47,1),(fA 49 115 3,0),(lA 50 1 49,4),(fA 51 1 8,0),(lA 52 32 51,16),(kB 53 23 50 52,60),(kB 54 125 48 53,127),(om 46 54,255),(eX 55 0 46,511),(eX 56 1 46,511),(eX 57 2 46,511),(fA 58 115 3,1023),(sO 1 58 55,5119)])
(.seq (sR [fA 59 115 3,lA 60 1 59,fA 61 117 3,lA 62 32 61,kB 63 23 60 62,bC 64 .lss 63 (ci 0)]
(cN 64
(.reg [oo 65 (.bld (rtc rt0) []),fA 66 117 3,sO 32 66 65])
.skip))
(sR [lA 68 150 3,fA 69 0 8,lF 70 1 69,kB 71 126 68 70,om 67 71,eX 72 0 67,eX 73 1 67,om 11 72,om 12 73]
(sR [oo 13 (.mv (.c (.sl 0 true [])))]
(.seq (sR [oo 14 (.mv (ci 0))]
(.block 0 (.loop (.seq (sR [om 74 14,fA 75 113 3,fA 76 1 75,lF 77 1 76,lN 78 77,bI 79 .lss 74 78]
(cN 79
.skip
(.exit 0)))
(.seq (.block 1 (sR [fA 82 113 3,fA 83 1 82,lF 84 1 83,om 85 14,iX 86 238 84 85,fA 87 66 86,lF 88 1 87,om 89 11,bI 90 .gtr 88 89]
(cN 90
(.reg [om 91 13,fA 92 113 3,fA 93 1 92,lF 94 1 93,om 95 14,iX 96 238 94 95,lA 97 238 96,oo 98 (.bldS 238 1 (ap_ bR_) [(0,(.t 97))]),oo 99 (.app 238 336 (.t 91) (.t 98)),om 13 99])
.skip)))
(.reg [om 80 14,bC 81 .add 80 (ci 1),om 14 81]))))))
(sR [om 100 13,fA 101 113 3,fA 102 1 101,sO 1 102 100]
(sR [lA 103 150 3,sO 150 6 103]
.ret))))))))))))))
theorem tU_:av_ Tryz.prog 45=some (104,[.cell 6 true 150],bd_):=by kernel_rfl
def aN_:ad_:=(sR [oo 2 (.box 150 (.t 0)),oo 3 (.box 67 (.t 1)),oo 4 (.mv (cb false)),oo 5 (.mv (ci 0))]
(.seq (.seq (.dreg [(fA 12 66 3,0),(lF 13 1 12,1),(lA 14 150 2,0),(kA 15 70 14,4),(kB 16 127 13 15,15),(om 6 16,31)])
(sR [om 17 6,bC 18 .neq 17 (ci 0)]
(cN 18
(sR [om 19 6,oo 4 (.mv (cb false)),om 5 19]
.ret)
.skip)))
(sR [lA 20 150 2,fA 21 116 2,lF 22 1 21,kB 23 73 20 22,om 7 23]
(.seq (.seq (.dreg [(fA 24 33 3,0),(fA 25 0 24,1),(lF 26 1 25,3),(lA 27 150 2,0),(fA 28 0 3,0),(lF 29 1 28,16),(kB 30 73 27 29,56),(bI 31 .neq 26 30,127),(om 32 31,255),(og 33 (.fldA 33 (.t 3)) 32 false,511),(og 34 (.fldA 0 (.t 33)) 32 false,1023),(og 35 (.ld false 1 (.t 34)) 32 false,2047),(omg 36 7 32 false,511),(og 37 (.bin .neq (.t 35) (.t 36)) 32 false,8191),(omg 38 37 32 false,16383),(omg 39 7 38 true,32767),(og 40 (.bin .eql (.t 39) (cu 0)) 38 true,65535),(omg 41 40 38 true,131071),(og 42 (.fldA 33 (.t 3)) 41 false,262143),(og 43 (.fldA 0 (.t 42)) 41 false,524287),(og 44 (.ld false 1 (.t 43)) 41 false,1048575),(omg 45 7 41 false,262143),(og 46 (.bin .sub (.t 45) (cu 1)) 41 false,2359295),(og 47 (.bin .neq (.t 44) (.t 46)) 41 false,8388607),(og 48 (.pick (.t 41) (cb true) (.t 47)) 38 true,16777215),(og 49 (.pick (.t 38) (.t 48) (cb false)) 32 false,33554431),(oo 50 (.pick (.t 32) (cb true) (.t 49)),67108863)])
(cN 50
(sR [oo 4 (.mv (cb false)),oo 5 (.mv (ci 18))]
.ret)
.skip))
(.seq (.dreg [(fA 51 115 2,0),(lA 52 1 51,1),(fA 53 1 3,0),(lA 54 32 53,4),(kB 55 23 52 54,15),(fA 56 115 2,0),(lA 57 1 56,32),(fA 58 33 3,0),(fA 59 1 58,128),(lA 60 32 59,384),(kB 61 23 57 60,1023),(om 8 55,2047),(om 9 61,4095)])
(.seq (sR [om 62 8,bC 63 .lss 62 (ci 0),om 64 63,omg 65 9 64 false,og 66 (.bin .lss (.t 65) (ci 0)) 64 false,oo 67 (.pick (.t 64) (cb true) (.t 66))]
(cN 67
(sR [oo 4 (.mv (cb false)),oo 5 (.mv (ci 10))]
.ret)
.skip))
(.seq (.seq (.dreg [(fA 68 115 2,0),(fA 69 0 68,1),(lF 70 1 69,3),(om 71 8,0),(iX 72 240 70 71,15),(fA 73 0 72,31),(fA 74 66 73,63),(lF 75 1 74,127),(fA 76 0 3,0),(lF 77 1 76,256),(bI 78 .gtr 75 77,1023)])
(cN 78
(sR [oo 4 (.mv (cb false)),oo 5 (.mv (ci 14))]
.ret)
.skip))
(sR [lA 80 150 2,fA 81 33 3,fA 82 0 81,lF 83 1 82,kB 84 126 80 83,om 79 84,eX 85 0 79,eX 86 1 79,om 10 85,om 11 86]
(.seq (sR [fA 87 115 2,lA 88 1 87,om 89 8,om 90 10,kC 91 128 88 89 90,om 92 9,bI 93 .neq 91 92]
(cN 93
(sR [oo 4 (.mv (cb false)),oo 5 (.mv (ci 19))]
.ret)
.skip))
(sR [fA 94 0 3,lF 95 1 94,fA 96 116 2,lF 97 1 96,bI 98 .geq 95 97,om 4 98,oo 5 (.mv (ci 0))]
.ret))))))))))
theorem jh_:av_ Tryz.prog 46=some (99,[.tmp 4,.tmp 5],aN_):=by kernel_rfl
def hZ_:ad_:=(sR [oo 2 (.box 150 (.t 0)),oo 3 (.box 67 (.t 1)),oo 4 (.new (ai_ bI_))]
(sR [fA 6 45 2,fA 7 0 6,lF 8 1 7,fA 9 33 3,fA 10 0 9,lF 11 1 10,fA 12 1 3,lA 13 32 12,fA 14 66 3,lF 15 1 14,oo 16 (.call (cf 129) [(.t 8),(.t 11),(.t 13),(.t 15)]),om 5 16,eX 17 0 5,eX 18 1 5,fA 19 45 2,fA 20 0 19,sO 1 20 17]
(sR [lA 21 150 2,sO 150 4 21]
.ret)))
theorem lX_:av_ Tryz.prog 47=some (22,[.cell 4 true 150],hZ_):=by kernel_rfl
def ia_:ad_:=(sR [oo 2 (.box 150 (.t 0)),oo 3 (.box 238 (.t 1)),oo 4 (.mv (ci 0))]
(sR [lA 9 150 2,fA 10 47 2,fA 11 33 10,fA 12 0 11,lF 13 1 12,kB 14 126 9 13,om 8 14,eX 15 0 8,eX 16 1 8,om 5 15,om 6 16]
(.seq (.block 0 (sR [fA 18 67 3,lA 19 32 18,oo 20 (.bld (rtc rt0) []),oo 21 (.eqa [(32,1)] false (.t 19) (.t 20)),om 17 21]
(cN 17
(sR [oo 4 (.mv (ci 2))]
.ret)
(sR [lA 23 150 2,fA 24 67 3,lA 25 32 24,kB 26 153 23 25,om 22 26]
(cN 22
(sR [oo 4 (.mv (ci 9))]
.ret)
(sR [fA 28 66 3,lF 29 1 28,fA 30 116 2,lF 31 1 30,bI 32 .gtr 29 31,om 27 32]
(cN 27
(sR [oo 4 (.mv (ci 12))]
.ret)
(sR [fA 34 66 3,lF 35 1 34,om 36 5,bI 37 .leq 35 36,om 33 37]
(cN 33
(sR [oo 4 (.mv (ci 13))]
.ret)
.skip)))))))))
(sR [fA 38 115 2,lA 39 1 38,fA 40 99 3,lA 41 32 40,kB 42 23 39 41,om 7 42]
(.seq (.block 1 (sR [om 44 7,bC 45 .lss 44 (ci 0),om 43 45]
(cN 43
(sR [oo 4 (.mv (ci 10))]
.ret)
(.seq (.dreg [(fA 47 66 3,0),(lF 48 1 47,1),(fA 49 115 2,0),(fA 50 0 49,4),(lF 51 1 50,12),(om 52 7,0),(iX 53 240 51 52,60),(fA 54 0 53,124),(fA 55 66 54,252),(lF 56 1 55,508),(bI 57 .leq 48 56,1023),(om 46 57,2047)])
(cN 46
(sR [oo 4 (.mv (ci 14))]
.ret)
(sR [fA 59 115 2,fA 60 0 59,lF 61 1 60,om 62 7,iX 63 240 61 62,fA 64 239 63,lF 65 1 64,bC 66 .eql 65 (ci 2),om 58 66]
(cN 58
(sR [oo 4 (.mv (ci 15))]
.ret)
(sR [lA 68 150 2,lA 69 238 3,kB 70 154 68 69,oo 71 (.un .not (.t 70)),om 67 71]
(cN 67
(sR [oo 4 (.mv (ci 16))]
.ret)
(.seq (.dreg [(fA 73 0 2,0),(fA 74 8 73,1),(lA 75 4 74,3),(fA 76 115 2,0),(fA 77 0 76,8),(lF 78 1 77,24),(om 79 7,0),(iX 80 240 78 79,120),(fA 81 0 80,248),(lA 82 238 81,504),(lA 83 238 3,0),(kC 84 155 75 82 83,2047),(oo 85 (.un .not (.t 84)),4095),(om 72 85,8191)])
(cN 72
(sR [oo 4 (.mv (ci 17))]
.ret)
(sR [fA 87 115 2,fA 88 0 87,lF 89 1 88,lN 90 89,fA 91 0 2,fA 92 0 91,fA 93 0 92,lF 94 1 93,bI 95 .geq 90 94,om 86 95]
(cN 86
(sR [oo 4 (.mv (ci 11))]
.ret)
.skip)))))))))))))
(sR [oo 4 (.mv (ci 0))]
.ret))))))
theorem os_:av_ Tryz.prog 84=some (96,[.tmp 4],ia_):=by kernel_rfl
def lB_:ad_:=(sR [oo 2 (.box 150 (.t 0)),oo 3 (.box 238 (.t 1)),oo 4 (.new (ai_ bI_))]
(.seq (.dreg [(fA 6 115 2,0),(lA 7 1 6,1),(lA 8 238 3,0),(lA 9 238 3,0),(kA 10 157 9,8),(kC 11 156 7 8 10,31),(om 5 11,63),(eX 12 0 5,127),(eX 13 1 5,127),(fA 14 115 2,255),(sO 1 14 12,767)])
(sR [lA 15 150 2,fA 16 171 3,lA 17 33 16,fA 18 204 3,lA 19 33 18,kC 20 45 15 17 19,sO 150 2 20]
(.seq (.seq (.dreg [(lA 21 150 2,0),(fA 22 66 3,0),(lF 23 1 22,2),(kB 24 73 21 23,7),(lA 25 150 2,0),(fA 26 116 2,0),(lF 27 1 26,32),(kB 28 73 25 27,127),(bI 29 .lss 24 28,255)])
(cN 29
(.reg [lA 30 150 2,fA 31 0 3,fA 32 0 31,lA 33 33 32,fA 34 0 3,fA 35 33 34,lA 36 33 35,kC 37 45 30 33 36,sO 150 2 37])
.skip))
(sR [lA 38 150 2,sO 150 4 38]
.ret)))))
theorem tV_:av_ Tryz.prog 85=some (39,[.cell 4 true 150],lB_):=by kernel_rfl
def kK_:ad_:=(sR [oo 1 (.box 150 (.t 0)),oo 2 (.mv (ci 0))]
(.seq (sR [oo 3 (.mv (ci 0))]
(.block 0 (.loop (.seq (sR [om 4 3,fA 5 113 1,fA 6 1 5,lF 7 1 6,lN 8 7,bI 9 .lss 4 8]
(cN 9
.skip
(.exit 0)))
(.seq (.block 1 (.seq (.dreg [(fA 12 115 1,0),(lA 13 1 12,1),(fA 14 113 1,0),(fA 15 1 14,4),(lF 16 1 15,12),(om 17 3,0),(iX 18 238 16 17,60),(fA 19 99 18,124),(lA 20 32 19,252),(kB 21 23 13 20,511),(bC 22 .geq 21 (ci 0),1023)])
(cN 22
(sR [om 23 3,om 2 23]
.ret)
.skip)))
(.reg [om 10 3,bC 11 .add 10 (ci 1),om 3 11]))))))
(sR [oo 2 (.mv (ci (-1)))]
.ret)))
theorem sg_:av_ Tryz.prog 86=some (24,[.tmp 2],kK_):=by kernel_rfl
def ib_:ad_:=(sR [oo 1 (.box 150 (.t 0)),oo 2 (.mv (ci 0))]
(sR [fA 3 0 1,fA 4 44 3,lF 5 1 4,lN 6 5,om 2 6]
.ret))
theorem ot_:av_ Tryz.prog 70=some (7,[.tmp 2],ib_):=by kernel_rfl
def kI_:ad_:=(sR [oo 1 (.box 150 (.t 0)),oo 2 (.mv (.c (.sl 0 true [])))]
(sR [lA 9 150 1,kA 10 29 9,om 3 10]
(sR [om 12 3,kA 13 143 12,om 11 13,eX 14 0 11,eX 15 1 11,om 4 14,om 5 15]
(sR [fA 17 0 1,lA 18 45 17,om 19 4,kB 20 272 18 19,om 16 20,eX 21 0 16,eX 22 1 16,om 6 21,om 7 22]
(sR [fA 23 115 1,lA 24 1 23,fA 25 45 1,lA 26 2 25,om 27 3,kC 28 28 24 26 27,om 8 28]
(.seq (.dreg [(fA 29 115 1,0),(lA 30 1 29,1),(fA 31 115 1,0),(lA 32 1 31,4),(om 33 8,0),(fA 34 117 1,0),(lA 35 32 34,32),(om 36 6,0),(oo 37 (.call (cf 274) [(.t 32),(.t 33),(.t 35),(.t 36)]),252),(kB 38 273 30 37,511),(om 2 38,1023)])
.ret))))))
theorem se_:av_ Tryz.prog 257=some (39,[.tmp 2],kI_):=by kernel_rfl
def pj_:ad_:=(sR [oo 1 (.box 150 (.t 0)),oo 2 (.mv (.c (.sl 0 true [])))]
(sR [oo 3 (.mv (.c (.sl 0 true [])))]
(.seq (sR [oo 4 (.mv (ci 0))]
(.block 0 (.loop (.seq (sR [om 5 4,fA 6 115 1,fA 7 0 6,lF 8 1 7,lN 9 8,bI 10 .lss 5 9]
(cN 10
.skip
(.exit 0)))
(.seq (.block 1 (.reg [om 13 3,lA 14 150 1,om 15 4,kB 16 275 14 15,oo 17 (.bldS 1 1 [(.bool false)] [(0,(.t 16))]),oo 18 (.app 1 1 (.t 13) (.t 17)),om 3 18]))
(.reg [om 11 4,bC 12 .add 11 (ci 1),om 4 12]))))))
(sR [om 19 3,om 2 19]
.ret))))
theorem zL_:av_ Tryz.prog 258=some (20,[.tmp 2],pj_):=by kernel_rfl
def lz_:ad_:=(sR [oo 4 (.box 1 (.t 0)),oo 8 (.mv (ci 0))]
(sR [oo 9 (.mv (ci (-1)))]
(sR [lA 13 1 4,om 14 3,kB 15 276 13 14,om 10 15]
(.seq (sR [oo 11 (.mv (ci 0))]
(.block 0 (.loop (.seq (sR [om 16 11,om 17 10,lN 18 17,bI 19 .lss 16 18]
(cN 19
.skip
(.exit 0)))
(.seq (.block 1 (sR [om 22 10,om 23 11,iX 24 1 22 23,lF 25 1 24,om 12 25]
(.seq (.dreg [(om 26 2,0),(om 27 12,0),(iX 28 1 26 27,3),(lF 29 1 28,7),(om 30 29,15),(omg 31 9 30 true,31),(og 32 (.bin .lss (.t 31) (ci 0)) 30 true,63),(omg 33 32 30 true,127),(omg 34 1 33 false,255),(omg 35 12 33 false,255),(og 36 (.idxS 1 (.t 34) (.t 35)) 33 false,1023),(og 37 (.ld false 1 (.t 36)) 33 false,2047),(omg 38 1 33 false,255),(omg 39 9 33 false,255),(og 40 (.idxS 1 (.t 38) (.t 39)) 33 false,12543),(og 41 (.ld false 1 (.t 40)) 33 false,28927),(og 42 (.bin .gtr (.t 37) (.t 41)) 33 false,65535),(og 43 (.pick (.t 33) (cb true) (.t 42)) 30 true,131071),(omg 44 43 30 true,262143),(omg 45 1 44 false,524287),(omg 46 12 44 false,524287),(og 47 (.idxS 1 (.t 45) (.t 46)) 44 false,2097151),(og 48 (.ld false 1 (.t 47)) 44 false,4194303),(omg 49 1 44 false,524287),(omg 50 9 44 false,524287),(og 51 (.idxS 1 (.t 49) (.t 50)) 44 false,25690111),(og 52 (.ld false 1 (.t 51)) 44 false,59244543),(og 53 (.bin .eql (.t 48) (.t 52)) 44 false,134217727),(omg 54 53 44 false,268435455),(og 55 (.fldA 0 (.t 4)) 54 true,536870911),(og 56 (.ld false 1 (.t 55)) 54 true,1073741823),(omg 57 12 54 true,536870911),(og 58 (.idxS 240 (.t 56) (.t 57)) 54 true,4294967295),(og 59 (.fldA 0 (.t 58)) 54 true,8589934591),(og 60 (.fldA 67 (.t 59)) 54 true,17179869183),(og 61 (.ld true 32 (.t 60)) 54 true,34359738367),(og 62 (.fldA 0 (.t 4)) 54 true,536870911),(og 63 (.ld false 1 (.t 62)) 54 true,69256347647),(omg 64 9 54 true,536870911),(og 65 (.idxS 240 (.t 63) (.t 64)) 54 true,481573208063),(og 66 (.fldA 0 (.t 65)) 54 true,1031329021951),(og 67 (.fldA 67 (.t 66)) 54 true,2130840649727),(og 68 (.ld true 32 (.t 67)) 54 true,4329863905279),(og 69 (.call (cf 144) [(.t 61),(.t 68)]) 54 true,8796093022207),(og 70 (.bin .gtr (.t 69) (ci 0)) 54 true,17592186044415),(og 71 (.pick (.t 54) (.t 70) (cb false)) 44 false,35184372088831),(og 72 (.pick (.t 44) (cb true) (.t 71)) 30 true,70368744177663),(oo 73 (.pick (.t 30) (.t 72) (cb false)),140737488355327)])
(cN 73
(.reg [om 74 12,om 9 74])
.skip))))
(.reg [om 20 11,bC 21 .add 20 (ci 1),om 11 21]))))))
(sR [om 75 9,om 8 75]
.ret)))))
theorem tS_:av_ Tryz.prog 259=some (76,[.tmp 8],lz_):=by kernel_rfl
def bl_:ad_:=(sR [oo 3 (.box 150 (.t 0)),oo 4 (.box 33 (.t 1)),oo 5 (.box 33 (.t 2)),oo 6 (.new (cpC cp0)),oo 7 (.new (cpC cp0)),oo 8 (.mv (cb false))]
(.seq (.dreg [(fA 13 47 3,0),(fA 14 0 13,1),(lA 15 33 14,3),(fA 16 47 3,0),(fA 17 33 16,8),(lA 18 33 17,24),(oo 9 (.new (cpC cp0)),0),(oo 10 (.new (cpC cp0)),0),(sO 33 9 15,199),(sO 33 10 18,511)])
(.seq (sR [fA 19 0 4,lF 20 1 19,fA 21 0 9,lF 22 1 21,bI 23 .gtr 20 22]
(cN 23
(.reg [lA 24 33 4,sO 33 9 24])
.skip))
(.seq (sR [fA 25 0 5,lF 26 1 25,fA 27 0 10,lF 28 1 27,bI 29 .gtr 26 28]
(cN 29
(.reg [lA 30 33 5,sO 33 10 30])
.skip))
(.seq (.dreg [(fA 31 115 3,0),(lA 32 1 31,1),(fA 33 1 9,0),(lA 34 32 33,4),(kB 35 23 32 34,15),(fA 36 115 3,0),(lA 37 1 36,32),(fA 38 1 10,0),(lA 39 32 38,128),(kB 40 23 37 39,511),(om 11 35,1023),(om 12 40,2047)])
(.seq (.seq (.dreg [(om 41 11,0),(bC 42 .lss 41 (ci 0),1),(om 43 42,3),(omg 44 12 43 false,7),(og 45 (.bin .lss (.t 44) (ci 0)) 43 false,15),(oo 46 (.pick (.t 43) (cb true) (.t 45)),31),(om 47 46,63),(og 48 (.fldA 115 (.t 3)) 47 false,127),(og 49 (.fldA 0 (.t 48)) 47 false,255),(og 50 (.ld false 1 (.t 49)) 47 false,511),(omg 51 11 47 false,127),(og 52 (.idxS 240 (.t 50) (.t 51)) 47 false,2047),(og 53 (.fldA 239 (.t 52)) 47 false,4095),(og 54 (.ld false 1 (.t 53)) 47 false,8191),(og 55 (.bin .eql (.t 54) (ci 2)) 47 false,16383),(oo 56 (.pick (.t 47) (cb true) (.t 55)),32767),(om 57 56,65535),(og 58 (.fldA 115 (.t 3)) 57 false,131071),(og 59 (.fldA 0 (.t 58)) 57 false,262143),(og 60 (.ld false 1 (.t 59)) 57 false,524287),(omg 61 12 57 false,131071),(og 62 (.idxS 240 (.t 60) (.t 61)) 57 false,2097151),(og 63 (.fldA 239 (.t 62)) 57 false,4194303),(og 64 (.ld false 1 (.t 63)) 57 false,8388607),(og 65 (.bin .eql (.t 64) (ci 2)) 57 false,16777215),(oo 66 (.pick (.t 57) (cb true) (.t 65)),33554431),(om 67 66,67108863),(og 68 (.ld true 150 (.t 3)) 67 false,134217727),(omg 69 11 67 false,134217727),(og 70 (.fldA 0 (.t 9)) 67 false,134217727),(og 71 (.ld false 1 (.t 70)) 67 false,671088639),(og 72 (.call (cf 74) [(.t 68),(.t 69),(.t 71)]) 67 false,2147483647),(og 73 (.un .not (.t 72)) 67 false,4294967295),(oo 74 (.pick (.t 67) (cb true) (.t 73)),8589934591),(om 75 74,17179869183),(og 76 (.ld true 150 (.t 3)) 75 false,34359738367),(omg 77 12 75 false,34359738367),(og 78 (.fldA 0 (.t 10)) 75 false,34359738367),(og 79 (.ld false 1 (.t 78)) 75 false,171798691839),(og 80 (.call (cf 74) [(.t 76),(.t 77),(.t 79)]) 75 false,549755813887),(og 81 (.un .not (.t 80)) 75 false,1099511627775),(oo 82 (.pick (.t 75) (cb true) (.t 81)),2199023255551),(om 83 82,4398046511103),(og 84 (.fldA 115 (.t 3)) 83 false,8796093022207),(og 85 (.ld true 1 (.t 84)) 83 false,17592186044415),(omg 86 12 83 false,8796093022207),(omg 87 11 83 false,8796093022207),(og 88 (.call (cf 186) [(.t 85),(.t 86),(.t 87)]) 83 false,140737488355327),(og 89 (.un .not (.t 88)) 83 false,281474976710655),(oo 90 (.pick (.t 83) (cb true) (.t 89)),562949953421311),(om 91 90,1125899906842623),(og 92 (.fldA 0 (.t 10)) 91 false,2251799813685247),(og 93 (.ld false 1 (.t 92)) 91 false,4503599627370495),(og 94 (.fldA 0 (.t 9)) 91 false,2251799813685247),(og 95 (.ld false 1 (.t 94)) 91 false,11258999068426239),(og 96 (.bin .gtr (.t 93) (.t 95)) 91 false,36028797018963967),(oo 97 (.pick (.t 91) (cb true) (.t 96)),72057594037927935),(om 98 97,144115188075855871),(og 99 (.fldA 0 (.t 9)) 98 false,288230376151711743),(og 100 (.ld false 1 (.t 99)) 98 false,576460752303423487),(og 101 (.ld true 150 (.t 3)) 98 false,288230376151711743),(og 102 (.fldA 116 (.t 3)) 98 false,288230376151711743),(og 103 (.ld false 1 (.t 102)) 98 false,2594073385365405695),(og 104 (.call (cf 73) [(.t 101),(.t 103)]) 98 false,8358680908399640575),(og 105 (.bin .gtr (.t 100) (.t 104)) 98 false,18446744073709551615),(oo 106 (.pick (.t 98) (cb true) (.t 105)),36893488147419103231),(om 107 106,73786976294838206463),(og 108 (.fldA 149 (.t 3)) 107 false,147573952589676412927),(og 109 (.ld false 1 (.t 108)) 107 false,295147905179352825855),(og 110 (.ld true 33 (.t 9)) 107 false,147573952589676412927),(og 111 (.call (cf 68) [(.t 109),(.t 110)]) 107 false,1180591620717411303423),(og 112 (.bin .lss (.t 111) (ci 0)) 107 false,2361183241434822606847),(oo 113 (.pick (.t 107) (cb true) (.t 112)),4722366482869645213695)])
(cN 113
(sR [oo 114 (.bld (cpC cp0) []),oo 115 (.bld (cpC cp0) []),sO 33 6 114,sO 33 7 115,oo 8 (.mv (cb false))]
.ret)
.skip))
(.seq (.dreg [(lA 116 33 9,0),(lA 117 33 10,0),(sO 33 6 116,1),(sO 33 7 117,7),(oo 8 (.mv (cb true)),15)])
.ret)))))))
theorem pB_:av_ Tryz.prog 123=some (118,[.cell 6 true 33,.cell 7 true 33,.tmp 8],bl_):=by kernel_rfl
def nH_:ad_:=(sR [oo 2 (.box 150 (.t 0)),oo 4 (.mv (cu 0)),oo 5 (.mv (cb false))]
(sR [om 9 1,fA 10 0 2,fA 11 6 10,lF 12 1 11,kB 13 188 9 12,om 8 13,eX 14 0 8,eX 15 1 8,om 6 14,om 7 15]
(sR [om 16 6,om 17 7,bC 18 .eql 17 (ci 0),om 4 16,om 5 18]
.ret)))
theorem wA_:av_ Tryz.prog 126=some (19,[.tmp 4,.tmp 5],nH_):=by kernel_rfl
def nG_:ad_:=(sR [oo 2 (.box 150 (.t 0)),oo 4 (.mv (cu 0))]
(sR [om 5 1,fA 6 0 2,fA 7 6 6,lF 8 1 7,bI 9 .quo 5 8,om 4 9]
.ret))
theorem wz_:av_ Tryz.prog 73=some (10,[.tmp 4],nG_):=by kernel_rfl
def nD_:ad_:=(sR [oo 2 (.box 150 (.t 0)),oo 3 (.box 32 (.t 1)),oo 4 (.mv (cb false))]
(.seq (sR [oo 5 (.mv (ci 0))]
(.block 0 (.loop (.seq (sR [om 6 5,fA 7 113 2,fA 8 1 7,lF 9 1 8,lN 10 9,bI 11 .lss 6 10]
(cN 11
.skip
(.exit 0)))
(.seq (.block 1 (.seq (.dreg [(fA 14 113 2,0),(fA 15 1 14,1),(lF 16 1 15,3),(om 17 5,0),(iX 18 238 16 17,15),(fA 19 67 18,31),(lA 20 32 19,63),(lA 21 32 3,0),(oo 22 (.eqa [(32,1)] false (.t 20) (.t 21)),255)])
(cN 22
(sR [oo 4 (.mv (cb true))]
.ret)
.skip)))
(.reg [om 12 5,bC 13 .add 12 (ci 1),om 5 13]))))))
(sR [fA 23 115 2,lA 24 1 23,lA 25 32 3,kB 26 23 24 25,bC 27 .geq 26 (ci 0),om 4 27]
.ret)))
theorem ww_:av_ Tryz.prog 153=some (28,[.tmp 4],nD_):=by kernel_rfl
def ph_:ad_:=(sR [oo 2 (.box 150 (.t 0)),oo 3 (.box 238 (.t 1)),oo 4 (.mv (cb false))]
(sR [fA 12 115 2,lA 13 1 12,fA 14 99 3,lA 15 32 14,kB 16 23 13 15,om 5 16]
(.seq (sR [om 17 5,bC 18 .lss 17 (ci 0)]
(cN 18
(sR [oo 4 (.mv (cb false))]
.ret)
.skip))
(.seq (sR [lA 19 150 2,lA 20 238 3,kB 21 145 19 20,oo 22 (.un .not (.t 21))]
(cN 22
(sR [oo 4 (.mv (cb false))]
.ret)
.skip))
(sR [fA 23 171 3,lA 24 33 23,fA 25 204 3,lA 26 33 25,fA 27 0 3,fA 28 0 27,lA 29 33 28,fA 30 0 3,fA 31 33 30,lA 32 33 31,oo 33 (.bldS 33 4 (cpC cp0) [(0,(.t 24)),(1,(.t 26)),(2,(.t 29)),(3,(.t 32))]),om 6 33]
(.seq (sR [oo 7 (.mv (ci 0))]
(.block 0 (.loop (.seq (sR [om 34 7,om 35 6,lN 36 35,bI 37 .lss 34 36]
(cN 37
.skip
(.exit 0)))
(.seq (.block 1 (.seq (.seq (.dreg [(om 40 6,0),(om 41 7,0),(iX 42 33 40 41,3),(fA 43 0 42,7),(lF 44 1 43,15),(fA 45 47 2,0),(fA 46 33 45,32),(fA 47 0 46,96),(lF 48 1 47,224),(bI 49 .leq 44 48,511)])
(cN 49
(.exit 1)
.skip))
(.seq (.dreg [(lA 51 150 2,0),(om 52 6,0),(om 53 7,0),(iX 54 33 52 53,6),(fA 55 0 54,14),(lF 56 1 55,30),(kB 57 126 51 56,63),(om 50 57,127),(eX 58 0 50,255),(eX 59 1 50,255),(om 8 58,511),(om 9 59,2047)])
(sR [fA 60 67 3,lA 61 32 60,oo 10 (.new (rtc rt0)),sO 32 10 61]
(.seq (sR [fA 62 66 3,lF 63 1 62,om 64 8,bI 65 .gtr 63 64]
(cN 65
(sR [fA 66 115 2,lA 67 1 66,om 68 5,om 69 8,kC 70 128 67 68 69,om 11 70]
(.seq (sR [om 71 11,bC 72 .lss 71 (ci 0)]
(cN 72
(sR [oo 4 (.mv (cb false))]
.ret)
.skip))
(.reg [fA 73 115 2,fA 74 0 73,lF 75 1 74,om 76 11,iX 77 240 75 76,fA 78 0 77,fA 79 67 78,lA 80 32 79,sO 32 10 80])))
.skip))
(.seq (.dreg [(lA 81 32 10,0),(om 82 6,0),(om 83 7,0),(iX 84 33 82 83,6),(fA 85 1 84,14),(lA 86 32 85,30),(oo 87 (.eqa [(32,1)] true (.t 81) (.t 86)),63)])
(cN 87
(sR [oo 4 (.mv (cb false))]
.ret)
.skip)))))))
(.reg [om 38 7,bC 39 .add 38 (ci 1),om 7 39]))))))
(sR [oo 4 (.mv (cb true))]
.ret)))))))
theorem zJ_:av_ Tryz.prog 154=some (88,[.tmp 4],ph_):=by kernel_rfl
def jC_:ad_:=(sR [oo 1 (.box 150 (.t 0)),oo 2 (.mv (.c (.sl 0 true [])))]
(sR [fA 4 149 1,lF 5 1 4,fA 6 47 1,fA 7 0 6,lA 8 33 7,kB 9 68 5 8,om 3 9]
(.seq (sR [om 10 3,bC 11 .lss 10 (ci 0)]
(cN 11
(sR [oo 2 (.mv (.c (.sl 0 true [])))]
.ret)
.skip))
(sR [fA 12 149 1,lF 13 1 12,om 14 3,iX 15 34 13 14,fA 16 33 15,lF 17 1 16,om 2 17]
.ret))))
theorem qA_:av_ Tryz.prog 29=some (18,[.tmp 2],jC_):=by kernel_rfl
def pm_:ad_:=(sR [oo 2 (.box 150 (.t 0)),oo 4 (.mv (cb false))]
(.seq (sR [lA 7 150 2,om 8 1,kB 9 280 7 8]
(cN 9
(sR [oo 4 (.mv (cb true))]
.ret)
.skip))
(sR [fA 10 115 2,lA 11 1 10,om 12 1,kB 13 276 11 12,om 5 13]
(.seq (sR [oo 6 (.mv (ci 0))]
(.block 0 (.loop (.seq (sR [om 14 6,om 15 5,lN 16 15,bI 17 .lss 14 16]
(cN 17
.skip
(.exit 0)))
(.seq (.block 1 (.seq (.dreg [(lA 20 150 2,0),(om 21 5,0),(om 22 6,0),(iX 23 1 21 22,6),(lF 24 1 23,14),(kB 25 275 20 24,31)])
(cN 25
(sR [oo 4 (.mv (cb true))]
.ret)
.skip)))
(.reg [om 18 6,bC 19 .add 18 (ci 1),om 6 19]))))))
(sR [oo 4 (.mv (cb false))]
.ret)))))
theorem zO_:av_ Tryz.prog 275=some (26,[.tmp 4],pm_):=by kernel_rfl
def nF_:ad_:=(sR [oo 3 (.box 150 (.t 0)),oo 6 (.mv (cb false))]
(sR [lA 10 150 3,om 11 2,kB 12 126 10 11,om 9 12,eX 13 0 9,eX 14 1 9,om 7 13,om 8 14]
(sR [om 15 8,oo 16 (.un .not (.t 15)),om 17 16,og 18 (.fldA 115 (.t 3)) 17 false,og 19 (.fldA 0 (.t 18)) 17 false,og 20 (.ld false 1 (.t 19)) 17 false,omg 21 1 17 false,og 22 (.idxS 240 (.t 20) (.t 21)) 17 false,og 23 (.fldA 0 (.t 22)) 17 false,og 24 (.fldA 66 (.t 23)) 17 false,og 25 (.ld false 1 (.t 24)) 17 false,omg 26 7 17 false,og 27 (.bin .leq (.t 25) (.t 26)) 17 false,oo 28 (.pick (.t 17) (cb true) (.t 27)),om 6 28]
.ret)))
theorem wy_:av_ Tryz.prog 74=some (29,[.tmp 6],nF_):=by kernel_rfl
def kJ_:ad_:=(sR [oo 2 (.box 150 (.t 0)),oo 3 (.box 238 (.t 1)),oo 4 (.mv (cb false))]
(.seq (.dreg [(fA 9 171 3,0),(fA 10 0 9,1),(lF 11 1 10,3),(fA 12 204 3,0),(fA 13 0 12,8),(lF 14 1 13,24),(fA 15 0 3,0),(fA 16 0 15,64),(fA 17 0 16,192),(lF 18 1 17,448),(fA 19 0 3,0),(fA 20 33 19,1024),(fA 21 0 20,3072),(lF 22 1 21,7168),(om 5 11,7),(om 6 14,16447),(om 7 18,50175),(om 8 22,131071)])
(sR [om 23 6,om 24 5,bI 25 .leq 23 24,om 26 25,omg 27 5 26 true,omg 28 7 26 true,og 29 (.bin .leq (.t 27) (.t 28)) 26 true,oo 30 (.pick (.t 26) (.t 29) (cb false)),om 31 30,omg 32 6 31 true,omg 33 8 31 true,og 34 (.bin .leq (.t 32) (.t 33)) 31 true,oo 35 (.pick (.t 31) (.t 34) (cb false)),om 36 35,omg 37 8 36 true,omg 38 7 36 true,og 39 (.bin .leq (.t 37) (.t 38)) 36 true,oo 40 (.pick (.t 36) (.t 39) (cb false)),om 41 40,omg 42 7 41 true,og 43 (.ld true 150 (.t 2)) 41 true,og 44 (.fldA 66 (.t 3)) 41 true,og 45 (.ld false 1 (.t 44)) 41 true,og 46 (.call (cf 73) [(.t 43),(.t 45)]) 41 true,og 47 (.bin .leq (.t 42) (.t 46)) 41 true,oo 48 (.pick (.t 41) (.t 47) (cb false)),om 4 48]
.ret)))
theorem sf_:av_ Tryz.prog 145=some (49,[.tmp 4],kJ_):=by kernel_rfl
def iI_:ad_:=(sR [oo 2 (.box 150 (.t 0)),oo 4 (.mv (cb false))]
(.seq (sR [lA 6 150 2,om 7 1,kB 8 281 6 7,oo 9 (.un .not (.t 8)),om 10 9,og 11 (.fldA 115 (.t 2)) 10 false,og 12 (.fldA 0 (.t 11)) 10 false,og 13 (.ld false 1 (.t 12)) 10 false,omg 14 1 10 false,og 15 (.idxS 240 (.t 13) (.t 14)) 10 false,og 16 (.fldA 239 (.t 15)) 10 false,og 17 (.ld false 1 (.t 16)) 10 false,og 18 (.bin .eql (.t 17) (ci 2)) 10 false,oo 19 (.pick (.t 10) (cb true) (.t 18))]
(cN 19
(sR [oo 4 (.mv (cb false))]
.ret)
.skip))
(sR [lA 20 150 2,om 21 1,kB 22 282 20 21,oo 23 (.fld false 0 1 (.t 22)),om 5 23]
(sR [fA 24 47 2,fA 25 0 24,fA 26 0 25,lF 27 1 26,bC 28 .eql 27 (cu 0),om 29 28,omg 30 5 29 false,og 31 (.fldA 47 (.t 2)) 29 false,og 32 (.fldA 0 (.t 31)) 29 false,og 33 (.fldA 0 (.t 32)) 29 false,og 34 (.ld false 1 (.t 33)) 29 false,og 35 (.bin .eql (.t 30) (.t 34)) 29 false,oo 36 (.pick (.t 29) (cb true) (.t 35)),om 37 36,omg 38 5 37 false,og 39 (.ld true 150 (.t 2)) 37 false,og 40 (.fldA 116 (.t 2)) 37 false,og 41 (.ld false 1 (.t 40)) 37 false,og 42 (.call (cf 73) [(.t 39),(.t 41)]) 37 false,og 43 (.bin .geq (.t 38) (.t 42)) 37 false,oo 44 (.pick (.t 37) (cb true) (.t 43)),om 45 44,og 46 (.ld true 150 (.t 2)) 45 false,og 47 (.fldA 116 (.t 2)) 45 false,og 48 (.ld false 1 (.t 47)) 45 false,og 49 (.call (cf 73) [(.t 46),(.t 48)]) 45 false,omg 50 5 45 false,og 51 (.bin .sub (.t 49) (.t 50)) 45 false,og 52 (.bin .leq (.t 51) (cu 2)) 45 false,oo 53 (.pick (.t 45) (cb true) (.t 52)),om 4 53]
.ret))))
theorem pC_:av_ Tryz.prog 280=some (54,[.tmp 4],iI_):=by kernel_rfl
def tq_:ad_:=(sR [oo 2 (.box 150 (.t 0)),oo 4 (.mv (cb false))]
(sR [om 5 1,bC 6 .geq 5 (ci 0),om 7 6,omg 8 1 7 true,og 9 (.fldA 115 (.t 2)) 7 true,og 10 (.fldA 0 (.t 9)) 7 true,og 11 (.ld false 1 (.t 10)) 7 true,og 12 (.len false (.t 11)) 7 true,og 13 (.bin .lss (.t 8) (.t 12)) 7 true,oo 14 (.pick (.t 7) (.t 13) (cb false)),om 4 14]
.ret))
theorem Ez_:av_ Tryz.prog 281=some (15,[.tmp 4],tq_):=by kernel_rfl
def lA_:ad_:=(sR [oo 2 (.box 150 (.t 0)),oo 4 (.new (cpC cp0))]
(.seq (sR [lA 6 150 2,om 7 1,kB 8 281 6 7,oo 9 (.un .not (.t 8))]
(cN 9
(sR [oo 10 (.bld (cpC cp0) []),sO 33 4 10]
.ret)
.skip))
(sR [fA 11 115 2,fA 12 0 11,lF 13 1 12,om 14 1,iX 15 240 13 14,lA 16 240 15,oo 5 (.new (aG_ dE_)),sO 240 5 16]
(.seq (.seq (.dreg [(lA 17 150 2,0),(fA 18 0 5,0),(fA 19 66 18,2),(lF 20 1 19,6),(kB 21 73 17 20,15),(lA 22 150 2,0),(fA 23 116 2,0),(lF 24 1 23,64),(kB 25 73 22 24,255),(bI 26 .lss 21 25,511)])
(cN 26
(sR [fA 27 0 5,fA 28 0 27,fA 29 0 28,lA 30 33 29,sO 33 4 30]
.ret)
.skip))
(sR [fA 31 0 5,fA 32 171 31,lA 33 33 32,sO 33 4 33]
.ret)))))
theorem tT_:av_ Tryz.prog 282=some (34,[.cell 4 true 33],lA_):=by kernel_rfl
def lK_:ad_:=(sR [oo 6 (.mv (cb false))]
(sR [om 7 0,om 8 1,bI 9 .geq 7 8,om 10 9,omg 11 0 10 true,omg 12 2 10 true,og 13 (.bin .leq (.t 11) (.t 12)) 10 true,oo 14 (.pick (.t 10) (.t 13) (cb false)),om 6 14]
.ret))
theorem ub_:av_ Tryz.prog 132=some (15,[.tmp 6],lK_):=by kernel_rfl
def hr_:ad_:=(sR [oo 1 (.box 45 (.t 0)),oo 2 (.mv (ci 0))]
(sR [fA 4 0 1,fA 5 0 4,lF 6 1 5,oo 7 (.call (cf 132) [(.t 6),(ci 1),(ci 4096)]),om 8 7,og 9 (.fldA 0 (.t 1)) 8 true,og 10 (.fldA 1 (.t 9)) 8 true,og 11 (.ld false 1 (.t 10)) 8 true,og 12 (.call (cf 132) [(.t 11),(ci 0),(ci 64)]) 8 true,oo 13 (.pick (.t 8) (.t 12) (cb false)),om 14 13,og 15 (.fldA 0 (.t 1)) 14 true,og 16 (.fldA 2 (.t 15)) 14 true,og 17 (.ld false 1 (.t 16)) 14 true,og 18 (.call (cf 132) [(.t 17),(ci 0),(ci 256)]) 14 true,oo 19 (.pick (.t 14) (.t 18) (cb false)),om 20 19,og 21 (.fldA 0 (.t 1)) 20 true,og 22 (.fldA 3 (.t 21)) 20 true,og 23 (.ld false 1 (.t 22)) 20 true,og 24 (.call (cf 132) [(.t 23),(ci 1),(ci 64)]) 20 true,oo 25 (.pick (.t 20) (.t 24) (cb false)),om 26 25,og 27 (.fldA 0 (.t 1)) 26 true,og 28 (.fldA 4 (.t 27)) 26 true,og 29 (.ld false 1 (.t 28)) 26 true,og 30 (.call (cf 132) [(.t 29),(ci 0),(ci 256)]) 26 true,oo 31 (.pick (.t 26) (.t 30) (cb false)),om 32 31,og 33 (.fldA 0 (.t 1)) 32 true,og 34 (.fldA 5 (.t 33)) 32 true,og 35 (.ld false 1 (.t 34)) 32 true,og 36 (.bin .geq (.t 35) (cu 1)) 32 true,oo 37 (.pick (.t 32) (.t 36) (cb false)),om 38 37,og 39 (.fldA 0 (.t 1)) 38 true,og 40 (.fldA 5 (.t 39)) 38 true,og 41 (.ld false 1 (.t 40)) 38 true,og 42 (.bin .leq (.t 41) (cu 1048576)) 38 true,oo 43 (.pick (.t 38) (.t 42) (cb false)),om 3 43]
(.seq (sR [om 44 3,oo 45 (.un .not (.t 44)),om 46 45,og 47 (.fldA 6 (.t 1)) 46 false,og 48 (.ld false 1 (.t 47)) 46 false,og 49 (.bin .lss (.t 48) (cu 1)) 46 false,oo 50 (.pick (.t 46) (cb true) (.t 49)),om 51 50,og 52 (.fldA 6 (.t 1)) 51 false,og 53 (.ld false 1 (.t 52)) 51 false,og 54 (.bin .gtr (.t 53) (cu 64)) 51 false,oo 55 (.pick (.t 51) (cb true) (.t 54)),om 56 55,og 57 (.fldA 7 (.t 1)) 56 false,og 58 (.ld false 1 (.t 57)) 56 false,og 59 (.bin .gtr (.t 58) (cu 100)) 56 false,oo 60 (.pick (.t 56) (cb true) (.t 59)),om 61 60,og 62 (.fldA 44 (.t 1)) 61 false,og 63 (.ld false 1 (.t 62)) 61 false,og 64 (.len false (.t 63)) 61 false,og 65 (.bin .gtr (.t 64) (ci 1024)) 61 false,oo 66 (.pick (.t 61) (cb true) (.t 65))]
(cN 66
(sR [oo 2 (.mv (ci 3))]
.ret)
.skip))
(.seq (sR [fA 67 12 1,lA 68 32 67,kA 69 78 68]
(cN 69
(sR [oo 2 (.mv (ci 2))]
.ret)
.skip))
(sR [fA 70 44 1,lF 71 1 70,oo 72 (.bld (aT_ fw_) [(33,1,(.t 71))]),fA 73 44 1,lF 74 1 73,lN 75 74,kB 76 96 72 75,om 2 76]
.ret)))))
theorem mY_:av_ Tryz.prog 56=some (77,[.tmp 2],hr_):=by kernel_rfl
def rt_:ad_:=(sR [oo 1 (.box 45 (.t 0)),oo 2 (.new (ai_ bI_)),oo 3 (.mv (ci 0))]
(.seq (sR [lA 8 45 1,kA 9 56 8,om 4 9]
(sR [om 10 4,bC 11 .neq 10 (ci 0)]
(cN 11
(sR [oo 12 (.bld (ai_ bI_) []),om 13 4,sO 150 2 12,om 3 13]
.ret)
.skip)))
(sR [fA 14 12 1,lA 15 32 14,oo 16 (.bld (cpC cp0) [(1,32,(.t 15))]),oo 5 (.new (cpC cp0)),sO 33 5 16]
(sR [fA 17 12 1,lA 18 32 17,lA 19 33 5,lA 20 33 5,lA 21 33 5,lA 22 33 5,oo 23 (.bld (cg_ ks_) [(0,33,(.t 21)),(33,33,(.t 22))]),oo 24 (.bld (ap_ bR_) [(67,32,(.t 18)),(171,33,(.t 19)),(204,33,(.t 20)),(0,66,(.t 23))]),oo 6 (.new (ap_ bR_)),sO 238 6 24]
(.seq (.dreg [(lA 25 45 1,0),(fA 26 44 1,0),(lF 27 1 26,2),(lN 28 27,6),(oo 29 (.mk 34 48 (aZ_ eh_) (.t 28) (.t 28)),14),(oo 30 (.bld [(.sl 0 true []),(.sl 0 true [])] [(0,1,(.t 29))]),30),(lA 31 33 5,0),(lA 32 33 5,0),(oo 33 (.bld (cg_ ks_) [(0,33,(.t 31)),(33,33,(.t 32))]),192),(lA 34 238 6,0),(oo 35 (.call (cf 131) [(.t 34),(ci 1)]),512),(lA 36 33 5,0),(fA 37 44 1,0),(lF 38 1 37,4096),(oo 39 (.bld (aT_ fw_) [(0,33,(.t 36)),(33,1,(.t 38))]),14336),(oo 40 (.bldS 34 1 (aT_ fw_) [(0,(.t 39))]),30720),(oo 41 (.bld (ai_ bI_) [(0,45,(.t 25)),(45,2,(.t 30)),(47,66,(.t 33)),(115,1,(.t 35)),(149,1,(.t 40))]),65535),(oo 7 (.new (ai_ bI_)),0),(sO 150 7 41,262143)])
(sR [lA 42 150 7,kA 43 38 42,sO 150 2 43,oo 3 (.mv (ci 0))]
.ret))))))
theorem BR_:av_ Tryz.prog 54=some (44,[.cell 2 true 150,.tmp 3],rt_):=by kernel_rfl
def pt_:ad_:=(sR [oo 1 (.box 150 (.t 0)),oo 2 (.new (ai_ bI_)),oo 3 (.mv (ci 0))]
(.seq (sR [fA 11 116 1,lF 12 1 11,bC 13 .geq 12 (cu 1099511627776)]
(cN 13
(sR [oo 14 (.bld (ai_ bI_) []),sO 150 2 14,oo 3 (.mv (ci 3))]
.ret)
.skip))
(sR [lA 15 150 1,kA 16 38 15,oo 4 (.new (ai_ bI_)),sO 150 4 16]
(sR [fA 17 116 4,lF 18 1 17,bC 19 .add 18 (cu 1),oo 20 (.bld (rtc rt0) []),fA 21 116 4,sO 1 21 19,fA 22 117 4,sO 32 22 20]
(.seq (sR [fA 23 116 4,lF 24 1 23,fA 25 0 4,fA 26 6 25,lF 27 1 26,kB 28 39 24 27]
(cN 28
(sR [lA 29 150 4,kA 30 40 29,oo 5 (.new (cg_ ks_)),sO 66 5 30]
(.reg [lA 31 150 4,fA 32 0 5,lA 33 33 32,fA 34 33 5,lA 35 33 34,kC 36 41 31 33 35,sO 150 4 36]))
.skip))
(sR [fA 37 113 4,fA 38 0 37,lF 39 1 38,om 6 39]
(sR [fA 40 113 4,fA 41 0 40,on (.sto 1 (.t 41) (.c (.sl 0 true [])))]
(.seq (sR [om 42 6,lN 43 42,oo 44 (.mv (ci 0))]
(.block 0 (.loop (sR [bI 45 .lss 44 43]
(.seq (cN 45
.skip
(.exit 0))
(.seq (.block 1 (sR [iX 46 67 42 44,lA 47 67 46,oo 8 (.new (aY_ jw_)),sO 67 8 47]
(.seq (sR [fA 48 0 8,lF 49 1 48,fA 50 116 4,lF 51 1 50,bI 52 .geq 49 51]
(cN 52
(sR [fA 53 113 4,fA 54 0 53,lF 55 1 54,lA 56 67 8,oo 57 (.bldS 67 1 (aY_ jw_) [(0,(.t 56))]),oo 58 (.app 67 104 (.t 55) (.t 57)),fA 59 113 4,fA 60 0 59,sO 1 60 58]
(.exit 1))
.skip))
(sR [lA 62 150 4,lA 63 67 8,kB 64 42 62 63,om 61 64,eX 65 0 61,eX 66 1 61,om 9 65,om 10 66]
(sR [om 67 10,bC 68 .eql 67 (ci 0)]
(cN 68
(.reg [lA 69 150 4,lA 70 67 8,kB 71 43 69 70,sO 150 4 71])
.skip))))))
(.reg [bC 72 .add 44 (ci 1),om 44 72])))))))
(sR [lA 73 150 4,sO 150 2 73,oo 3 (.mv (ci 0))]
.ret)))))))))
theorem zW_:av_ Tryz.prog 11=some (74,[.cell 2 true 150,.tmp 3],pt_):=by kernel_rfl
def gE_:ad_:=(sR [oo 1 (.box 1 (.t 0)),oo 2 (.mv (ci 0))]
(.seq (sR [fA 6 0 1,lF 7 1 6,lN 8 7,bC 9 .eql 8 (ci 0),om 10 9,og 11 (.fldA 0 (.t 1)) 10 false,og 12 (.ld false 1 (.t 11)) 10 false,og 13 (.len false (.t 12)) 10 false,og 14 (.bin .gtr (.t 13) (ci 4096)) 10 false,oo 15 (.pick (.t 10) (cb true) (.t 14))]
(cN 15
(sR [oo 2 (.mv (ci 11))]
.ret)
.skip))
(sR [oo 16 (.mop .mkm []),om 3 16]
(.seq (sR [fA 17 0 1,lF 18 1 17,lN 19 18,oo 20 (.mv (ci 0))]
(.block 0 (.loop (sR [bI 21 .lss 20 19]
(.seq (cN 21
.skip
(.exit 0))
(.seq (.block 1 (sR [om 22 20,iX 23 240 18 20,lA 24 240 23,oo 5 (.new (aG_ dE_)),om 4 22,sO 240 5 24]
(.seq (sR [fA 25 239 5,lF 26 1 25,kA 27 190 26,oo 28 (.un .not (.t 27)),om 29 28,omg 30 4 29 false,og 31 (.bin .eql (.t 30) (ci 0)) 29 false,omg 32 31 29 false,og 33 (.fldA 238 (.t 5)) 32 true,og 34 (.ld false 1 (.t 33)) 32 true,og 35 (.bin .neq (.t 34) (ci (-1))) 32 true,og 36 (.pick (.t 32) (.t 35) (cb false)) 29 false,oo 37 (.pick (.t 29) (cb true) (.t 36)),om 38 37,omg 39 4 38 false,og 40 (.bin .gtr (.t 39) (ci 0)) 38 false,omg 41 40 38 false,og 42 (.fldA 238 (.t 5)) 41 true,og 43 (.ld false 1 (.t 42)) 41 true,og 44 (.bin .lss (.t 43) (ci 0)) 41 true,omg 45 44 41 true,og 46 (.fldA 238 (.t 5)) 45 false,og 47 (.ld false 1 (.t 46)) 45 false,omg 48 4 45 false,og 49 (.bin .geq (.t 47) (.t 48)) 45 false,og 50 (.pick (.t 45) (cb true) (.t 49)) 41 true,og 51 (.pick (.t 41) (.t 50) (cb false)) 38 false,oo 52 (.pick (.t 38) (cb true) (.t 51))]
(cN 52
(sR [oo 2 (.mv (ci 2))]
.ret)
.skip))
(.seq (sR [om 53 3,fA 54 0 5,fA 55 67 54,lA 56 32 55,oo 57 (.mop (.lkp (some 32) (.bool false) false) [(.t 53),(.t 56)])]
(cN 57
(sR [oo 2 (.mv (ci 9))]
.ret)
.skip))
(sR [om 58 3,fA 59 0 5,fA 60 67 59,lA 61 32 60,on (.mop (.upd (some 32)) [(.t 58),(.t 61),(cb true)])]
(.seq (sR [om 62 4,bC 63 .eql 62 (ci 0)]
(cN 63
(.exit 1)
.skip))
(.seq (.seq (.dreg [(fA 64 0 5,0),(fA 65 99 64,1),(lA 66 32 65,3),(fA 67 0 1,0),(lF 68 1 67,8),(fA 69 238 5,0),(lF 70 1 69,32),(iX 71 240 68 70,120),(fA 72 0 71,248),(fA 73 67 72,504),(lA 74 32 73,1016),(oo 75 (.eqa [(32,1)] true (.t 66) (.t 74)),2047)])
(cN 75
(sR [oo 2 (.mv (ci 10))]
.ret)
.skip))
(.seq (.dreg [(fA 76 0 5,0),(fA 77 66 76,1),(lF 78 1 77,3),(fA 79 0 1,0),(lF 80 1 79,8),(fA 81 238 5,0),(lF 82 1 81,32),(iX 83 240 80 82,120),(fA 84 0 83,248),(fA 85 66 84,504),(lF 86 1 85,1016),(bI 87 .leq 78 86,2047)])
(cN 87
(sR [oo 2 (.mv (ci 14))]
.ret)
.skip)))))))))
(.reg [bC 88 .add 20 (ci 1),om 20 88])))))))
(sR [oo 2 (.mv (ci 0))]
.ret)))))
theorem lS_:av_ Tryz.prog 133=some (89,[.tmp 2],gE_):=by kernel_rfl
def iM_:ad_:=(sR [oo 1 (.box 1 (.t 0)),oo 2 (.mv (ci 0))]
(.seq (sR [lA 7 1 1,kA 8 133 7,om 3 8]
(sR [om 9 3,bC 10 .neq 9 (ci 0)]
(cN 10
(sR [om 11 3,om 2 11]
.ret)
.skip)))
(.seq (sR [fA 12 0 1,lF 13 1 12,oo 14 (.sli 240 (.t 13) (some (ci 1)) none none),lN 15 14,oo 16 (.mv (ci 0))]
(.block 0 (.loop (sR [bI 17 .lss 16 15]
(.seq (cN 17
.skip
(.exit 0))
(.seq (.block 1 (sR [iX 18 240 14 16,lA 19 240 18,oo 5 (.new (aG_ dE_)),sO 240 5 19]
(sR [fA 20 0 1,lF 21 1 20,fA 22 238 5,lF 23 1 22,iX 24 240 21 23,fA 25 239 24,lF 26 1 25,om 6 26]
(sR [fA 27 239 5,lF 28 1 27,bC 29 .eql 28 (ci 1),om 30 29,omg 31 6 30 true,og 32 (.bin .neq (.t 31) (ci 1)) 30 true,oo 33 (.pick (.t 30) (.t 32) (cb false)),om 34 33,omg 35 6 34 false,og 36 (.bin .eql (.t 35) (ci 2)) 34 false,omg 37 36 34 false,og 38 (.fldA 239 (.t 5)) 37 true,og 39 (.ld false 1 (.t 38)) 37 true,og 40 (.bin .neq (.t 39) (ci 2)) 37 true,og 41 (.pick (.t 37) (.t 40) (cb false)) 34 false,oo 42 (.pick (.t 34) (cb true) (.t 41))]
(cN 42
(sR [oo 2 (.mv (ci 15))]
.ret)
.skip)))))
(.reg [bC 43 .add 16 (ci 1),om 16 43])))))))
(sR [oo 2 (.mv (ci 0))]
.ret))))
theorem pI_:av_ Tryz.prog 57=some (44,[.tmp 2],iM_):=by kernel_rfl
def nR_:ad_:=(sR [oo 2 (.box 150 (.t 0)),oo 4 (.mv (cu 0))]
(sR [om 8 1,fA 9 0 2,fA 10 6 9,lF 11 1 10,kB 12 121 8 11,om 7 12,eX 13 0 7,eX 14 1 7,om 5 13,om 6 14]
(sR [om 15 5,om 4 15]
.ret)))
theorem wL_:av_ Tryz.prog 134=some (16,[.tmp 4],nR_):=by kernel_rfl
def gb_:ad_:=(sR [oo 1 (.box 150 (.t 0)),oo 2 (.mv (cb false))]
(sR [fA 6 115 1,lA 7 1 6,fA 8 47 1,fA 9 0 8,fA 10 1 9,lA 11 32 10,kB 12 82 7 11,om 3 12]
(.seq (.seq (.dreg [(fA 13 115 1,0),(fA 14 0 13,1),(lF 15 1 14,3),(oo 16 (.idxS 240 (.t 15) (ci 0)),7),(fA 17 0 16,15),(fA 18 67 17,31),(lA 19 32 18,63),(fA 20 47 1,0),(fA 21 33 20,128),(fA 22 1 21,384),(lA 23 32 22,896),(oo 24 (.eqa [(32,1)] true (.t 19) (.t 23)),2047),(om 25 24,4095),(omg 26 3 25 false,8191),(og 27 (.bin .lss (.t 26) (ci 0)) 25 false,16383),(oo 28 (.pick (.t 25) (cb true) (.t 27)),32767),(om 29 28,65535),(og 30 (.fldA 115 (.t 1)) 29 false,131071),(og 31 (.fldA 0 (.t 30)) 29 false,262143),(og 32 (.ld false 1 (.t 31)) 29 false,524287),(omg 33 3 29 false,131071),(og 34 (.idxS 240 (.t 32) (.t 33)) 29 false,2097151),(og 35 (.fldA 239 (.t 34)) 29 false,4194303),(og 36 (.ld false 1 (.t 35)) 29 false,8388607),(og 37 (.bin .eql (.t 36) (ci 2)) 29 false,16777215),(oo 38 (.pick (.t 29) (cb true) (.t 37)),33554431),(om 39 38,67108863),(og 40 (.fldA 47 (.t 1)) 39 false,134217727),(og 41 (.fldA 0 (.t 40)) 39 false,268435455),(og 42 (.fldA 0 (.t 41)) 39 false,536870911),(og 43 (.ld false 1 (.t 42)) 39 false,1073741823),(og 44 (.fldA 47 (.t 1)) 39 false,134217727),(og 45 (.fldA 33 (.t 44)) 39 false,2281701375),(og 46 (.fldA 0 (.t 45)) 39 false,6576668671),(og 47 (.ld false 1 (.t 46)) 39 false,15166603263),(og 48 (.bin .lss (.t 43) (.t 47)) 39 false,34359738367),(oo 49 (.pick (.t 39) (cb true) (.t 48)),68719476735)])
(cN 49
(sR [oo 2 (.mv (cb false))]
.ret)
.skip))
(.seq (.seq (.dreg [(fA 50 117 1,0),(lA 51 32 50,1),(kA 52 78 51,3),(oo 53 (.un .not (.t 52)),7),(om 54 53,15),(og 55 (.fldA 115 (.t 1)) 54 true,31),(og 56 (.ld true 1 (.t 55)) 54 true,63),(og 57 (.fldA 117 (.t 1)) 54 true,31),(og 58 (.ld true 32 (.t 57)) 54 true,159),(og 59 (.call (cf 82) [(.t 56),(.t 58)]) 54 true,511),(og 60 (.bin .lss (.t 59) (ci 0)) 54 true,1023),(oo 61 (.pick (.t 54) (.t 60) (cb false)),2047),(om 62 61,4095),(og 63 (.fldA 116 (.t 1)) 62 false,8191),(og 64 (.ld false 1 (.t 63)) 62 false,16383),(og 65 (.bin .gtr (.t 64) (cu 1099511627776)) 62 false,32767),(oo 66 (.pick (.t 62) (cb true) (.t 65)),65535),(om 67 66,131071),(og 68 (.fldA 47 (.t 1)) 67 false,262143),(og 69 (.fldA 0 (.t 68)) 67 false,524287),(og 70 (.fldA 0 (.t 69)) 67 false,1048575),(og 71 (.ld false 1 (.t 70)) 67 false,2097151),(og 72 (.ld true 150 (.t 1)) 67 false,262143),(og 73 (.fldA 116 (.t 1)) 67 false,262143),(og 74 (.ld false 1 (.t 73)) 67 false,8650751),(og 75 (.call (cf 134) [(.t 72),(.t 74)]) 67 false,29622271),(og 76 (.bin .gtr (.t 71) (.t 75)) 67 false,67108863),(oo 77 (.pick (.t 67) (cb true) (.t 76)),134217727)])
(cN 77
(sR [oo 2 (.mv (cb false))]
.ret)
.skip))
(sR [fA 79 47 1,fA 80 33 79,fA 81 0 80,lF 82 1 81,fA 83 0 1,fA 84 6 83,lF 85 1 84,kB 86 117 82 85,om 78 86,eX 87 0 78,eX 88 1 78,om 4 87,om 5 88]
(sR [om 89 5,bC 90 .eql 89 (ci 0),om 91 90,og 92 (.fldA 115 (.t 1)) 91 true,og 93 (.fldA 0 (.t 92)) 91 true,og 94 (.ld false 1 (.t 93)) 91 true,og 95 (.idxS 240 (.t 94) (ci 0)) 91 true,og 96 (.fldA 0 (.t 95)) 91 true,og 97 (.fldA 66 (.t 96)) 91 true,og 98 (.ld false 1 (.t 97)) 91 true,omg 99 4 91 true,og 100 (.bin .leq (.t 98) (.t 99)) 91 true,oo 101 (.pick (.t 91) (.t 100) (cb false)),om 2 101]
.ret))))))
theorem le_:av_ Tryz.prog 58=some (102,[.tmp 2],gb_):=by kernel_rfl
def ht_:ad_:=(sR [oo 1 (.box 150 (.t 0)),oo 2 (.mv (cb false))]
(sR [oo 3 (.mv (cb false))]
(.seq (sR [fA 6 149 1,lF 7 1 6,lN 8 7,oo 9 (.mv (ci 0))]
(.block 0 (.loop (sR [bI 10 .lss 9 8]
(.seq (cN 10
.skip
(.exit 0))
(.seq (.block 1 (sR [om 11 9,iX 12 34 7 9,lA 13 34 12,oo 5 (.new (aT_ fw_)),om 4 11,sO 34 5 13]
(.seq (.seq (.dreg [(om 14 4,0),(bC 15 .gtr 14 (ci 0),1),(om 16 15,3),(og 17 (.fldA 149 (.t 1)) 16 true,7),(og 18 (.ld false 1 (.t 17)) 16 true,15),(omg 19 4 16 true,7),(og 20 (.bin .sub (.t 19) (ci 1)) 16 true,39),(og 21 (.idxS 34 (.t 18) (.t 20)) 16 true,127),(og 22 (.ld true 34 (.t 21)) 16 true,255),(og 23 (.ld true 34 (.t 5)) 16 true,7),(og 24 (.call (cf 98) [(.t 22),(.t 23)]) 16 true,1023),(og 25 (.bin .geq (.t 24) (ci 0)) 16 true,2047),(oo 26 (.pick (.t 16) (.t 25) (cb false)),4095),(om 27 26,8191),(og 28 (.ld true 34 (.t 5)) 27 false,16383),(og 29 (.fldA 0 (.t 1)) 27 false,16383),(og 30 (.fldA 44 (.t 29)) 27 false,49151),(og 31 (.ld false 1 (.t 30)) 27 false,114687),(og 32 (.len false (.t 31)) 27 false,245759),(og 33 (.call (cf 96) [(.t 28),(.t 32)]) 27 false,524287),(og 34 (.bin .neq (.t 33) (ci 0)) 27 false,1048575),(oo 35 (.pick (.t 27) (cb true) (.t 34)),2097151)])
(cN 35
(sR [oo 2 (.mv (cb false))]
.ret)
.skip))
(.reg [om 36 3,om 37 36,og 38 (.fldA 0 (.t 5)) 37 false,og 39 (.ld true 33 (.t 38)) 37 false,og 40 (.fldA 47 (.t 1)) 37 false,og 41 (.fldA 0 (.t 40)) 37 false,og 42 (.ld true 33 (.t 41)) 37 false,og 43 (.eqa [(33,1)] false (.t 39) (.t 42)) 37 false,oo 44 (.pick (.t 37) (cb true) (.t 43)),om 3 44]))))
(.reg [bC 45 .add 9 (ci 1),om 9 45])))))))
(sR [om 46 3,om 2 46]
.ret))))
theorem na_:av_ Tryz.prog 59=some (47,[.tmp 2],ht_):=by kernel_rfl
def ig_:ad_:=(sR [oo 1 (.box 150 (.t 0)),oo 2 (.mv (cb false))]
(sR [fA 4 0 1,fA 5 44 4,lF 6 1 5,lN 7 6,om 3 7]
(.seq (sR [fA 8 45 1,fA 9 0 8,lF 10 1 9,oo 11 (.call (cf 135) [(.t 10),(cf 136)])]
(cN 11
(sR [oo 2 (.mv (cb false))]
.ret)
.skip))
(sR [fA 12 45 1,fA 13 0 12,lF 14 1 13,lN 15 14,om 16 3,bI 17 .eql 15 16,om 18 17,og 19 (.fldA 45 (.t 1)) 18 true,og 20 (.fldA 1 (.t 19)) 18 true,og 21 (.ld false 1 (.t 20)) 18 true,og 22 (.len false (.t 21)) 18 true,og 23 (.bin .eql (.t 22) (ci 0)) 18 true,omg 24 23 18 true,og 25 (.fldA 45 (.t 1)) 24 false,og 26 (.fldA 1 (.t 25)) 24 false,og 27 (.ld false 1 (.t 26)) 24 false,omg 28 3 24 false,og 29 (.call (cf 120) [(.t 27),(.t 28)]) 24 false,og 30 (.bin .eql (.t 29) (ci 0)) 24 false,og 31 (.pick (.t 24) (cb true) (.t 30)) 18 true,oo 32 (.pick (.t 18) (.t 31) (cb false)),om 2 32]
.ret))))
theorem oy_:av_ Tryz.prog 60=some (33,[.tmp 2],ig_):=by kernel_rfl
def gN_:ad_:=(sR [oo 1 (.box 34 (.t 0)),oo 2 (.mv (cb false))]
(sR [fA 3 0 1,lF 4 1 3,oo 5 (.un .not (.t 4)),om 6 5,og 7 (.ld true 34 (.t 1)) 6 true,og 8 (.bld (aZ_ eh_) []) 6 true,og 9 (.eqa [(1,0),(33,1)] true (.t 7) (.t 8)) 6 true,oo 10 (.pick (.t 6) (.t 9) (cb false)),om 2 10]
.ret))
theorem mb_:av_ Tryz.prog 136=some (11,[.tmp 2],gN_):=by kernel_rfl
def if_:ad_:=(sR [oo 1 (.box 150 (.t 0)),oo 2 (.mv (cb false))]
(sR [fA 3 115 1,fA 4 0 3,lF 5 1 4,oo 6 (.mkf (.func 138) [(.t 1)]),kB 7 137 5 6,oo 8 (.un .not (.t 7)),om 2 8]
.ret))
theorem ox_:av_ Tryz.prog 61=some (9,[.tmp 2],if_):=by kernel_rfl
def gM_:ad_:=(sR [oo 2 (.box 240 (.t 0)),oo 3 (.mv (cb false))]
(.seq (.dreg [(fA 7 0 2,0),(fA 8 171 7,1),(fA 9 0 8,3),(lF 10 1 9,7),(fA 11 0 2,0),(fA 12 204 11,16),(fA 13 0 12,48),(lF 14 1 13,112),(om 4 10,15),(om 5 14,511)])
(.seq (.dreg [(om 15 5,0),(om 16 4,0),(bI 17 .leq 15 16,3),(om 18 17,7),(omg 19 4 18 true,15),(og 20 (.fldA 0 (.t 2)) 18 true,15),(og 21 (.fldA 0 (.t 20)) 18 true,47),(og 22 (.fldA 0 (.t 21)) 18 true,111),(og 23 (.fldA 0 (.t 22)) 18 true,239),(og 24 (.ld false 1 (.t 23)) 18 true,495),(og 25 (.bin .leq (.t 19) (.t 24)) 18 true,1023),(oo 26 (.pick (.t 18) (.t 25) (cb false)),2047),(om 27 26,4095),(omg 28 5 27 true,8191),(og 29 (.fldA 0 (.t 2)) 27 true,8191),(og 30 (.fldA 0 (.t 29)) 27 true,24575),(og 31 (.fldA 33 (.t 30)) 27 true,57343),(og 32 (.fldA 0 (.t 31)) 27 true,122879),(og 33 (.ld false 1 (.t 32)) 27 true,253951),(og 34 (.bin .leq (.t 28) (.t 33)) 27 true,524287),(oo 35 (.pick (.t 27) (.t 34) (cb false)),1048575),(om 36 35,2097151),(og 37 (.fldA 0 (.t 2)) 36 true,4194303),(og 38 (.fldA 0 (.t 37)) 36 true,8388607),(og 39 (.fldA 33 (.t 38)) 36 true,16777215),(og 40 (.fldA 0 (.t 39)) 36 true,33554431),(og 41 (.ld false 1 (.t 40)) 36 true,67108863),(og 42 (.fldA 0 (.t 2)) 36 true,4194303),(og 43 (.fldA 0 (.t 42)) 36 true,138412031),(og 44 (.fldA 0 (.t 43)) 36 true,406847487),(og 45 (.fldA 0 (.t 44)) 36 true,943718399),(og 46 (.ld false 1 (.t 45)) 36 true,2017460223),(og 47 (.bin .leq (.t 41) (.t 46)) 36 true,4294967295),(oo 48 (.pick (.t 36) (.t 47) (cb false)),8589934591),(om 49 48,17179869183),(og 50 (.fldA 0 (.t 2)) 49 true,34359738367),(og 51 (.fldA 0 (.t 50)) 49 true,68719476735),(og 52 (.fldA 0 (.t 51)) 49 true,137438953471),(og 53 (.fldA 0 (.t 52)) 49 true,274877906943),(og 54 (.ld false 1 (.t 53)) 49 true,549755813887),(og 55 (.ld true 150 (.t 1)) 49 true,34359738367),(og 56 (.fldA 0 (.t 2)) 49 true,34359738367),(og 57 (.fldA 66 (.t 56)) 49 true,2233382993919),(og 58 (.ld false 1 (.t 57)) 49 true,6631429505023),(og 59 (.call (cf 134) [(.t 55),(.t 58)]) 49 true,16527034155007),(og 60 (.bin .leq (.t 54) (.t 59)) 49 true,35184372088831),(oo 61 (.pick (.t 49) (.t 60) (cb false)),70368744177663),(om 6 61,140737488355327)])
(sR [fA 62 0 2,fA 63 66 62,lF 64 1 63,fA 65 116 1,lF 66 1 65,bI 67 .gtr 64 66,om 68 67,omg 69 6 68 false,og 70 (.un .not (.t 69)) 68 false,oo 71 (.pick (.t 68) (cb true) (.t 70)),om 3 71]
.ret))))
theorem ma_:av_ Tryz.prog 138=some (72,[.tmp 3],gM_):=by kernel_rfl
def hs_:ad_:=(sR [oo 1 (.box 150 (.t 0)),oo 2 (.mv (cb false))]
(.seq (sR [fA 13 113 1,fA 14 0 13,lF 15 1 14,lN 16 15,oo 17 (.mv (ci 0))]
(.block 0 (.loop (sR [bI 18 .lss 17 16]
(.seq (cN 18
.skip
(.exit 0))
(.seq (.block 1 (sR [iX 19 67 15 17,lA 20 67 19,oo 4 (.new (aY_ jw_)),sO 67 4 20]
(sR [fA 21 66 4,lF 22 1 21,fA 23 0 1,fA 24 44 23,lF 25 1 24,lN 26 25,kB 27 120 22 26,bC 28 .neq 27 (ci 0)]
(cN 28
(sR [oo 2 (.mv (cb false))]
.ret)
.skip))))
(.reg [bC 29 .add 17 (ci 1),om 17 29])))))))
(sR [fA 31 47 1,fA 32 33 31,fA 33 0 32,lF 34 1 33,fA 35 0 1,fA 36 6 35,lF 37 1 36,kB 38 117 34 37,om 30 38,eX 39 0 30,eX 40 1 30,om 5 39,om 6 40]
(sR [oo 41 (.mop .mkm []),om 7 41]
(.seq (sR [fA 42 115 1,fA 43 0 42,lF 44 1 43,lN 45 44,oo 46 (.mv (ci 0))]
(.block 2 (.loop (sR [bI 47 .lss 46 45]
(.seq (cN 47
.skip
(.exit 2))
(.seq (.block 3 (sR [iX 48 240 44 46,lA 49 240 48,oo 9 (.new (aG_ dE_)),sO 240 9 49]
(.reg [om 50 7,fA 51 0 9,fA 52 67 51,lA 53 32 52,on (.mop (.upd (some 32)) [(.t 50),(.t 53),(cb true)])])))
(.reg [bC 54 .add 46 (ci 1),om 46 54])))))))
(sR [oo 55 (.mop .mkm []),om 10 55]
(.seq (sR [fA 56 113 1,fA 57 1 56,lF 58 1 57,lN 59 58,oo 60 (.mv (ci 0))]
(.block 4 (.loop (sR [bI 61 .lss 60 59]
(.seq (cN 61
.skip
(.exit 4))
(.seq (.block 5 (sR [iX 62 238 58 60,lA 63 238 62,oo 12 (.new (ap_ bR_)),sO 238 12 63]
(.seq (sR [fA 64 67 12,lA 65 32 64,kA 66 78 65,om 67 66,omg 68 7 67 false,og 69 (.fldA 67 (.t 12)) 67 false,og 70 (.ld true 32 (.t 69)) 67 false,og 71 (.mop (.lkp (some 32) (.bool false) false) [(.t 68),(.t 70)]) 67 false,oo 72 (.pick (.t 67) (cb true) (.t 71)),om 73 72,omg 74 10 73 false,og 75 (.fldA 67 (.t 12)) 73 false,og 76 (.ld true 32 (.t 75)) 73 false,og 77 (.mop (.lkp (some 32) (.bool false) false) [(.t 74),(.t 76)]) 73 false,oo 78 (.pick (.t 73) (cb true) (.t 77)),om 79 78,omg 80 7 79 false,og 81 (.fldA 99 (.t 12)) 79 false,og 82 (.ld true 32 (.t 81)) 79 false,og 83 (.mop (.lkp (some 32) (.bool false) false) [(.t 80),(.t 82)]) 79 false,oo 84 (.pick (.t 79) (cb true) (.t 83)),om 85 84,og 86 (.fldA 237 (.t 12)) 85 false,og 87 (.ld false 1 (.t 86)) 85 false,oo 88 (.pick (.t 85) (cb true) (.t 87)),om 89 88,og 90 (.fldA 66 (.t 12)) 89 false,og 91 (.ld false 1 (.t 90)) 89 false,og 92 (.fldA 116 (.t 1)) 89 false,og 93 (.ld false 1 (.t 92)) 89 false,og 94 (.bin .gtr (.t 91) (.t 93)) 89 false,oo 95 (.pick (.t 89) (cb true) (.t 94)),om 96 95,og 97 (.fldA 66 (.t 12)) 96 false,og 98 (.ld false 1 (.t 97)) 96 false,omg 99 5 96 false,og 100 (.bin .leq (.t 98) (.t 99)) 96 false,oo 101 (.pick (.t 96) (cb true) (.t 100))]
(cN 101
(sR [oo 2 (.mv (cb false))]
.ret)
.skip))
(.reg [om 102 10,fA 103 67 12,lA 104 32 103,on (.mop (.upd (some 32)) [(.t 102),(.t 104),(cb true)])]))))
(.reg [bC 105 .add 60 (ci 1),om 60 105])))))))
(sR [oo 2 (.mv (cb true))]
.ret))))))))
theorem mZ_:av_ Tryz.prog 62=some (106,[.tmp 2],hs_):=by kernel_rfl
def jJ_:ad_:=(sR [oo 1 (.box 150 (.t 0)),oo 2 (.mv (ci 0))]
(.seq (sR [fA 5 0 1,lA 6 45 5,kA 7 56 6,om 3 7]
(sR [om 8 3,bC 9 .neq 8 (ci 0)]
(cN 9
(sR [om 10 3,om 2 10]
.ret)
.skip)))
(.seq (sR [fA 11 115 1,lA 12 1 11,kA 13 57 12,om 4 13]
(sR [om 14 4,bC 15 .neq 14 (ci 0)]
(cN 15
(sR [om 16 4,om 2 16]
.ret)
.skip)))
(.seq (sR [fA 17 115 1,fA 18 0 17,lF 19 1 18,lN 20 19,fA 21 0 1,fA 22 0 21,fA 23 0 22,lF 24 1 23,bI 25 .gtr 20 24,om 26 25,og 27 (.fldA 113 (.t 1)) 26 false,og 28 (.fldA 1 (.t 27)) 26 false,og 29 (.ld false 1 (.t 28)) 26 false,og 30 (.len false (.t 29)) 26 false,og 31 (.fldA 0 (.t 1)) 26 false,og 32 (.fldA 0 (.t 31)) 26 false,og 33 (.fldA 1 (.t 32)) 26 false,og 34 (.ld false 1 (.t 33)) 26 false,og 35 (.bin .gtr (.t 30) (.t 34)) 26 false,oo 36 (.pick (.t 26) (cb true) (.t 35)),om 37 36,og 38 (.fldA 113 (.t 1)) 37 false,og 39 (.fldA 0 (.t 38)) 37 false,og 40 (.ld false 1 (.t 39)) 37 false,og 41 (.len false (.t 40)) 37 false,og 42 (.fldA 0 (.t 1)) 37 false,og 43 (.fldA 0 (.t 42)) 37 false,og 44 (.fldA 2 (.t 43)) 37 false,og 45 (.ld false 1 (.t 44)) 37 false,og 46 (.bin .gtr (.t 41) (.t 45)) 37 false,oo 47 (.pick (.t 37) (cb true) (.t 46)),om 48 47,og 49 (.fldA 149 (.t 1)) 48 false,og 50 (.ld false 1 (.t 49)) 48 false,og 51 (.len false (.t 50)) 48 false,og 52 (.fldA 0 (.t 1)) 48 false,og 53 (.fldA 0 (.t 52)) 48 false,og 54 (.fldA 3 (.t 53)) 48 false,og 55 (.ld false 1 (.t 54)) 48 false,og 56 (.bin .gtr (.t 51) (.t 55)) 48 false,oo 57 (.pick (.t 48) (cb true) (.t 56))]
(cN 57
(sR [oo 2 (.mv (ci 11))]
.ret)
.skip))
(.seq (sR [lA 58 150 1,kA 59 58 58,oo 60 (.un .not (.t 59)),om 61 60,og 62 (.ld true 150 (.t 1)) 61 false,og 63 (.call (cf 59) [(.t 62)]) 61 false,og 64 (.un .not (.t 63)) 61 false,oo 65 (.pick (.t 61) (cb true) (.t 64)),om 66 65,og 67 (.ld true 150 (.t 1)) 66 false,og 68 (.call (cf 60) [(.t 67)]) 66 false,og 69 (.un .not (.t 68)) 66 false,oo 70 (.pick (.t 66) (cb true) (.t 69)),om 71 70,og 72 (.ld true 150 (.t 1)) 71 false,og 73 (.call (cf 61) [(.t 72)]) 71 false,og 74 (.un .not (.t 73)) 71 false,oo 75 (.pick (.t 71) (cb true) (.t 74)),om 76 75,og 77 (.ld true 150 (.t 1)) 76 false,og 78 (.call (cf 62) [(.t 77)]) 76 false,og 79 (.un .not (.t 78)) 76 false,oo 80 (.pick (.t 76) (cb true) (.t 79))]
(cN 80
(sR [oo 2 (.mv (ci 2))]
.ret)
.skip))
(sR [oo 2 (.mv (ci 0))]
.ret))))))
theorem qI_:av_ Tryz.prog 15=some (81,[.tmp 2],jJ_):=by kernel_rfl
def ny_:ad_:=(sR [oo 0 (.mv (cb false))]
(sR [oo 6 (.call (cf 55) [(.c (.sl 0 true []))]),kA 7 54 6,om 5 7,eX 8 0 5,eX 9 1 5,oo 1 (.new (ai_ bI_)),sO 150 1 8,om 2 9]
(sR [lA 11 150 1,kA 12 11 11,om 10 12,eX 13 0 10,eX 14 1 10,oo 3 (.new (ai_ bI_)),sO 150 3 13,om 4 14]
(sR [om 15 2,bC 16 .eql 15 (ci 0),om 17 16,omg 18 4 17 true,og 19 (.bin .eql (.t 18) (ci 0)) 17 true,oo 20 (.pick (.t 17) (.t 19) (cb false)),om 21 20,og 22 (.fldA 115 (.t 1)) 21 true,og 23 (.fldA 0 (.t 22)) 21 true,og 24 (.ld false 1 (.t 23)) 21 true,og 25 (.len false (.t 24)) 21 true,og 26 (.bin .eql (.t 25) (ci 1)) 21 true,oo 27 (.pick (.t 21) (.t 26) (cb false)),om 28 27,og 29 (.fldA 115 (.t 1)) 28 true,og 30 (.fldA 0 (.t 29)) 28 true,og 31 (.ld false 1 (.t 30)) 28 true,og 32 (.idxS 240 (.t 31) (ci 0)) 28 true,og 33 (.fldA 239 (.t 32)) 28 true,og 34 (.ld false 1 (.t 33)) 28 true,og 35 (.bin .eql (.t 34) (ci 1)) 28 true,oo 36 (.pick (.t 28) (.t 35) (cb false)),om 37 36,og 38 (.fldA 116 (.t 3)) 37 true,og 39 (.ld false 1 (.t 38)) 37 true,og 40 (.bin .eql (.t 39) (cu 1)) 37 true,oo 41 (.pick (.t 37) (.t 40) (cb false)),om 42 41,og 43 (.ld true 150 (.t 3)) 42 true,og 44 (.call (cf 15) [(.t 43)]) 42 true,og 45 (.bin .eql (.t 44) (ci 0)) 42 true,oo 46 (.pick (.t 42) (.t 45) (cb false)),om 0 46]
.ret))))
theorem wq_:av_ Tryz.prog 14=some (47,[.tmp 0],ny_):=by kernel_rfl
def hX_:ad_:=(sR [oo 4 (.mv (cb false))]
(sR [om 10 0,kA 11 10 10,oo 12 (.fld true 0 150 (.t 11)),oo 5 (.new (ai_ bI_)),sO 150 5 12]
(.seq (sR [om 13 1,bC 14 .and 13 (ci 15),bC 15 .eql 14 (ci 15)]
(cN 15
(.reg [om 16 1,bC 17 .shr 16 (cu 4),bC 18 .and 17 (ci 1),oo 19 (.cvt .u64 (.t 18)),oo 20 (.bin .sub (cu 1099511627776) (.t 19)),fA 21 116 5,sO 1 21 20])
.skip))
(sR [lA 23 150 5,kA 24 11 23,om 22 24,eX 25 0 22,eX 26 1 22,oo 6 (.new (ai_ bI_)),sO 150 6 25,om 7 26]
(sR [lA 28 150 5,kA 29 12 28,om 27 29,eX 30 0 27,eX 31 1 27,oo 8 (.new (ai_ bI_)),sO 150 8 30,om 9 31]
(sR [om 32 7,om 33 9,bI 34 .eql 32 33,om 35 34,og 36 (.ld true 150 (.t 6)) 35 true,og 37 (.ld true 150 (.t 8)) 35 true,og 38 (.call (cf 13) [(.t 36),(.t 37)]) 35 true,oo 39 (.pick (.t 35) (.t 38) (cb false)),om 40 39,og 41 (.call (cf 14) []) 40 true,oo 42 (.pick (.t 40) (.t 41) (cb false)),om 4 42]
.ret))))))
theorem oq_:av_ Tryz.prog 3=some (43,[.tmp 4],hX_):=by kernel_rfl
def pk_:ad_:=(sR [oo 2 (.box 150 (.t 0)),oo 3 (.box 150 (.t 1)),oo 4 (.mv (cb false))]
(.seq (.dreg [(fA 9 0 2,0),(lA 10 45 9,1),(fA 11 0 3,0),(lA 12 45 11,4),(oo 5 (.new (bf_ ih_)),0),(oo 6 (.new (bf_ ih_)),0),(sO 45 5 10,51),(sO 45 6 12,127)])
(.seq (sR [fA 13 0 5,lA 14 6 13,fA 15 0 6,lA 16 6 15,oo 17 (.eqa [(6,1)] true (.t 14) (.t 16)),om 18 17,og 19 (.fldA 6 (.t 5)) 18 false,og 20 (.ld false 1 (.t 19)) 18 false,og 21 (.fldA 6 (.t 6)) 18 false,og 22 (.ld false 1 (.t 21)) 18 false,og 23 (.bin .neq (.t 20) (.t 22)) 18 false,oo 24 (.pick (.t 18) (cb true) (.t 23)),om 25 24,og 26 (.fldA 7 (.t 5)) 25 false,og 27 (.ld false 1 (.t 26)) 25 false,og 28 (.fldA 7 (.t 6)) 25 false,og 29 (.ld false 1 (.t 28)) 25 false,og 30 (.bin .neq (.t 27) (.t 29)) 25 false,oo 31 (.pick (.t 25) (cb true) (.t 30)),om 32 31,og 33 (.fldA 8 (.t 5)) 32 false,og 34 (.ld true 4 (.t 33)) 32 false,og 35 (.fldA 8 (.t 6)) 32 false,og 36 (.ld true 4 (.t 35)) 32 false,og 37 (.eqa [(4,1)] true (.t 34) (.t 36)) 32 false,oo 38 (.pick (.t 32) (cb true) (.t 37)),om 39 38,og 40 (.fldA 12 (.t 5)) 39 false,og 41 (.ld true 32 (.t 40)) 39 false,og 42 (.fldA 12 (.t 6)) 39 false,og 43 (.ld true 32 (.t 42)) 39 false,og 44 (.eqa [(32,1)] true (.t 41) (.t 43)) 39 false,oo 45 (.pick (.t 39) (cb true) (.t 44)),om 46 45,og 47 (.fldA 44 (.t 5)) 46 false,og 48 (.ld false 1 (.t 47)) 46 false,og 49 (.fldA 44 (.t 6)) 46 false,og 50 (.ld false 1 (.t 49)) 46 false,og 51 (.call (cf 48) [(.t 48),(.t 50)]) 46 false,og 52 (.un .not (.t 51)) 46 false,oo 53 (.pick (.t 46) (cb true) (.t 52))]
(cN 53
(sR [oo 4 (.mv (cb false))]
.ret)
.skip))
(.seq (sR [fA 54 45 2,fA 55 0 54,lF 56 1 55,fA 57 45 3,fA 58 0 57,lF 59 1 58,kB 60 49 56 59,oo 61 (.un .not (.t 60)),om 62 61,og 63 (.fldA 45 (.t 2)) 62 false,og 64 (.fldA 1 (.t 63)) 62 false,og 65 (.ld false 1 (.t 64)) 62 false,og 66 (.fldA 45 (.t 3)) 62 false,og 67 (.fldA 1 (.t 66)) 62 false,og 68 (.ld false 1 (.t 67)) 62 false,og 69 (.call (cf 50) [(.t 65),(.t 68)]) 62 false,og 70 (.un .not (.t 69)) 62 false,oo 71 (.pick (.t 62) (cb true) (.t 70)),om 72 71,og 73 (.fldA 47 (.t 2)) 72 false,og 74 (.ld true 66 (.t 73)) 72 false,og 75 (.fldA 47 (.t 3)) 72 false,og 76 (.ld true 66 (.t 75)) 72 false,og 77 (.eqa [(66,1)] true (.t 74) (.t 76)) 72 false,oo 78 (.pick (.t 72) (cb true) (.t 77)),om 79 78,og 80 (.fldA 113 (.t 2)) 79 false,og 81 (.fldA 0 (.t 80)) 79 false,og 82 (.ld false 1 (.t 81)) 79 false,og 83 (.len false (.t 82)) 79 false,og 84 (.fldA 113 (.t 3)) 79 false,og 85 (.fldA 0 (.t 84)) 79 false,og 86 (.ld false 1 (.t 85)) 79 false,og 87 (.len false (.t 86)) 79 false,og 88 (.bin .neq (.t 83) (.t 87)) 79 false,oo 89 (.pick (.t 79) (cb true) (.t 88)),om 90 89,og 91 (.fldA 113 (.t 2)) 90 false,og 92 (.fldA 1 (.t 91)) 90 false,og 93 (.ld false 1 (.t 92)) 90 false,og 94 (.len false (.t 93)) 90 false,og 95 (.fldA 113 (.t 3)) 90 false,og 96 (.fldA 1 (.t 95)) 90 false,og 97 (.ld false 1 (.t 96)) 90 false,og 98 (.len false (.t 97)) 90 false,og 99 (.bin .neq (.t 94) (.t 98)) 90 false,oo 100 (.pick (.t 90) (cb true) (.t 99)),om 101 100,og 102 (.fldA 115 (.t 2)) 101 false,og 103 (.ld true 1 (.t 102)) 101 false,og 104 (.fldA 115 (.t 3)) 101 false,og 105 (.ld true 1 (.t 104)) 101 false,og 106 (.call (cf 51) [(.t 103),(.t 105)]) 101 false,og 107 (.un .not (.t 106)) 101 false,oo 108 (.pick (.t 101) (cb true) (.t 107)),om 109 108,og 110 (.fldA 116 (.t 2)) 109 false,og 111 (.ld false 1 (.t 110)) 109 false,og 112 (.fldA 116 (.t 3)) 109 false,og 113 (.ld false 1 (.t 112)) 109 false,og 114 (.bin .neq (.t 111) (.t 113)) 109 false,oo 115 (.pick (.t 109) (cb true) (.t 114)),om 116 115,og 117 (.fldA 117 (.t 2)) 116 false,og 118 (.ld true 32 (.t 117)) 116 false,og 119 (.fldA 117 (.t 3)) 116 false,og 120 (.ld true 32 (.t 119)) 116 false,og 121 (.eqa [(32,1)] true (.t 118) (.t 120)) 116 false,oo 122 (.pick (.t 116) (cb true) (.t 121)),om 123 122,og 124 (.fldA 149 (.t 2)) 123 false,og 125 (.ld false 1 (.t 124)) 123 false,og 126 (.fldA 149 (.t 3)) 123 false,og 127 (.ld false 1 (.t 126)) 123 false,og 128 (.call (cf 52) [(.t 125),(.t 127)]) 123 false,og 129 (.un .not (.t 128)) 123 false,oo 130 (.pick (.t 123) (cb true) (.t 129))]
(cN 130
(sR [oo 4 (.mv (cb false))]
.ret)
.skip))
(.seq (sR [oo 7 (.mv (ci 0))]
(.block 0 (.loop (.seq (sR [om 131 7,fA 132 113 2,fA 133 0 132,lF 134 1 133,lN 135 134,bI 136 .lss 131 135]
(cN 136
.skip
(.exit 0)))
(.seq (.block 1 (.seq (.dreg [(fA 139 113 2,0),(fA 140 0 139,1),(lF 141 1 140,3),(om 142 7,0),(iX 143 67 141 142,15),(lA 144 67 143,31),(fA 145 113 3,0),(fA 146 0 145,64),(lF 147 1 146,192),(om 148 7,0),(iX 149 67 147 148,960),(lA 150 67 149,1984),(kB 151 53 144 150,4095),(oo 152 (.un .not (.t 151)),8191)])
(cN 152
(sR [oo 4 (.mv (cb false))]
.ret)
.skip)))
(.reg [om 137 7,bC 138 .add 137 (ci 1),om 7 138]))))))
(.seq (sR [oo 8 (.mv (ci 0))]
(.block 2 (.loop (.seq (sR [om 153 8,fA 154 113 2,fA 155 1 154,lF 156 1 155,lN 157 156,bI 158 .lss 153 157]
(cN 158
.skip
(.exit 2)))
(.seq (.block 3 (.seq (.dreg [(fA 161 113 2,0),(fA 162 1 161,1),(lF 163 1 162,3),(om 164 8,0),(iX 165 238 163 164,15),(lA 166 238 165,31),(fA 167 113 3,0),(fA 168 1 167,64),(lF 169 1 168,192),(om 170 8,0),(iX 171 238 169 170,960),(lA 172 238 171,1984),(oo 173 (.eqa [(237,1),(1,0)] true (.t 166) (.t 172)),4095)])
(cN 173
(sR [oo 4 (.mv (cb false))]
.ret)
.skip)))
(.reg [om 159 8,bC 160 .add 159 (ci 1),om 8 160]))))))
(sR [oo 4 (.mv (cb true))]
.ret)))))))
theorem zM_:av_ Tryz.prog 13=some (174,[.tmp 4],pk_):=by kernel_rfl
def jI_:ad_:=(sR [oo 4 (.mv (cb false))]
(.seq (sR [om 6 0,lN 7 6,om 8 1,lN 9 8,bI 10 .neq 7 9]
(cN 10
(sR [oo 4 (.mv (cb false))]
.ret)
.skip))
(.seq (sR [oo 5 (.mv (ci 0))]
(.block 0 (.loop (.seq (sR [om 11 5,om 12 0,lN 13 12,bI 14 .lss 11 13]
(cN 14
.skip
(.exit 0)))
(.seq (.block 1 (.seq (.dreg [(om 17 0,0),(om 18 5,0),(iX 19 34 17 18,3),(lA 20 34 19,7),(om 21 1,0),(om 22 5,0),(iX 23 34 21 22,48),(lA 24 34 23,112),(oo 25 (.eqa [(1,0),(33,1)] true (.t 20) (.t 24)),255)])
(cN 25
(sR [oo 4 (.mv (cb false))]
.ret)
.skip)))
(.reg [om 15 5,bC 16 .add 15 (ci 1),om 5 16]))))))
(sR [oo 4 (.mv (cb true))]
.ret))))
theorem qG_:av_ Tryz.prog 49=some (26,[.tmp 4],jI_):=by kernel_rfl
def iL_:ad_:=(sR [oo 4 (.mv (cb false))]
(.seq (sR [om 6 0,lN 7 6,om 8 1,lN 9 8,bI 10 .neq 7 9]
(cN 10
(sR [oo 4 (.mv (cb false))]
.ret)
.skip))
(.seq (sR [oo 5 (.mv (ci 0))]
(.block 0 (.loop (.seq (sR [om 11 5,om 12 0,lN 13 12,bI 14 .lss 11 13]
(cN 14
.skip
(.exit 0)))
(.seq (.block 1 (.seq (.dreg [(om 17 0,0),(om 18 5,0),(iX 19 34 17 18,3),(lA 20 34 19,7),(om 21 1,0),(om 22 5,0),(iX 23 34 21 22,48),(lA 24 34 23,112),(kB 25 130 20 24,255),(oo 26 (.un .not (.t 25)),511)])
(cN 26
(sR [oo 4 (.mv (cb false))]
.ret)
.skip)))
(.reg [om 15 5,bC 16 .add 15 (ci 1),om 5 16]))))))
(sR [oo 4 (.mv (cb true))]
.ret))))
theorem pH_:av_ Tryz.prog 52=some (27,[.tmp 4],iL_):=by kernel_rfl
def pg_:ad_:=(sR [oo 2 (.box 1 (.t 0)),oo 3 (.box 1 (.t 1)),oo 4 (.mv (cb false))]
(.seq (sR [fA 6 0 2,lF 7 1 6,lN 8 7,fA 9 0 3,lF 10 1 9,lN 11 10,bI 12 .neq 8 11]
(cN 12
(sR [oo 4 (.mv (cb false))]
.ret)
.skip))
(.seq (sR [oo 5 (.mv (ci 0))]
(.block 0 (.loop (.seq (sR [om 13 5,fA 14 0 2,lF 15 1 14,lN 16 15,bI 17 .lss 13 16]
(cN 17
.skip
(.exit 0)))
(.seq (.block 1 (.seq (.dreg [(fA 20 0 2,0),(lF 21 1 20,1),(om 22 5,0),(iX 23 240 21 22,7),(lA 24 240 23,15),(fA 25 0 3,0),(lF 26 1 25,32),(om 27 5,0),(iX 28 240 26 27,224),(lA 29 240 28,480),(oo 30 (.eqa [(237,1),(1,0),(2,1)] true (.t 24) (.t 29)),1023)])
(cN 30
(sR [oo 4 (.mv (cb false))]
.ret)
.skip)))
(.reg [om 18 5,bC 19 .add 18 (ci 1),om 5 19]))))))
(sR [oo 4 (.mv (cb true))]
.ret))))
theorem zI_:av_ Tryz.prog 51=some (31,[.tmp 4],pg_):=by kernel_rfl
def nJ_:ad_:=(sR [oo 1 (.box 45 (.t 0)),oo 2 (.new (aD_ dG_)),oo 3 (.mv (.c (.sl 0 true []))),oo 4 (.mv (ci 0))]
(sR [lA 10 45 1,kA 11 66 10,om 9 11,eX 12 0 9,eX 13 1 9,oo 5 (.new (ai_ bI_)),sO 150 5 12,om 6 13]
(.seq (sR [om 14 6,bC 15 .neq 14 (ci 0)]
(cN 15
(sR [oo 16 (.bld (aD_ dG_) []),om 17 6,sO 252 2 16,oo 3 (.mv (.c (.sl 0 true []))),om 4 17]
.ret)
.skip))
(sR [lA 19 150 5,oo 20 (.bld (aD_ dG_) [(0,150,(.t 19)),(152,1,(cu 1))]),kA 21 172 20,om 18 21,eX 22 0 18,eX 23 1 18,oo 7 (.new (aD_ dG_)),sO 252 7 22,om 8 23]
(sR [lA 24 252 7,om 25 8,sO 252 2 24,om 3 25,oo 4 (.mv (ci 0))]
.ret)))))
theorem wC_:av_ Tryz.prog 102=some (26,[.cell 2 true 252,.tmp 3,.tmp 4],nJ_):=by kernel_rfl
def pq_:ad_:=(sR [oo 2 (.box 252 (.t 0)),oo 3 (.box 446 (.t 1)),oo 4 (.new (aD_ dG_)),oo 5 (.mv (.c (.sl 0 true []))),oo 6 (.mv (ci 0))]
(.seq (sR [fA 12 251 2,lF 13 1 12]
(cN 13
(sR [lA 14 252 2,sO 252 4 14,oo 5 (.mv (.c (.sl 0 true []))),oo 6 (.mv (ci 22))]
.ret)
.skip))
(.seq (sR [lA 15 446 3,kA 16 174 15,om 7 16]
(sR [om 17 7,bC 18 .neq 17 (ci 0)]
(cN 18
(sR [lA 19 252 2,om 20 7,sO 252 4 19,oo 5 (.mv (.c (.sl 0 true []))),om 6 20]
.ret)
.skip)))
(sR [lA 22 252 2,lA 23 446 3,kB 24 175 22 23,om 21 24,eX 25 0 21,eX 26 1 21,oo 8 (.new (aD_ dG_)),sO 252 8 25,om 9 26]
(.seq (sR [om 27 9,bC 28 .eql 27 (ci 21)]
(cN 28
(sR [lA 29 252 8,om 30 9,sO 252 4 29,oo 5 (.mv (.c (.sl 0 true []))),om 6 30]
.ret)
.skip))
(.seq (sR [om 31 9,bC 32 .neq 31 (ci 0)]
(cN 32
(sR [lA 33 252 2,om 34 9,sO 252 4 33,oo 5 (.mv (.c (.sl 0 true []))),om 6 34]
.ret)
.skip))
(sR [lA 36 252 8,kA 37 172 36,om 35 37,eX 38 0 35,eX 39 1 35,oo 10 (.new (aD_ dG_)),sO 252 10 38,om 11 39]
(sR [lA 40 252 10,om 41 11,sO 252 4 40,om 5 41,oo 6 (.mv (ci 0))]
.ret))))))))
theorem zT_:av_ Tryz.prog 105=some (42,[.cell 4 true 252,.tmp 5,.tmp 6],pq_):=by kernel_rfl
def fG_:ad_:=(sR [oo 1 (.box 252 (.t 0)),oo 2 (.new (aD_ dG_)),oo 3 (.mv (.c (.sl 0 true [])))]
(sR [fA 5 0 1,lA 6 150 5,kA 7 212 6,oo 4 (.new (cH_ pv_)),sO 96 4 7]
(.seq (sR [fA 8 153 1,lF 9 1 8,om 10 9,og 11 (.fldA 154 (.t 1)) 10 true,og 12 (.ld true 96 (.t 11)) 10 true,og 13 (.ld true 96 (.t 4)) 10 true,og 14 (.eqa [(96,1)] false (.t 12) (.t 13)) 10 true,oo 15 (.pick (.t 10) (.t 14) (cb false))]
(cN 15
(sR [lA 16 252 1,sO 252 2 16,oo 3 (.mv (.c (.sl 0 true [])))]
.ret)
.skip))
(.seq (.dreg [(lA 17 96 4,0),(fA 18 153 1,0),(on (.sto 1 (.t 18) (cb true)),2),(fA 19 154 1,7),(sO 96 19 17,15)])
(.seq (.dreg [(lA 20 252 1,0),(lA 21 96 4,0),(oo 22 (.bldS 96 1 (cH_ pv_) [(0,(.t 21))]),2),(sO 252 2 20,1),(om 3 22,15)])
.ret)))))
theorem zQ_:av_ Tryz.prog 172=some (23,[.cell 2 true 252,.tmp 3],fG_):=by kernel_rfl
def kN_:ad_:=(sR [oo 2 (.box 252 (.t 0)),oo 3 (.box 446 (.t 1)),oo 4 (.new (aD_ dG_)),oo 5 (.mv (ci 0))]
(sR [lA 9 252 2,oo 6 (.new (aD_ dG_)),sO 252 6 9]
(sR [oo 7 (.mv (ci 0))]
(.seq (sR [fA 10 0 3,lF 11 1 10]
(.block 0 (sR [bC 13 .eql 11 (ci 1),om 12 13]
(cN 12
(sR [fA 15 0 2,lA 16 150 15,kA 17 12 16,om 14 17,eX 18 0 14,eX 19 1 14,fA 20 0 6,sO 150 20 18,om 7 19]
(sR [om 21 7,bC 22 .eql 21 (ci 0)]
(cN 22
(.reg [lA 23 252 6,kA 24 216 23,kA 25 215 24,sO 252 6 25])
.skip)))
(sR [bC 27 .eql 11 (ci 2),om 26 27]
(cN 26
(sR [oo 8 (.mv (.c (.sl 0 true [])))]
(sR [fA 29 0 2,lA 30 150 29,fA 31 1 3,lA 32 238 31,kB 33 21 30 32,om 28 33,eX 34 0 28,eX 35 1 28,eX 36 2 28,fA 37 0 6,sO 150 37 34,om 8 35,om 7 36]
(sR [om 38 7,bC 39 .eql 38 (ci 0)]
(cN 39
(.reg [lA 40 252 6,kA 41 216 40,om 42 8,kB 43 217 41 42,sO 252 6 43])
.skip))))
(sR [bC 45 .eql 11 (ci 3),om 44 45]
(cN 44
(.reg [fA 47 0 2,lA 48 150 47,fA 49 239 3,lA 50 67 49,kB 51 33 48 50,om 46 51,eX 52 0 46,eX 53 1 46,fA 54 0 6,sO 150 54 52,om 7 53])
(sR [bC 56 .eql 11 (ci 4),om 55 56]
(cN 55
(.reg [fA 58 0 2,lA 59 150 58,fA 60 306 3,lA 61 70 60,kB 62 34 59 61,om 57 62,eX 63 0 57,eX 64 1 57,fA 65 0 6,sO 150 65 63,om 7 64])
(sR [bC 67 .eql 11 (ci 5),om 66 67]
(cN 66
(.reg [fA 69 0 2,lA 70 150 69,fA 71 376 3,lA 72 34 71,kB 73 36 70 72,om 68 73,eX 74 0 68,eX 75 1 68,fA 76 0 6,sO 150 76 74,om 7 75])
(sR [bC 78 .eql 11 (ci 6),om 77 78]
(cN 77
(sR [lA 79 252 2,fA 80 410 3,lA 81 34 80,kB 82 218 79 81,eX 83 0 82,eX 84 1 82,sO 252 4 83,om 5 84]
.ret)
(.reg [oo 7 (.mv (ci 2))])))))))))))))))
(sR [lA 85 252 6,om 86 7,sO 252 4 85,om 5 86]
.ret)))))
theorem sj_:av_ Tryz.prog 175=some (87,[.cell 4 true 252,.tmp 5],kN_):=by kernel_rfl
def kM_:ad_:=(sR [oo 1 (.box 150 (.t 0)),oo 2 (.new (cH_ pv_))]
(.seq (.dreg [(fA 3 115 1,0),(fA 4 0 3,1),(lF 5 1 4,3),(lA 6 150 1,0),(kA 7 236 6,8),(iX 8 240 5 7,31),(fA 9 0 8,63),(fA 10 67 9,127),(lA 11 32 10,255),(lA 12 150 1,0),(kA 13 237 12,536),(fA 14 47 1,0),(fA 15 33 14,2048),(fA 16 1 15,6144),(lA 17 32 16,14336),(oo 18 (.bld (cH_ pv_) [(0,32,(.t 11)),(32,32,(.t 13)),(64,32,(.t 17))]),32767),(sO 96 2 18,65535)])
.ret))
theorem si_:av_ Tryz.prog 212=some (19,[.cell 2 true 96],kM_):=by kernel_rfl
def rq_:ad_:=(sR [oo 1 (.box 252 (.t 0)),oo 2 (.new (aD_ dG_))]
(sR [fA 5 151 1,lF 6 1 5,om 3 6]
(sR [fA 7 151 1,on (.sto 1 (.t 7) (.c (.sl 0 true [])))]
(.seq (sR [oo 4 (.mv (ci 0))]
(.block 0 (.loop (.seq (sR [om 8 4,om 9 3,lN 10 9,bI 11 .lss 8 10]
(cN 11
.skip
(.exit 0)))
(.seq (.block 1 (.seq (.dreg [(om 14 3,0),(om 15 4,0),(iX 16 35 14 15,3),(fA 17 34 16,7),(lF 18 1 17,15),(fA 19 0 1,0),(fA 20 116 19,32),(lF 21 1 20,96),(bI 22 .gtr 18 21,255)])
(cN 22
(.dreg [(fA 23 151 1,0),(lF 24 1 23,1),(om 25 3,0),(om 26 4,0),(iX 27 35 25 26,12),(lA 28 35 27,28),(oo 29 (.bldS 35 1 (aJ_ hk_) [(0,(.t 28))]),60),(oo 30 (.app 35 56 (.t 24) (.t 29)),127),(fA 31 151 1,255),(sO 1 31 30,511)])
(.seq (.dreg [(lA 32 252 1,0),(om 33 3,0),(om 34 4,0),(iX 35 35 33 34,6),(fA 36 1 35,14),(lA 37 32 36,30),(kB 38 245 32 37,63)])
(cN 38
(.dreg [(lA 39 252 1,0),(om 40 3,0),(om 41 4,0),(iX 42 35 40 41,6),(fA 43 1 42,14),(lA 44 32 43,30),(om 45 3,0),(om 46 4,0),(iX 47 35 45 46,192),(fA 48 33 47,448),(lF 49 1 48,960),(kC 50 246 39 44 49,2047),(sO 252 1 50,4095)])
.skip)))))
(.reg [om 12 4,bC 13 .add 12 (ci 1),om 4 13]))))))
(sR [lA 51 252 1,sO 252 2 51]
.ret)))))
theorem BO_:av_ Tryz.prog 215=some (52,[.cell 2 true 252],rq_):=by kernel_rfl
def pn_:ad_:=(sR [oo 1 (.box 252 (.t 0)),oo 2 (.new (aD_ dG_))]
(.seq (.dreg [(lA 3 252 1,0),(fA 4 150 1,0),(lF 5 1 4,2),(kB 6 247 3 5,7),(lA 7 252 1,0),(fA 8 151 1,0),(lF 9 1 8,32),(kB 10 247 7 9,127),(fA 11 150 1,127),(sO 1 11 6,511),(fA 12 151 1,1023),(sO 1 12 10,2047)])
(sR [lA 13 252 1,sO 252 2 13]
.ret)))
theorem zP_:av_ Tryz.prog 216=some (14,[.cell 2 true 252],pn_):=by kernel_rfl
def po_:ad_:=(sR [oo 2 (.box 252 (.t 0)),oo 4 (.new (aD_ dG_))]
(.seq (sR [oo 5 (.mv (ci 0))]
(.block 0 (.loop (.seq (sR [om 6 5,om 7 1,lN 8 7,bI 9 .lss 6 8]
(cN 9
.skip
(.exit 0)))
(.seq (.block 1 (.seq (.dreg [(lA 12 252 2,0),(om 13 1,0),(om 14 5,0),(iX 15 32 13 14,6),(lA 16 32 15,14),(kB 17 245 12 16,31)])
(cN 17
(.dreg [(lA 18 252 2,0),(om 19 1,0),(om 20 5,0),(iX 21 32 19 20,6),(lA 22 32 21,14),(oo 23 (.call (cf 246) [(.t 18),(.t 22),(ci 0)]),31),(sO 252 2 23,63)])
.skip)))
(.reg [om 10 5,bC 11 .add 10 (ci 1),om 5 11]))))))
(sR [lA 24 252 2,sO 252 4 24]
.ret)))
theorem zR_:av_ Tryz.prog 217=some (25,[.cell 4 true 252],po_):=by kernel_rfl
def kO_:ad_:=(sR [oo 2 (.box 252 (.t 0)),oo 3 (.box 34 (.t 1)),oo 4 (.new (aD_ dG_)),oo 5 (.mv (ci 0))]
(sR [lA 13 252 2,lA 14 34 3,kB 15 248 13 14,om 12 15,eX 16 0 12,eX 17 1 12,eX 18 2 12,oo 6 (.new (aJ_ hk_)),oo 7 (.new (aD_ dG_)),sO 35 6 16,sO 252 7 17,om 8 18]
(.seq (sR [om 19 8,bC 20 .neq 19 (ci 0)]
(cN 20
(sR [lA 21 252 2,om 22 8,sO 252 4 21,om 5 22]
.ret)
.skip))
(.seq (sR [fA 23 1 3,lF 24 1 23,bC 25 .eql 24 (ci 3),om 26 25,og 27 (.fldA 1 (.t 3)) 26 false,og 28 (.ld false 1 (.t 27)) 26 false,og 29 (.bin .eql (.t 28) (ci 4)) 26 false,oo 30 (.pick (.t 26) (cb true) (.t 29))]
(cN 30
(sR [lA 31 252 7,lA 32 35 6,kB 33 249 31 32,sO 252 4 33,oo 5 (.mv (ci 0))]
.ret)
.skip))
(.seq (.dreg [(fA 34 0 7,0),(fA 35 115 34,1),(lA 36 1 35,3),(fA 37 0 7,0),(fA 38 47 37,8),(fA 39 0 38,24),(fA 40 1 39,56),(lA 41 32 40,120),(kB 42 23 36 41,255),(fA 43 0 7,0),(fA 44 115 43,512),(lA 45 1 44,1536),(fA 46 0 7,0),(fA 47 47 46,4096),(fA 48 33 47,12288),(fA 49 1 48,28672),(lA 50 32 49,61440),(kB 51 23 45 50,131071),(oo 52 (.bldS 1 2 [(.int .i64 (0))] [(0,(.t 42)),(1,(.t 51))]),262143),(om 9 52,524287)])
(.seq (.dreg [(fA 54 0 7,0),(fA 55 115 54,1),(lA 56 1 55,3),(fA 57 0 7,0),(fA 58 115 57,8),(lA 59 1 58,24),(fA 60 1 6,0),(lA 61 32 60,64),(kB 62 23 59 61,248),(lA 63 34 3,0),(om 64 9,0),(oo 65 (.call (cf 250) [(.t 56),(.t 62),(.t 63),(.t 64)]),2047),(om 53 65,4095),(eX 66 0 53,8191),(eX 67 1 53,8191),(oo 10 (.new [(.sl 0 true [])]),0),(sO 1 10 66,49151),(om 8 67,131071)])
(.seq (sR [om 68 8,bC 69 .neq 68 (ci 0)]
(cN 69
(sR [fA 70 251 2,on (.sto 1 (.t 70) (cb true))]
(sR [lA 71 252 2,sO 252 4 71,oo 5 (.mv (ci 21))]
.ret))
.skip))
(sR [lA 72 1 10,fA 73 0 7,fA 74 115 73,sO 1 74 72]
(.seq (sR [lA 75 1 10,fA 76 0 7,fA 77 117 76,lA 78 32 77,kB 79 23 75 78,om 11 79]
(sR [om 80 11,bC 81 .geq 80 (ci 0),om 82 81,og 83 (.fldA 0 (.t 10)) 82 true,og 84 (.ld false 1 (.t 83)) 82 true,omg 85 11 82 true,og 86 (.idxS 240 (.t 84) (.t 85)) 82 true,og 87 (.fldA 239 (.t 86)) 82 true,og 88 (.ld false 1 (.t 87)) 82 true,og 89 (.bin .eql (.t 88) (ci 2)) 82 true,oo 90 (.pick (.t 82) (.t 89) (cb false))]
(cN 90
(.reg [oo 91 (.bld (rtc rt0) []),fA 92 0 7,fA 93 117 92,sO 32 93 91])
.skip)))
(sR [lA 94 252 7,sO 252 4 94,oo 5 (.mv (ci 0))]
.ret))))))))))
theorem sk_:av_ Tryz.prog 218=some (95,[.cell 4 true 252,.tmp 5],kO_):=by kernel_rfl
def pp_:ad_:=(sR [oo 1 (.box 150 (.t 0)),oo 2 (.new (rtc rt0))]
(sR [fA 4 115 1,lA 5 1 4,fA 6 47 1,fA 7 0 6,fA 8 1 7,lA 9 32 8,kB 10 23 5 9,om 3 10]
(.seq (sR [om 11 3,bC 12 .geq 11 (ci 0),om 13 12,og 14 (.fldA 115 (.t 1)) 13 true,og 15 (.fldA 0 (.t 14)) 13 true,og 16 (.ld false 1 (.t 15)) 13 true,omg 17 3 13 true,og 18 (.idxS 240 (.t 16) (.t 17)) 13 true,og 19 (.fldA 239 (.t 18)) 13 true,og 20 (.ld false 1 (.t 19)) 13 true,og 21 (.bin .eql (.t 20) (ci 1)) 13 true,oo 22 (.pick (.t 13) (.t 21) (cb false))]
(cN 22
(sR [fA 23 47 1,fA 24 0 23,fA 25 1 24,lA 26 32 25,sO 32 2 26]
.ret)
.skip))
(sR [oo 27 (.bld (rtc rt0) []),sO 32 2 27]
.ret))))
theorem zS_:av_ Tryz.prog 237=some (28,[.cell 2 true 32],pp_):=by kernel_rfl
def ic_:ad_:=(sR [oo 2 (.box 252 (.t 0)),oo 3 (.box 32 (.t 1)),oo 4 (.mv (cb false))]
(sR [fA 6 0 2,fA 7 115 6,lA 8 1 7,lA 9 32 3,kB 10 23 8 9,om 5 10]
(sR [om 11 5,bC 12 .geq 11 (ci 0),om 13 12,og 14 (.fldA 0 (.t 2)) 13 true,og 15 (.fldA 115 (.t 14)) 13 true,og 16 (.fldA 0 (.t 15)) 13 true,og 17 (.ld false 1 (.t 16)) 13 true,omg 18 5 13 true,og 19 (.idxS 240 (.t 17) (.t 18)) 13 true,og 20 (.fldA 239 (.t 19)) 13 true,og 21 (.ld false 1 (.t 20)) 13 true,og 22 (.bin .eql (.t 21) (ci 0)) 13 true,oo 23 (.pick (.t 13) (.t 22) (cb false)),om 4 23]
.ret)))
theorem ou_:av_ Tryz.prog 245=some (24,[.tmp 4],ic_):=by kernel_rfl
def kc_:ad_:=(sR [oo 3 (.box 252 (.t 0)),oo 4 (.box 32 (.t 1)),oo 6 (.new (aD_ dG_))]
(sR [fA 8 152 3,lF 9 1 8,oo 10 (.bld [(.int .u64 (0))] [(0,1,(.t 9))]),lA 11 32 4,om 12 2,oo 13 (.bld (aJ_ hk_) [(0,1,(.t 10)),(1,32,(.t 11)),(33,1,(.t 12))]),oo 7 (.new (aJ_ hk_)),sO 35 7 13]
(.seq (.dreg [(fA 14 150 3,0),(lF 15 1 14,1),(oo 16 (.app 35 56 (.c (.sl 0 true [])) (.t 15)),3),(lA 17 35 7,0),(oo 18 (.bldS 35 1 (aJ_ hk_) [(0,(.t 17))]),8),(oo 19 (.app 35 56 (.t 16) (.t 18)),31),(fA 20 150 3,63),(sO 1 20 19,127)])
(sR [fA 21 152 3,lF 22 1 21,bC 23 .add 22 (cu 1),fA 24 152 3,sO 1 24 23]
(sR [lA 25 252 3,sO 252 6 25]
.ret)))))
theorem pD_:av_ Tryz.prog 246=some (26,[.cell 6 true 252],kc_):=by kernel_rfl
def nM_:ad_:=(sR [oo 2 (.box 252 (.t 0)),oo 4 (.mv (.c (.sl 0 true [])))]
(sR [oo 5 (.mv (.c (.sl 0 true [])))]
(.seq (sR [oo 6 (.mv (ci 0))]
(.block 0 (.loop (.seq (sR [om 7 6,om 8 1,lN 9 8,bI 10 .lss 7 9]
(cN 10
.skip
(.exit 0)))
(.seq (.block 1 (.seq (.dreg [(fA 13 0 2,0),(fA 14 115 13,1),(lA 15 1 14,3),(om 16 1,0),(om 17 6,0),(iX 18 35 16 17,24),(fA 19 1 18,56),(lA 20 32 19,120),(kB 21 23 15 20,255),(bC 22 .geq 21 (ci 0),511)])
(cN 22
(.reg [om 23 5,om 24 1,om 25 6,iX 26 35 24 25,lA 27 35 26,oo 28 (.bldS 35 1 (aJ_ hk_) [(0,(.t 27))]),oo 29 (.app 35 56 (.t 23) (.t 28)),om 5 29])
.skip)))
(.reg [om 11 6,bC 12 .add 11 (ci 1),om 6 12]))))))
(sR [om 30 5,om 4 30]
.ret))))
theorem wG_:av_ Tryz.prog 247=some (31,[.tmp 4],nM_):=by kernel_rfl
def nL_:ad_:=(sR [oo 2 (.box 252 (.t 0)),oo 3 (.box 34 (.t 1)),oo 4 (.new (aJ_ hk_)),oo 5 (.new (aD_ dG_)),oo 6 (.mv (ci 0))]
(.seq (sR [oo 7 (.mv (ci 0))]
(.block 0 (.loop (.seq (sR [om 9 7,fA 10 150 2,lF 11 1 10,lN 12 11,bI 13 .lss 9 12]
(cN 13
.skip
(.exit 0)))
(.seq (.block 1 (.seq (.dreg [(fA 16 150 2,0),(lF 17 1 16,1),(om 18 7,0),(iX 19 35 17 18,7),(fA 20 0 19,15),(fA 21 0 20,31),(lF 22 1 21,63),(fA 23 0 3,0),(fA 24 0 23,128),(lF 25 1 24,384),(bI 26 .eql 22 25,1023)])
(cN 26
(sR [fA 27 150 2,lF 28 1 27,om 29 7,iX 30 35 28 29,lA 31 35 30,oo 8 (.new (aJ_ hk_)),sO 35 8 31]
(.seq (.dreg [(fA 32 150 2,0),(lF 33 1 32,1),(om 34 7,0),(oo 35 (.sli 35 (.t 33) none (some (.t 34)) none),7),(oo 36 (.app 35 56 (.c (.sl 0 true [])) (.t 35)),15),(fA 37 150 2,0),(lF 38 1 37,32),(om 39 7,0),(bC 40 .add 39 (ci 1),128),(oo 41 (.sli 35 (.t 38) (some (.t 40)) none none),480),(oo 42 (.app 35 56 (.t 36) (.t 41)),1023),(fA 43 150 2,2047),(sO 1 43 42,4095)])
(.seq (.dreg [(lA 44 35 8,0),(lA 45 252 2,0),(sO 35 4 44,1),(sO 252 5 45,7),(oo 6 (.mv (ci 0)),15)])
.ret)))
.skip)))
(.reg [om 14 7,bC 15 .add 14 (ci 1),om 7 15]))))))
(sR [oo 46 (.bld (aJ_ hk_) []),oo 47 (.bld (aD_ dG_) []),sO 35 4 46,sO 252 5 47,oo 6 (.mv (ci 23))]
.ret)))
theorem wF_:av_ Tryz.prog 248=some (48,[.cell 4 true 35,.cell 5 true 252,.tmp 6],nL_):=by kernel_rfl
def bw_:ad_:=(sR [oo 2 (.box 252 (.t 0)),oo 3 (.box 35 (.t 1)),oo 4 (.new (aD_ dG_))]
(.seq (sR [lA 7 252 2,fA 8 1 3,lA 9 32 8,kB 10 245 7 9,oo 11 (.un .not (.t 10))]
(cN 11
(sR [lA 12 252 2,sO 252 4 12]
.ret)
.skip))
(.seq (sR [fA 13 151 2,lF 14 1 13,lN 15 14,fA 16 0 2,fA 17 0 16,fA 18 0 17,fA 19 4 18,lF 20 1 19,bI 21 .geq 15 20]
(cN 21
(sR [fA 22 250 2,on (.sto 1 (.t 22) (cb true))]
(sR [lA 23 252 2,sO 252 4 23]
.ret))
.skip))
(sR [fA 24 33 3,lF 25 1 24,bC 26 .add 25 (ci 1),fA 27 33 3,sO 1 27 26]
(.seq (.dreg [(fA 28 0 2,0),(fA 29 116 28,1),(lF 30 1 29,3),(fA 31 33 3,0),(lF 32 1 31,8),(fA 33 0 2,0),(fA 34 0 33,32),(fA 35 0 34,96),(fA 36 5 35,224),(lF 37 1 36,480),(kB 38 267 32 37,1016),(bI 39 .add 30 38,2047),(fA 40 34 3,4095),(sO 1 40 39,8191)])
(.seq (.dreg [(fA 41 151 2,0),(lF 42 1 41,1),(oo 43 (.app 35 56 (.c (.sl 0 true [])) (.t 42)),3),(lA 44 35 3,0),(oo 45 (.bldS 35 1 (aJ_ hk_) [(0,(.t 44))]),8),(oo 46 (.app 35 56 (.t 43) (.t 45)),31),(om 5 46,63)])
(.seq (sR [om 47 5,lN 48 47,bC 49 .sub 48 (ci 1),om 6 49]
(.block 0 (.loop (.seq (.seq (.dreg [(om 50 6,0),(bC 51 .gtr 50 (ci 0),1),(om 52 51,3),(omg 53 5 52 true,7),(omg 54 6 52 true,7),(og 55 (.idxS 35 (.t 53) (.t 54)) 52 true,31),(og 56 (.fldA 34 (.t 55)) 52 true,63),(og 57 (.ld false 1 (.t 56)) 52 true,127),(omg 58 5 52 true,7),(omg 59 6 52 true,7),(og 60 (.bin .sub (.t 59) (ci 1)) 52 true,519),(og 61 (.idxS 35 (.t 58) (.t 60)) 52 true,1799),(og 62 (.fldA 34 (.t 61)) 52 true,3847),(og 63 (.ld false 1 (.t 62)) 52 true,7943),(og 64 (.bin .lss (.t 57) (.t 63)) 52 true,16383),(omg 65 64 52 true,32767),(omg 66 5 65 false,65535),(omg 67 6 65 false,65535),(og 68 (.idxS 35 (.t 66) (.t 67)) 65 false,262143),(og 69 (.fldA 34 (.t 68)) 65 false,524287),(og 70 (.ld false 1 (.t 69)) 65 false,1048575),(omg 71 5 65 false,65535),(omg 72 6 65 false,65535),(og 73 (.bin .sub (.t 72) (ci 1)) 65 false,4259839),(og 74 (.idxS 35 (.t 71) (.t 73)) 65 false,14745599),(og 75 (.fldA 34 (.t 74)) 65 false,31522815),(og 76 (.ld false 1 (.t 75)) 65 false,65077247),(og 77 (.bin .eql (.t 70) (.t 76)) 65 false,134217727),(omg 78 77 65 false,268435455),(omg 79 5 78 true,536870911),(omg 80 6 78 true,536870911),(og 81 (.idxS 35 (.t 79) (.t 80)) 78 true,2147483647),(og 82 (.fldA 0 (.t 81)) 78 true,4294967295),(og 83 (.fldA 0 (.t 82)) 78 true,8589934591),(og 84 (.ld false 1 (.t 83)) 78 true,17179869183),(omg 85 5 78 true,536870911),(omg 86 6 78 true,536870911),(og 87 (.bin .sub (.t 86) (ci 1)) 78 true,69256347647),(og 88 (.idxS 35 (.t 85) (.t 87)) 78 true,241055039487),(og 89 (.fldA 0 (.t 88)) 78 true,515932946431),(og 90 (.fldA 0 (.t 89)) 78 true,1065688760319),(og 91 (.ld false 1 (.t 90)) 78 true,2165200388095),(og 92 (.bin .lss (.t 84) (.t 91)) 78 true,4398046511103),(og 93 (.pick (.t 78) (.t 92) (cb false)) 65 false,8796093022207),(og 94 (.pick (.t 65) (cb true) (.t 93)) 52 true,17592186044415),(oo 95 (.pick (.t 52) (.t 94) (cb false)),35184372088831)])
(cN 95
.skip
(.exit 0)))
(.seq (.block 1 (.dreg [(om 98 5,0),(om 99 6,0),(om 100 5,0),(om 101 6,0),(bC 102 .sub 101 (ci 1),8),(om 103 5,0),(om 104 6,0),(bC 105 .sub 104 (ci 1),64),(iX 106 35 103 105,224),(lA 107 35 106,480),(om 108 5,0),(om 109 6,0),(iX 110 35 108 109,3072),(lA 111 35 110,7168),(iX 112 35 98 99,16355),(sO 35 112 107,32739),(iX 113 35 100 102,65535),(sO 35 113 111,131071)]))
(.reg [om 96 6,bC 97 .sub 96 (ci 1),om 6 97]))))))
(sR [om 114 5,fA 115 151 2,sO 1 115 114]
(sR [lA 116 252 2,sO 252 4 116]
.ret)))))))))
theorem wE_:av_ Tryz.prog 249=some (117,[.cell 4 true 252],bw_):=by kernel_rfl
def nK_:ad_:=(sR [oo 4 (.mv (cu 0))]
(.seq (sR [om 7 1,bC 8 .eql 7 (cu 0)]
(cN 8
(sR [oo 4 (.mv (cu 0))]
.ret)
.skip))
(sR [oo 5 (.mv (cu 1))]
(.seq (sR [oo 6 (.mv (ci 1))]
(.block 0 (.loop (.seq (sR [om 9 6,om 10 0,bI 11 .lss 9 10]
(cN 11
.skip
(.exit 0)))
(.seq (.block 1 (.seq (sR [om 14 1,om 15 5,bI 16 .sub 14 15,om 17 5,bI 18 .leq 16 17]
(cN 18
(sR [om 19 1,om 4 19]
.ret)
.skip))
(.reg [om 20 5,oo 21 (.bin .mul (cu 2) (.t 20)),om 5 21])))
(.reg [om 12 6,bC 13 .add 12 (ci 1),om 6 13]))))))
(sR [om 22 5,om 4 22]
.ret)))))
theorem wD_:av_ Tryz.prog 267=some (23,[.tmp 4],nK_):=by kernel_rfl
def pb_:ad_:=(sR [oo 2 (.new (aD_ dG_))]
(sR [om 7 0,kA 8 37 7,om 6 8,eX 9 0 6,eX 10 1 6,eX 11 2 6,oo 3 (.new (bf_ ih_)),oo 5 (.new (aD_ dG_)),sO 45 3 9,om 4 10,sO 252 5 11]
(sR [lA 12 252 5,sO 252 2 12]
.ret)))
theorem zD_:av_ Tryz.prog 10=some (13,[.cell 2 true 252],pb_):=by kernel_rfl
def pa_:ad_:=(sR [oo 3 (.box 150 (.t 0)),oo 6 (.new (ap_ bR_))]
(sR [om 12 2,fA 13 115 3,fA 14 0 13,lF 15 1 14,lN 16 15,bI 17 .rem 12 16,om 7 17]
(.seq (sR [om 18 2,bC 19 .shr 18 (cu 6),bC 20 .rem 19 (ci 3),bC 21 .gtr 20 (ci 0)]
(cN 21
(.dreg [(fA 22 115 3,0),(fA 23 0 22,1),(lF 24 1 23,3),(lN 25 24,7),(bC 26 .sub 25 (ci 1),15),(om 27 7,0),(fA 28 115 3,0),(fA 29 0 28,64),(lF 30 1 29,192),(lN 31 30,448),(oo 32 (.mn [(ci 3),(.t 31)]),960),(bI 33 .rem 27 32,2016),(bI 34 .sub 26 33,4095),(om 7 34,8191)])
.skip))
(sR [fA 35 115 3,fA 36 0 35,lF 37 1 36,om 38 7,iX 39 240 37 38,lA 40 240 39,oo 8 (.new (aG_ dE_)),sO 240 8 40]
(.seq (.dreg [(fA 41 116 3,0),(lF 42 1 41,1),(om 43 1,0),(kA 44 16 43,4),(fA 45 0 8,0),(fA 46 67 45,16),(lA 47 32 46,48),(om 48 2,0),(bC 49 .shr 48 (cu 8),128),(bC 50 .rem 49 (ci 3),384),(bC 51 .gtr 50 (ci 0),896),(fA 52 0 8,0),(fA 53 171 52,2048),(lA 54 33 53,6144),(fA 55 0 8,0),(fA 56 204 55,16384),(lA 57 33 56,49152),(fA 58 0 8,0),(fA 59 0 58,131072),(lA 60 66 59,393216),(oo 61 (.bld (ap_ bR_) [(66,1,(.t 42)),(67,32,(.t 44)),(99,32,(.t 47)),(237,1,(.t 51)),(171,33,(.t 54)),(204,33,(.t 57)),(0,66,(.t 60))]),1048575),(oo 9 (.new (ap_ bR_)),0),(sO 238 9 61,4194303)])
(.seq (sR [om 62 2,bC 63 .shr 62 (cu 10),bC 64 .rem 63 (ci 5),bC 65 .eql 64 (ci 0),om 66 65,og 67 (.fldA 116 (.t 3)) 66 true,og 68 (.ld false 1 (.t 67)) 66 true,og 69 (.bin .gtr (.t 68) (cu 0)) 66 true,oo 70 (.pick (.t 66) (.t 69) (cb false))]
(cN 70
(.reg [fA 71 116 3,lF 72 1 71,bC 73 .sub 72 (cu 1),fA 74 66 9,sO 1 74 73])
.skip))
(.seq (sR [om 75 2,bC 76 .shr 75 (cu 12),bC 77 .rem 76 (ci 16),bC 78 .eql 77 (ci 0)]
(cN 78
(.reg [om 79 1,bC 80 .add 79 (ci 1),om 81 2,bC 82 .shr 81 (cu 16),bC 83 .rem 82 (ci 3),bI 84 .add 80 83,kA 85 16 84,fA 86 99 9,sO 32 86 85])
.skip))
(sR [fA 87 66 9,lF 88 1 87,fA 89 0 3,fA 90 6 89,lF 91 1 90,bI 92 .quo 88 91,om 10 92]
(.seq (sR [lA 93 150 3,om 94 7,om 95 10,kC 96 63 93 94 95,oo 11 (.new (cpC cp0)),sO 33 11 96]
(sR [fA 97 0 11,lF 98 1 97,fA 99 0 9,fA 100 0 99,fA 101 0 100,lF 102 1 101,bI 103 .gtr 98 102,om 104 103,omg 105 2 104 true,og 106 (.bin .shr (.t 105) (cu 13)) 104 true,og 107 (.bin .rem (.t 106) (ci 2)) 104 true,og 108 (.bin .eql (.t 107) (ci 0)) 104 true,oo 109 (.pick (.t 104) (.t 108) (cb false))]
(cN 109
(.seq (sR [om 110 2,bC 111 .shr 110 (cu 14),bC 112 .rem 111 (ci 2),bC 113 .eql 112 (ci 0)]
(cN 113
(.reg [fA 114 0 9,fA 115 0 114,lA 116 33 115,fA 117 0 9,fA 118 33 117,sO 33 118 116])
.skip))
(.reg [lA 119 33 11,fA 120 0 9,fA 121 0 120,sO 33 121 119]))
.skip)))
(.seq (sR [om 122 2,bC 123 .shr 122 (cu 15),bC 124 .rem 123 (ci 3),bC 125 .eql 124 (ci 0),om 126 125,og 127 (.fldA 0 (.t 8)) 126 true,og 128 (.fldA 66 (.t 127)) 126 true,og 129 (.ld false 1 (.t 128)) 126 true,og 130 (.fldA 0 (.t 3)) 126 true,og 131 (.fldA 6 (.t 130)) 126 true,og 132 (.ld false 1 (.t 131)) 126 true,og 133 (.bin .quo (.t 129) (.t 132)) 126 true,omg 134 10 126 true,og 135 (.bin .lss (.t 133) (.t 134)) 126 true,oo 136 (.pick (.t 126) (.t 135) (cb false))]
(cN 136
(.dreg [(fA 137 0 8,0),(fA 138 0 137,1),(fA 139 0 138,3),(lA 140 33 139,7),(fA 141 0 8,0),(fA 142 0 141,16),(fA 143 33 142,48),(lA 144 33 143,112),(fA 145 171 9,15),(sO 33 145 140,271),(fA 146 204 9,1023),(sO 33 146 144,2047)])
.skip))
(.seq (sR [fA 147 0 8,fA 148 131 147,lA 149 32 148,oo 150 (.bld (rtc rt0) []),oo 151 (.eqa [(32,1)] true (.t 149) (.t 150)),om 152 151,omg 153 2 152 false,og 154 (.bin .shr (.t 153) (cu 16)) 152 false,og 155 (.bin .rem (.t 154) (ci 3)) 152 false,og 156 (.bin .eql (.t 155) (ci 0)) 152 false,oo 157 (.pick (.t 152) (cb true) (.t 156))]
(cN 157
(sR [om 158 1,oo 159 (.bin .add (ci 1000) (.t 158)),kA 160 16 159,fA 161 131 9,sO 32 161 160]
(.dreg [(oo 162 (.bld (wdc wd0) [(0,1,(cu 99))]),0),(fA 163 0 3,0),(fA 164 8 163,2),(lA 165 4 164,6),(fA 166 167 9,1),(sO 4 166 162,17),(fA 167 163 9,63),(sO 4 167 165,127)]))
.skip))
(.seq (sR [om 168 2,bC 169 .shr 168 (cu 18),bC 170 .rem 169 (ci 24)]
(.block 0 (sR [bC 172 .eql 170 (ci 0),om 171 172]
(cN 171
(.reg [om 173 1,bC 174 .rem 173 (ci 3),oo 175 (.bin .add (ci 1000) (.t 174)),kA 176 16 175,fA 177 131 9,sO 32 177 176])
(sR [bC 179 .eql 170 (ci 1),om 178 179]
(cN 178
(.reg [om 180 2,bC 181 .shr 180 (cu 3),kA 182 64 181,fA 183 163 9,sO 4 183 182])
(sR [bC 185 .eql 170 (ci 2),om 184 185]
(cN 184
(.reg [om 186 2,bC 187 .shr 186 (cu 3),kA 188 64 187,fA 189 167 9,sO 4 189 188])
(sR [bC 191 .eql 170 (ci 3),om 190 191]
(cN 190
(.reg [fA 192 0 9,fA 193 0 192,fA 194 0 193,lF 195 1 194,bC 196 .add 195 (cu 1),fA 197 0 9,fA 198 0 197,fA 199 0 198,sO 1 199 196])
(sR [bC 201 .eql 170 (ci 4),om 200 201]
(cN 200
(.reg [fA 202 116 3,lF 203 1 202,bC 204 .add 203 (cu 1),fA 205 66 9,sO 1 205 204])
(sR [bC 207 .eql 170 (ci 5),om 206 207]
(cN 206
(.dreg [(fA 208 115 3,0),(fA 209 0 208,1),(lF 210 1 209,3),(om 211 2,0),(bC 212 .shr 211 (cu 3),8),(fA 213 115 3,0),(fA 214 0 213,32),(lF 215 1 214,96),(lN 216 215,224),(bI 217 .rem 212 216,504),(iX 218 240 210 217,1023),(fA 219 0 218,2047),(fA 220 67 219,4095),(lA 221 32 220,8191),(fA 222 67 9,16383),(sO 32 222 221,32767)])
(sR [bC 224 .eql 170 (ci 6),om 223 224]
(cN 223
(.reg [om 225 1,kA 226 16 225,fA 227 204 9,fA 228 1 227,sO 32 228 226])
(sR [bC 230 .eql 170 (ci 7),om 229 230]
(cN 229
(.reg [oo 231 (.bld (rtc rt0) []),fA 232 131 9,sO 32 232 231])
.skip))))))))))))))))))
(sR [lA 233 238 9,sO 238 6 233]
.ret)))))))))))))
theorem zC_:av_ Tryz.prog 17=some (234,[.cell 6 true 238],pa_):=by kernel_rfl
def ff_:ad_:=(sR [oo 2 (.box 150 (.t 0)),oo 4 (.new (aY_ jw_))]
(sR [om 7 1,fA 8 115 2,fA 9 0 8,lF 10 1 9,lN 11 10,bI 12 .rem 7 11,om 5 12]
(.seq (.dreg [(fA 13 116 2,0),(lF 14 1 13,1),(fA 15 115 2,0),(fA 16 0 15,4),(lF 17 1 16,12),(om 18 5,0),(iX 19 240 17 18,60),(fA 20 0 19,124),(fA 21 67 20,252),(lA 22 32 21,508),(fA 23 0 2,0),(fA 24 44 23,1024),(lF 25 1 24,3072),(lN 26 25,7168),(om 27 1,0),(bC 28 .shr 27 (cu 3),16384),(kB 29 65 26 28,64512),(oo 30 (.bld (aY_ jw_) [(0,1,(.t 14)),(1,32,(.t 22)),(66,1,(.t 29))]),131071),(oo 6 (.new (aY_ jw_)),0),(sO 67 6 30,524287)])
(.seq (sR [om 31 1,bC 32 .shr 31 (cu 9),bC 33 .rem 32 (ci 4),bC 34 .gtr 33 (ci 0),om 35 34,og 36 (.fldA 116 (.t 2)) 35 true,og 37 (.ld false 1 (.t 36)) 35 true,og 38 (.bin .gtr (.t 37) (cu 0)) 35 true,oo 39 (.pick (.t 35) (.t 38) (cb false))]
(cN 39
(.reg [fA 40 116 2,lF 41 1 40,bC 42 .sub 41 (cu 1),fA 43 0 6,sO 1 43 42])
.skip))
(.seq (.dreg [(lA 44 150 2,0),(om 45 5,0),(fA 46 0 6,0),(lF 47 1 46,4),(fA 48 0 2,0),(fA 49 6 48,16),(lF 50 1 49,48),(bI 51 .quo 47 50,124),(kC 52 63 44 45 51,255),(fA 53 33 6,511),(sO 33 53 52,1023)])
(.seq (sR [om 54 1,bC 55 .shr 54 (cu 12),bC 56 .rem 55 (ci 20)]
(.block 0 (sR [bC 58 .eql 56 (ci 0),om 57 58]
(cN 57
(.reg [fA 59 33 6,fA 60 0 59,lF 61 1 60,bC 62 .add 61 (cu 1),fA 63 33 6,fA 64 0 63,sO 1 64 62])
(sR [bC 66 .eql 56 (ci 1),om 65 66]
(cN 65
(.reg [oo 67 (.call (cf 16) [(ci 5000)]),fA 68 1 6,sO 32 68 67])
(sR [bC 70 .eql 56 (ci 2),om 69 70]
(cN 69
(.dreg [(fA 71 115 2,0),(fA 72 0 71,1),(lF 73 1 72,3),(om 74 1,0),(bC 75 .shr 74 (cu 4),8),(fA 76 115 2,0),(fA 77 0 76,32),(lF 78 1 77,96),(lN 79 78,224),(bI 80 .rem 75 79,504),(iX 81 240 73 80,1023),(fA 82 0 81,2047),(fA 83 67 82,4095),(lA 84 32 83,8191),(fA 85 33 6,16383),(fA 86 1 85,32767),(sO 32 86 84,65535)])
(sR [bC 88 .eql 56 (ci 3),om 87 88]
(cN 87
(.reg [fA 89 0 6,lF 90 1 89,bC 91 .add 90 (cu 1),fA 92 0 6,sO 1 92 91])
(sR [bC 94 .eql 56 (ci 4),om 93 94]
(cN 93
(.reg [fA 95 66 6,lF 96 1 95,om 97 1,bC 98 .shr 97 (cu 17),bC 99 .rem 98 (ci 9),oo 100 (.bldS 1 1 [(.int .i64 (0))] [(0,(.t 99))]),oo 101 (.app 1 8 (.t 96) (.t 100)),fA 102 66 6,sO 1 102 101])
.skip))))))))))))
(sR [lA 103 67 6,sO 67 4 103]
.ret)))))))
theorem ij_:av_ Tryz.prog 18=some (104,[.cell 4 true 67],ff_):=by kernel_rfl
def pc_:ad_:=(sR [oo 2 (.box 150 (.t 0)),oo 4 (.new (aT_ fw_))]
(sR [om 8 1,fA 9 115 2,fA 10 0 9,lF 11 1 10,lN 12 11,bI 13 .rem 8 12,om 5 13]
(sR [fA 14 115 2,fA 15 0 14,lF 16 1 15,om 17 5,iX 18 240 16 17,fA 19 0 18,fA 20 0 19,fA 21 0 20,lA 22 33 21,oo 23 (.bld (aT_ fw_) [(0,33,(.t 22))]),oo 6 (.new (aT_ fw_)),sO 34 6 23]
(.seq (sR [om 24 1,bC 25 .shr 24 (cu 5),bC 26 .rem 25 (ci 4),bC 27 .eql 26 (ci 0)]
(cN 27
(.dreg [(lA 28 150 2,0),(om 29 5,0),(fA 30 116 2,0),(lF 31 1 30,4),(fA 32 0 2,0),(fA 33 6 32,16),(lF 34 1 33,48),(bI 35 .quo 31 34,124),(kC 36 63 28 29 35,255),(fA 37 0 6,511),(sO 33 37 36,1023)])
.skip))
(.seq (sR [oo 7 (.mv (ci 0))]
(.block 0 (.loop (.seq (sR [om 38 7,fA 39 0 2,fA 40 44 39,lF 41 1 40,lN 42 41,bI 43 .lss 38 42]
(cN 43
.skip
(.exit 0)))
(.seq (.block 1 (.reg [fA 46 33 6,lF 47 1 46,om 48 1,om 49 7,oo 50 (.cvt .u64 (.t 49)),bI 51 .shr 48 50,bC 52 .rem 51 (ci 50),oo 53 (.cvt .u64 (.t 52)),oo 54 (.bldS 1 1 [(.int .u64 (0))] [(0,(.t 53))]),oo 55 (.app 1 8 (.t 47) (.t 54)),fA 56 33 6,sO 1 56 55]))
(.reg [om 44 7,bC 45 .add 44 (ci 1),om 7 45]))))))
(.seq (sR [om 57 1,bC 58 .shr 57 (cu 12),bC 59 .rem 58 (ci 16)]
(.block 2 (sR [bC 61 .eql 59 (ci 0),om 60 61]
(cN 60
(.reg [fA 62 33 6,lF 63 1 62,oo 64 (.bldS 1 1 [(.int .u64 (0))] [(0,(cu 1))]),oo 65 (.app 1 8 (.t 63) (.t 64)),fA 66 33 6,sO 1 66 65])
(sR [bC 68 .eql 59 (ci 1),om 67 68]
(cN 67
(.reg [fA 69 33 6,lF 70 1 69,oo 71 (.idxS 1 (.t 70) (ci 0)),on (.sto 1 (.t 71) (cu 4611686018427387904))])
.skip))))))
(sR [lA 72 34 6,sO 34 4 72]
.ret)))))))
theorem zE_:av_ Tryz.prog 31=some (73,[.cell 4 true 34],pc_):=by kernel_rfl
def lq_:ad_:=(sR [oo 2 (.box 252 (.t 0)),oo 4 (.new (cl_ fV_))]
(sR [om 11 1,bC 12 .rem 11 (ci 9),oo 13 (.cvt .u64 (.t 12)),oo 14 (.bld [(.int .u64 (0))] [(0,1,(.t 13))]),oo 15 (.bldS 1 6 [(.int .i64 (0))] [(0,(ci 1)),(1,(ci 1)),(2,(ci 2)),(3,(ci 2)),(4,(ci 3)),(5,(ci 4))]),om 16 1,bC 17 .shr 16 (cu 4),bC 18 .rem 17 (ci 6),iX 19 1 15 18,lF 20 1 19,oo 21 (.bld (cl_ fV_) [(0,1,(.t 14)),(1,1,(.t 20))]),oo 5 (.new (cl_ fV_)),sO 34 5 21]
(.seq (.dreg [(fA 22 0 2,0),(fA 23 115 22,1),(fA 24 0 23,3),(lF 25 1 24,7),(om 26 1,0),(fA 27 0 2,0),(fA 28 115 27,32),(fA 29 0 28,96),(lF 30 1 29,224),(lN 31 30,480),(bI 32 .rem 26 31,1008),(iX 33 240 25 32,2047),(fA 34 0 33,4095),(fA 35 67 34,8191),(lA 36 32 35,16383),(oo 6 (.new (rtc rt0)),0),(sO 32 6 36,65535)])
(.seq (sR [fA 37 150 2,lF 38 1 37,lN 39 38,om 7 39]
(sR [om 40 7,bC 41 .gtr 40 (ci 0),om 42 41,omg 43 1 42 true,og 44 (.bin .shr (.t 43) (cu 8)) 42 true,og 45 (.bin .rem (.t 44) (ci 8)) 42 true,og 46 (.bin .gtr (.t 45) (ci 0)) 42 true,oo 47 (.pick (.t 42) (.t 46) (cb false))]
(cN 47
(.seq (.dreg [(fA 48 150 2,0),(lF 49 1 48,1),(om 50 1,0),(bC 51 .shr 50 (cu 11),4),(om 52 7,0),(bI 53 .rem 51 52,28),(iX 54 35 49 53,63),(lA 55 35 54,127),(oo 8 (.new (aJ_ hk_)),0),(sO 35 8 55,511)])
(.dreg [(fA 56 0 8,0),(fA 57 0 56,1),(lF 58 1 57,3),(fA 59 1 8,0),(lA 60 32 59,8),(fA 61 0 5,7),(fA 62 0 61,39),(sO 1 62 58,103),(sO 32 6 60,255)]))
.skip)))
(sR [fA 63 0 2,fA 64 115 63,lA 65 1 64,lA 66 32 6,kB 67 23 65 66,om 9 67]
(.seq (sR [fA 68 0 2,fA 69 115 68,lA 70 1 69,om 71 9,kB 72 189 70 71,om 10 72]
(sR [om 73 10,lN 74 73,bC 75 .gtr 74 (ci 0),om 76 75,omg 77 1 76 true,og 78 (.bin .shr (.t 77) (cu 14)) 76 true,og 79 (.bin .rem (.t 78) (ci 4)) 76 true,og 80 (.bin .gtr (.t 79) (ci 0)) 76 true,oo 81 (.pick (.t 76) (.t 80) (cb false))]
(cN 81
(.dreg [(fA 82 0 2,0),(fA 83 115 82,1),(fA 84 0 83,3),(lF 85 1 84,7),(om 86 10,0),(om 87 1,0),(bC 88 .shr 87 (cu 16),32),(om 89 10,0),(lN 90 89,128),(bI 91 .rem 88 90,480),(iX 92 1 86 91,1008),(lF 93 1 92,2032),(iX 94 240 85 93,4095),(fA 95 0 94,8191),(fA 96 131 95,16383),(lA 97 32 96,32767),(fA 98 2 5,65535),(sO 32 98 97,131071)])
.skip)))
(.seq (sR [om 99 1,bC 100 .shr 99 (cu 14),bC 101 .rem 100 (ci 16),bC 102 .eql 101 (ci 0)]
(cN 102
(.reg [oo 103 (.call (cf 16) [(ci 4000)]),fA 104 2 5,sO 32 104 103])
.skip))
(sR [lA 105 34 5,sO 34 4 105]
.ret))))))))
theorem tJ_:av_ Tryz.prog 173=some (106,[.cell 4 true 34],lq_):=by kernel_rfl
def tn_:ad_:=(sR [oo 2 (.new (bf_ ih_)),oo 3 (.mv (.c (.sl 0 true []))),oo 4 (.new (aD_ dG_))]
(sR [om 14 0,kA 15 55 14,oo 5 (.new (bf_ ih_)),sO 45 5 15]
(sR [lA 17 45 5,kA 18 102 17,om 16 18,eX 19 0 16,eX 20 1 16,eX 21 2 16,oo 6 (.new (aD_ dG_)),sO 252 6 19,om 7 20,om 8 21]
(sR [oo 9 (.mv (.c (.sl 0 true [])))]
(sR [om 22 0,oo 23 (.call (cf 103) [(.t 22),(ci 16)]),bC 24 .rem 23 (ci 25),om 10 24]
(.seq (sR [om 25 0,oo 26 (.call (cf 103) [(.t 25),(ci 17)]),bC 27 .rem 26 (ci 4),bC 28 .gtr 27 (ci 0)]
(cN 28
(.reg [oo 10 (.mv (ci 24))])
.skip))
(.seq (sR [oo 11 (.mv (ci 0))]
(.block 0 (.loop (.seq (sR [om 29 11,om 30 10,bI 31 .lss 29 30]
(cN 31
.skip
(.exit 0)))
(.seq (.block 1 (sR [om 34 0,om 35 11,oo 36 (.bin .add (ci 18) (.t 35)),kB 37 103 34 36,om 12 37]
(.seq (sR [om 38 11,bC 39 .eql 38 (ci 0)]
(cN 39
(.reg [oo 12 (.mv (ci 0))])
.skip))
(sR [lA 40 252 6,om 41 11,oo 42 (.bin .add (ci 10) (.t 41)),om 43 12,kC 44 104 40 42 43,oo 13 (.new (bq_ sE_)),sO 446 13 44]
(sR [om 45 9,lA 46 446 13,oo 47 (.bldS 446 1 (bq_ sE_) [(0,(.t 46))]),oo 48 (.app 446 720 (.t 45) (.t 47)),om 9 48]
(.reg [lA 50 252 6,lA 51 446 13,kB 52 105 50 51,om 49 52,eX 53 0 49,eX 54 1 49,eX 55 2 49,sO 252 6 53]))))))
(.reg [om 32 11,bC 33 .add 32 (ci 1),om 11 33]))))))
(.seq (.dreg [(lA 56 45 5,0),(om 57 9,0),(lA 58 252 6,0),(sO 45 2 56,1),(om 3 57,11),(sO 252 4 58,31)])
.ret))))))))
theorem Ew_:av_ Tryz.prog 37=some (59,[.cell 2 true 45,.tmp 3,.cell 4 true 252],tn_):=by kernel_rfl
def xM_:ad_:=(sR [oo 3 (.box 150 (.t 0)),oo 6 (.new (cpC cp0))]
(sR [fA 8 115 3,lA 9 1 8,om 10 1,om 11 2,fA 12 0 3,fA 13 6 12,lF 14 1 13,bI 15 .mul 11 14,kC 16 128 9 10 15,om 7 16]
(.seq (sR [om 17 7,bC 18 .lss 17 (ci 0)]
(cN 18
(sR [fA 19 47 3,fA 20 33 19,lA 21 33 20,sO 33 6 21]
.ret)
.skip))
(sR [om 22 2,fA 23 115 3,fA 24 0 23,lF 25 1 24,om 26 7,iX 27 240 25 26,fA 28 0 27,fA 29 67 28,lA 30 32 29,oo 31 (.bld (cpC cp0) [(0,1,(.t 22)),(1,32,(.t 30))]),sO 33 6 31]
.ret))))
theorem HX_:av_ Tryz.prog 63=some (32,[.cell 6 true 33],xM_):=by kernel_rfl
def rm_:ad_:=(sR [oo 2 (.new (wdc wd0))]
(sR [om 4 0,bC 5 .and 4 (ci 127),oo 6 (.cvt .u64 (.t 5)),oo 7 (.bld (wdc wd0) [(0,1,(.t 6))]),oo 3 (.new (wdc wd0)),sO 4 3 7]
(.seq (sR [om 8 0,bC 9 .shr 8 (cu 7),bC 10 .and 9 (ci 3)]
(.block 0 (sR [bC 12 .eql 10 (ci 1),om 11 12]
(cN 11
(.reg [om 13 0,bC 14 .shr 13 (cu 9),bC 15 .and 14 (ci 3),om 16 0,bC 17 .shr 16 (cu 11),bC 18 .and 17 (ci 3),oo 19 (.cvt .u64 (.t 18)),oo 20 (.idxA 4 1 (.t 3) (.t 15)),sO 1 20 19])
(sR [bC 22 .eql 10 (ci 2),om 21 22]
(cN 21
(.reg [om 23 0,bC 24 .shr 23 (cu 9),bC 25 .and 24 (ci 63),oo 26 (.cvt .u64 (.t 25)),oo 27 (.bin .shr (cu 18446744073709551615) (.t 26)),oo 28 (.bld (wdc wd0) [(0,1,(cu 18446744073709551615)),(1,1,(.t 27))]),sO 4 3 28])
(sR [bC 30 .eql 10 (ci 3),om 29 30]
(cN 29
(.reg [om 31 0,bC 32 .shr 31 (cu 9),bC 33 .and 32 (ci 1),oo 34 (.cvt .u64 (.t 33)),oo 35 (.bin .sub (cu 18446744073709551615) (.t 34)),oo 36 (.idxA 4 1 (.t 3) (ci 3)),sO 1 36 35])
.skip))))))))
(sR [lA 37 4 3,sO 4 2 37]
.ret))))
theorem BK_:av_ Tryz.prog 64=some (38,[.cell 2 true 4],rm_):=by kernel_rfl
def nw_:ad_:=(sR [oo 2 (.new (bf_ ih_))]
(.seq (.dreg [(om 5 0,0),(oo 6 (.call (cf 103) [(.t 5),(ci 0)]),1),(bC 7 .rem 6 (ci 8),3),(oo 8 (.bin .add (ci 6) (.t 7)),7),(om 9 0,0),(oo 10 (.call (cf 103) [(.t 9),(ci 1)]),19),(bC 11 .rem 10 (ci 4),51),(om 12 0,0),(oo 13 (.call (cf 103) [(.t 12),(ci 2)]),179),(bC 14 .rem 13 (ci 4),435),(om 15 0,0),(oo 16 (.call (cf 103) [(.t 15),(ci 3)]),1459),(bC 17 .rem 16 (ci 4),3507),(oo 18 (.bin .add (ci 1) (.t 17)),7603),(om 19 0,0),(oo 20 (.call (cf 103) [(.t 19),(ci 4)]),19891),(bC 21 .rem 20 (ci 4),52659),(om 22 0,0),(oo 23 (.call (cf 103) [(.t 22),(ci 5)]),183731),(bC 24 .rem 23 (ci 5),445875),(oo 25 (.bin .add (ci 1) (.t 24)),970163),(oo 26 (.cvt .u64 (.t 25)),2018739),(oo 27 (.bld [(.int .i64 (0)),(.int .i64 (0)),(.int .i64 (0)),(.int .i64 (0)),(.int .i64 (0)),(.int .u64 (0))] [(0,1,(.t 8)),(1,1,(.t 11)),(2,1,(.t 14)),(3,1,(.t 18)),(4,1,(.t 21)),(5,1,(.t 26))]),4194303),(om 28 0,0),(oo 29 (.call (cf 103) [(.t 28),(ci 6)]),8834483),(bC 30 .rem 29 (ci 4),25611699),(oo 31 (.bin .add (ci 1) (.t 30)),59166131),(oo 32 (.cvt .u64 (.t 31)),126274995),(oo 33 (.bldS 1 3 [(.int .i64 (0))] [(0,(ci 0)),(1,(ci 40)),(2,(ci 100))]),0),(om 34 0,0),(oo 35 (.call (cf 103) [(.t 34),(ci 7)]),562482611),(bC 36 .rem 35 (ci 3),1636224435),(iX 37 1 33 36,4052143539),(lF 38 1 37,8347110835),(oo 39 (.cvt .u64 (.t 38)),16937045427),(om 40 0,0),(oo 41 (.call (cf 103) [(.t 40),(ci 8)]),35995962803),(bC 42 .rem 41 (ci 2),104715439539),(oo 43 (.cvt .u64 (.t 42)),242154393011),(oo 44 (.bld (wdc wd0) [(0,1,(cu 100)),(1,1,(cu 0)),(2,1,(.t 43))]),517032299955),(oo 45 (.call (cf 16) [(ci 1)]),104715439539),(oo 46 (.bld (bf_ ih_) [(0,6,(.t 27)),(6,1,(.t 32)),(7,1,(.t 39)),(8,4,(.t 44)),(12,32,(.t 45))]),2199023255551),(oo 3 (.new (bf_ ih_)),0),(sO 45 3 46,8796093022207)])
(.seq (sR [oo 4 (.mv (ci 0))]
(.block 0 (.loop (.seq (sR [om 47 4,om 48 0,oo 49 (.call (cf 103) [(.t 48),(ci 9)]),bC 50 .rem 49 (ci 5),oo 51 (.bin .add (ci 2) (.t 50)),bI 52 .lss 47 51]
(cN 52
.skip
(.exit 0)))
(.seq (.block 1 (.dreg [(fA 55 44 3,0),(lF 56 1 55,1),(om 57 0,0),(om 58 4,0),(oo 59 (.bin .add (ci 10) (.t 58)),8),(kB 60 103 57 59,28),(bC 61 .rem 60 (ci 40),60),(oo 62 (.cvt .u64 (.t 61)),124),(oo 63 (.bldS 1 1 [(.int .u64 (0))] [(0,(.t 62))]),252),(oo 64 (.app 1 8 (.t 56) (.t 63)),511),(fA 65 44 3,1023),(sO 1 65 64,2047)]))
(.reg [om 53 4,bC 54 .add 53 (ci 1),om 4 54]))))))
(sR [lA 66 45 3,sO 45 2 66]
.ret))))
theorem wo_:av_ Tryz.prog 55=some (67,[.cell 2 true 45],nw_):=by kernel_rfl
def xK_:ad_:=(sR [oo 4 (.mv (ci 0))]
(.seq (sR [om 5 0,lN 6 5,bC 7 .eql 6 (ci 0)]
(cN 7
(sR [om 8 1,bC 9 .and 8 (ci 65535),om 4 9]
.ret)
.skip))
(.seq (.dreg [(om 10 0,0),(om 11 1,0),(om 12 0,0),(lN 13 12,4),(bI 14 .rem 11 13,14),(iX 15 1 10 14,31),(lF 16 1 15,63),(bC 17 .and 16 (ci 16777215),127),(om 18 1,0),(om 19 0,0),(lN 20 19,512),(bI 21 .quo 18 20,1792),(bI 22 .add 17 21,4095),(om 4 22,8191)])
.ret)))
theorem HV_:av_ Tryz.prog 103=some (23,[.tmp 4],xK_):=by kernel_rfl
def xL_:ad_:=(sR [oo 3 (.box 252 (.t 0)),oo 6 (.new (bq_ sE_))]
(sR [om 8 2,bC 9 .shr 8 (cu 4),om 7 9]
(.seq (sR [om 10 2,bC 11 .rem 10 (ci 16)]
(.block 0 (.seq (sR [bC 13 .eql 11 (ci 0),om 12 13]
(cN 12
.skip
(sR [bC 14 .eql 11 (ci 1),om 12 14]
(cN 12
.skip
(.reg [bC 15 .eql 11 (ci 2),om 12 15])))))
(cN 12
(sR [oo 16 (.bld (bq_ sE_) [(0,1,(ci 1))]),sO 446 6 16]
.ret)
(.seq (sR [bC 18 .eql 11 (ci 3),om 17 18]
(cN 17
.skip
(sR [bC 19 .eql 11 (ci 4),om 17 19]
(cN 17
.skip
(sR [bC 20 .eql 11 (ci 5),om 17 20]
(cN 17
.skip
(sR [bC 21 .eql 11 (ci 6),om 17 21]
(cN 17
.skip
(.reg [bC 22 .eql 11 (ci 7),om 17 22])))))))))
(cN 17
(sR [fA 23 0 3,lA 24 150 23,om 25 1,om 26 7,kC 27 17 24 25 26,oo 28 (.bld (bq_ sE_) [(0,1,(ci 2)),(1,238,(.t 27))]),sO 446 6 28]
.ret)
(.seq (sR [bC 30 .eql 11 (ci 8),om 29 30]
(cN 29
.skip
(sR [bC 31 .eql 11 (ci 9),om 29 31]
(cN 29
.skip
(.reg [bC 32 .eql 11 (ci 10),om 29 32])))))
(cN 29
(sR [fA 33 0 3,lA 34 150 33,om 35 7,kB 36 18 34 35,oo 37 (.bld (bq_ sE_) [(0,1,(ci 3)),(239,67,(.t 36))]),sO 446 6 37]
.ret)
(sR [bC 39 .eql 11 (ci 11),om 38 39]
(cN 38
(sR [fA 40 0 3,fA 41 0 40,fA 42 44 41,lF 43 1 42,lN 44 43,om 45 7,kB 46 24 44 45,oo 47 (.bld (bq_ sE_) [(0,1,(ci 4)),(306,70,(.t 46))]),sO 446 6 47]
.ret)
(sR [bC 49 .eql 11 (ci 12),om 48 49]
(cN 48
(sR [fA 50 0 3,lA 51 150 50,om 52 7,kB 53 31 51 52,oo 54 (.bld (bq_ sE_) [(0,1,(ci 5)),(376,34,(.t 53))]),sO 446 6 54]
.ret)
.skip))))))))))))
(sR [lA 55 252 3,om 56 7,kB 57 173 55 56,oo 58 (.bld (bq_ sE_) [(0,1,(ci 6)),(410,34,(.t 57))]),sO 446 6 58]
.ret))))
theorem HW_:av_ Tryz.prog 104=some (59,[.cell 6 true 446],xL_):=by kernel_rfl
end Go.Proofs.YtkgimpdgncakjaaGreat
