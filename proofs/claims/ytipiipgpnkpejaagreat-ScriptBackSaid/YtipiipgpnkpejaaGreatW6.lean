/-
 My texts Kk, Kl, joined.
-/
import Derived.Test.YtipiipgpnkpejaaGreatW3
import Derived.Test.YtipiipgpnkpejaaGreatChecked
import Derived.KernelRfl
namespace Go.Proofs.YtipiipgpnkpejaaGreat
open Go Go.FH
def sY_:ad_:=(sR [oo 1 (.box 45 (.t 0)),oo 2 (.new (ao_ cQ_)),oo 3 (.mv (ci 0))]
(.seq (sR [fA 9 6 1,lF 10 1 9,bC 11 .lss 10 (cu 1),om 12 11,og 13 (.fldA 6 (.t 1)) 12 false,og 14 (.ld false 1 (.t 13)) 12 false,og 15 (.bin .gtr (.t 14) (cu 64)) 12 false,oo 16 (.pick (.t 12) (cb true) (.t 15)),om 17 16,og 18 (.fldA 7 (.t 1)) 17 false,og 19 (.ld false 1 (.t 18)) 17 false,og 20 (.bin .gtr (.t 19) (cu 100)) 17 false,oo 21 (.pick (.t 17) (cb true) (.t 20)),om 22 21,og 23 (.fldA 44 (.t 1)) 22 false,og 24 (.ld false 1 (.t 23)) 22 false,og 25 (.len false (.t 24)) 22 false,og 26 (.bin .gtr (.t 25) (ci 1024)) 22 false,oo 27 (.pick (.t 22) (cb true) (.t 26)),om 28 27,og 29 (.fldA 0 (.t 1)) 28 false,og 30 (.fldA 0 (.t 29)) 28 false,og 31 (.ld false 1 (.t 30)) 28 false,og 32 (.call (cf 127) [(.t 31),(ci 1),(ci 4096)]) 28 false,og 33 (.un .not (.t 32)) 28 false,oo 34 (.pick (.t 28) (cb true) (.t 33)),om 35 34,og 36 (.fldA 0 (.t 1)) 35 false,og 37 (.fldA 1 (.t 36)) 35 false,og 38 (.ld false 1 (.t 37)) 35 false,og 39 (.call (cf 127) [(.t 38),(ci 0),(ci 64)]) 35 false,og 40 (.un .not (.t 39)) 35 false,oo 41 (.pick (.t 35) (cb true) (.t 40)),om 42 41,og 43 (.fldA 0 (.t 1)) 42 false,og 44 (.fldA 2 (.t 43)) 42 false,og 45 (.ld false 1 (.t 44)) 42 false,og 46 (.call (cf 127) [(.t 45),(ci 0),(ci 256)]) 42 false,og 47 (.un .not (.t 46)) 42 false,oo 48 (.pick (.t 42) (cb true) (.t 47)),om 49 48,og 50 (.fldA 0 (.t 1)) 49 false,og 51 (.fldA 3 (.t 50)) 49 false,og 52 (.ld false 1 (.t 51)) 49 false,og 53 (.call (cf 127) [(.t 52),(ci 1),(ci 64)]) 49 false,og 54 (.un .not (.t 53)) 49 false,oo 55 (.pick (.t 49) (cb true) (.t 54)),om 56 55,og 57 (.fldA 0 (.t 1)) 56 false,og 58 (.fldA 4 (.t 57)) 56 false,og 59 (.ld false 1 (.t 58)) 56 false,og 60 (.call (cf 127) [(.t 59),(ci 0),(ci 256)]) 56 false,og 61 (.un .not (.t 60)) 56 false,oo 62 (.pick (.t 56) (cb true) (.t 61)),om 63 62,og 64 (.fldA 0 (.t 1)) 63 false,og 65 (.fldA 5 (.t 64)) 63 false,og 66 (.ld false 1 (.t 65)) 63 false,og 67 (.bin .lss (.t 66) (cu 1)) 63 false,oo 68 (.pick (.t 63) (cb true) (.t 67)),om 69 68,og 70 (.fldA 0 (.t 1)) 69 false,og 71 (.fldA 5 (.t 70)) 69 false,og 72 (.ld false 1 (.t 71)) 69 false,og 73 (.bin .gtr (.t 72) (cu 1048576)) 69 false,oo 74 (.pick (.t 69) (cb true) (.t 73))]
(cN 74
(sR [oo 75 (.bld (ao_ cQ_) []),sO 150 2 75,oo 3 (.mv (ci 3))]
.ret)
.skip))
(.seq (sR [fA 76 12 1,lA 77 32 76,oo 78 (.bld (rtc rt0) []),oo 79 (.eqa [(32,1)] false (.t 77) (.t 78))]
(cN 79
(sR [oo 80 (.bld (ao_ cQ_) []),sO 150 2 80,oo 3 (.mv (ci 2))]
.ret)
.skip))
(sR [fA 81 12 1,lA 82 32 81,oo 83 (.bld (cpC cp0) [(1,32,(.t 82))]),oo 4 (.new (cpC cp0)),sO 33 4 83]
(sR [lA 84 33 4,fA 85 44 1,lF 86 1 85,oo 87 (.bld (aS_ ca_) [(0,33,(.t 84)),(33,1,(.t 86))]),oo 5 (.new (aS_ ca_)),sO 34 5 87]
(.seq (sR [lA 88 34 5,fA 89 44 1,lF 90 1 89,lN 91 90,kB 92 128 88 91,om 6 92]
(sR [om 93 6,bC 94 .neq 93 (ci 0)]
(cN 94
(sR [oo 95 (.bld (ao_ cQ_) []),om 96 6,sO 150 2 95,om 3 96]
.ret)
.skip)))
(sR [fA 97 44 1,lF 98 1 97,oo 99 (.app 1 8 (.c (.sl 0 true [])) (.t 98)),fA 100 44 1,sO 1 100 99]
(sR [fA 101 12 1,lA 102 32 101,lA 103 33 4,lA 104 33 4,lA 105 33 4,lA 106 33 4,oo 107 (.bld (cT_ ug_) [(0,33,(.t 105)),(33,33,(.t 106))]),oo 108 (.bld (aw_ bj_) [(67,32,(.t 102)),(171,33,(.t 103)),(204,33,(.t 104)),(0,66,(.t 107))]),oo 7 (.new (aw_ bj_)),sO 238 7 108]
(.seq (.dreg [(lA 109 45 1,0),(lA 110 33 4,0),(lA 111 33 4,0),(oo 112 (.bld (cT_ ug_) [(0,33,(.t 110)),(33,33,(.t 111))]),6),(lA 113 238 7,0),(oo 114 (.call (cf 129) [(.t 113),(ci 1)]),16),(lA 115 34 5,0),(kA 116 130 115,112),(oo 117 (.bldS 34 1 (aS_ ca_) [(0,(.t 116))]),240),(oo 118 (.bld (ao_ cQ_) [(0,45,(.t 109)),(47,66,(.t 112)),(115,1,(.t 114)),(149,1,(.t 117))]),511),(oo 8 (.new (ao_ cQ_)),0),(sO 150 8 118,2047)])
(sR [fA 119 44 1,lF 120 1 119,lN 121 120,oo 122 (.mk 34 48 (cc_ uu_) (.t 121) (.t 121)),fA 123 45 8,fA 124 0 123,sO 1 124 122]
(sR [lA 125 150 8,sO 150 2 125,oo 3 (.mv (ci 0))]
.ret)))))))))))
theorem Ed_:as_ Tryz.prog 112=some (126,[.cell 2 true 150,.tmp 3],sY_):=by kernel_rfl
def mt_:ad_:=(sR [oo 6 (.mv (cb false))]
(sR [om 7 0,om 8 1,bI 9 .geq 7 8,om 10 9,omg 11 0 10 true,omg 12 2 10 true,og 13 (.bin .leq (.t 11) (.t 12)) 10 true,oo 14 (.pick (.t 10) (.t 13) (cb false)),om 6 14]
.ret))
theorem vC_:as_ Tryz.prog 127=some (15,[.tmp 6],mt_):=by kernel_rfl
def qi_:ad_:=(sR [oo 1 (.box 150 (.t 0)),oo 2 (.new (ao_ cQ_)),oo 3 (.mv (ci 0))]
(.seq (sR [fA 9 116 1,lF 10 1 9,bC 11 .geq 10 (cu 1099511627776)]
(cN 11
(sR [oo 12 (.bld (ao_ cQ_) []),sO 150 2 12,oo 3 (.mv (ci 3))]
.ret)
.skip))
(sR [fA 13 116 1,lF 14 1 13,bC 15 .add 14 (cu 1),fA 16 116 1,sO 1 16 15]
(sR [oo 17 (.bld (rtc rt0) []),fA 18 117 1,sO 32 18 17]
(.seq (sR [fA 19 116 1,lF 20 1 19,fA 21 0 1,fA 22 6 21,lF 23 1 22,bI 24 .rem 20 23,bC 25 .eql 24 (cu 0)]
(cN 25
(sR [lA 26 150 1,kA 27 146 26,oo 4 (.new (cT_ ug_)),sO 66 4 27]
(.reg [lA 28 150 1,fA 29 0 4,lA 30 33 29,fA 31 33 4,lA 32 33 31,kC 33 147 28 30 32,sO 150 1 33]))
.skip))
(sR [fA 34 113 1,fA 35 0 34,lF 36 1 35,om 5 36]
(sR [fA 37 113 1,fA 38 0 37,on (.sto 1 (.t 38) (.c (.sl 0 true [])))]
(.seq (sR [oo 6 (.mv (ci 0))]
(.block 0 (.loop (.seq (sR [om 39 6,om 40 5,lN 41 40,bI 42 .lss 39 41]
(cN 42
.skip
(.exit 0)))
(.seq (.block 1 (.seq (.seq (.dreg [(om 45 5,0),(om 46 6,0),(iX 47 67 45 46,3),(fA 48 0 47,7),(lF 49 1 48,15),(fA 50 116 1,0),(lF 51 1 50,32),(bI 52 .geq 49 51,127)])
(cN 52
(.seq (.dreg [(fA 53 113 1,0),(fA 54 0 53,1),(lF 55 1 54,3),(om 56 5,0),(om 57 6,0),(iX 58 67 56 57,24),(lA 59 67 58,56),(oo 60 (.bldS 67 1 (aX_ cI_) [(0,(.t 59))]),120),(oo 61 (.app 67 104 (.t 55) (.t 60)),255),(fA 62 113 1,511),(fA 63 0 62,1023),(sO 1 63 61,2047)])
(.exit 1))
.skip))
(.seq (.dreg [(lA 65 150 1,0),(om 66 5,0),(om 67 6,0),(iX 68 67 66 67,6),(lA 69 67 68,14),(kB 70 148 65 69,31),(om 64 70,63),(eX 71 0 64,127),(eX 72 1 64,127),(om 7 71,255),(om 8 72,1023)])
(sR [om 73 8,bC 74 .eql 73 (ci 0)]
(cN 74
(.dreg [(lA 75 150 1,0),(om 76 5,0),(om 77 6,0),(iX 78 67 76 77,6),(lA 79 67 78,14),(kB 80 149 75 79,31),(sO 150 1 80,63)])
.skip)))))
(.reg [om 43 6,bC 44 .add 43 (ci 1),om 6 44]))))))
(sR [lA 81 150 1,sO 150 2 81,oo 3 (.mv (ci 0))]
.ret)))))))))
theorem BZ_:as_ Tryz.prog 132=some (82,[.cell 2 true 150,.tmp 3],qi_):=by kernel_rfl
def bf_:ad_:=(sR [oo 2 (.box 150 (.t 0)),oo 3 (.box 238 (.t 1)),oo 4 (.new (ao_ cQ_)),oo 5 (.mv (.c (.sl 0 true []))),oo 6 (.mv (ci 0))]
(sR [lA 12 150 2,lA 13 238 3,kB 14 153 12 13,om 7 14]
(.seq (sR [om 15 7,bC 16 .eql 15 (ci 10)]
(cN 16
(.seq (sR [fA 17 113 2,fA 18 1 17,lF 19 1 18,lN 20 19,fA 21 0 2,fA 22 0 21,fA 23 1 22,lF 24 1 23,bI 25 .geq 20 24]
(cN 25
(sR [oo 26 (.bld (ao_ cQ_) []),sO 150 4 26,oo 5 (.mv (.c (.sl 0 true []))),oo 6 (.mv (ci 11))]
.ret)
.skip))
(sR [fA 27 237 3,on (.sto 1 (.t 27) (cb false))]
(.seq (.dreg [(fA 28 113 2,0),(fA 29 1 28,1),(lF 30 1 29,3),(oo 31 (.app 238 336 (.c (.sl 0 true [])) (.t 30)),7),(lA 32 238 3,0),(oo 33 (.bldS 238 1 (aw_ bj_) [(0,(.t 32))]),16),(oo 34 (.app 238 336 (.t 31) (.t 33)),63),(fA 35 113 2,127),(fA 36 1 35,255),(sO 1 36 34,511)])
(sR [lA 37 150 2,sO 150 4 37,oo 5 (.mv (.c (.sl 0 true []))),oo 6 (.mv (ci 0))]
.ret))))
.skip))
(.seq (sR [om 38 7,bC 39 .neq 38 (ci 0)]
(cN 39
(sR [oo 40 (.bld (ao_ cQ_) []),om 41 7,sO 150 4 40,oo 5 (.mv (.c (.sl 0 true []))),om 6 41]
.ret)
.skip))
(sR [fA 42 237 3,lF 43 1 42,om 44 43,og 45 (.fldA 66 (.t 3)) 44 true,og 46 (.ld false 1 (.t 45)) 44 true,og 47 (.fldA 116 (.t 2)) 44 true,og 48 (.ld false 1 (.t 47)) 44 true,og 49 (.bin .eql (.t 46) (.t 48)) 44 true,oo 50 (.pick (.t 44) (.t 49) (cb false)),om 51 50,og 52 (.fldA 117 (.t 2)) 51 true,og 53 (.ld true 32 (.t 52)) 51 true,og 54 (.bld (rtc rt0) []) 51 true,og 55 (.eqa [(32,1)] false (.t 53) (.t 54)) 51 true,oo 56 (.pick (.t 51) (.t 55) (cb false)),om 8 56]
(sR [lA 57 150 2,lA 58 238 3,kB 59 154 57 58,sO 150 2 59]
(.seq (sR [om 60 8]
(cN 60
(.reg [fA 61 67 3,lA 62 32 61,fA 63 117 2,sO 32 63 62])
.skip))
(sR [fA 64 67 3,lA 65 32 64,oo 66 (.bldS 32 1 (rtc rt0) [(0,(.t 65))]),om 9 66]
(.seq (sR [lA 67 150 2,kA 68 155 67,om 10 68]
(.block 0 (.loop (.seq (sR [om 69 10,bC 70 .geq 69 (ci 0)]
(cN 70
.skip
(.exit 0)))
(.seq (.block 1 (sR [fA 73 113 2,fA 74 1 73,lF 75 1 74,om 76 10,iX 77 238 75 76,lA 78 238 77,oo 11 (.new (aw_ bj_)),sO 238 11 78]
(.seq (.dreg [(fA 79 113 2,0),(fA 80 1 79,1),(lF 81 1 80,3),(om 82 10,0),(oo 83 (.sli 238 (.t 81) none (some (.t 82)) none),15),(oo 84 (.app 238 336 (.c (.sl 0 true [])) (.t 83)),31),(fA 85 113 2,0),(fA 86 1 85,64),(lF 87 1 86,192),(om 88 10,0),(bC 89 .add 88 (ci 1),512),(oo 90 (.sli 238 (.t 87) (some (.t 89)) none none),1984),(oo 91 (.app 238 336 (.t 84) (.t 90)),4095),(fA 92 113 2,8191),(fA 93 1 92,16383),(sO 1 93 91,32767)])
(sR [lA 94 150 2,lA 95 238 11,kB 96 153 94 95,bC 97 .eql 96 (ci 0)]
(cN 97
(sR [lA 98 150 2,lA 99 238 11,kB 100 154 98 99,sO 150 2 100]
(.reg [om 101 9,fA 102 67 11,lA 103 32 102,oo 104 (.bldS 32 1 (rtc rt0) [(0,(.t 103))]),oo 105 (.app 32 32 (.t 101) (.t 104)),om 9 105]))
.skip)))))
(.reg [lA 71 150 2,kA 72 155 71,om 10 72]))))))
(sR [lA 106 150 2,om 107 9,sO 150 4 106,om 5 107,oo 6 (.mv (ci 0))]
.ret))))))))))
theorem yi_:as_ Tryz.prog 135=some (108,[.cell 4 true 150,.tmp 5,.tmp 6],bf_):=by kernel_rfl
def mp_:ad_:=(sR [oo 2 (.box 150 (.t 0)),oo 3 (.box 67 (.t 1)),oo 4 (.new (ao_ cQ_)),oo 5 (.mv (ci 0))]
(sR [lA 9 150 2,lA 10 67 3,kB 11 148 9 10,om 8 11,eX 12 0 8,eX 13 1 8,om 6 12,om 7 13]
(.seq (sR [om 14 7,bC 15 .neq 14 (ci 0)]
(cN 15
(sR [oo 16 (.bld (ao_ cQ_) []),om 17 7,sO 150 4 16,om 5 17]
.ret)
.skip))
(.seq (sR [om 18 6,oo 19 (.un .not (.t 18))]
(cN 19
(sR [lA 20 150 2,lA 21 67 3,kB 22 149 20 21,sO 150 4 22,oo 5 (.mv (ci 0))]
.ret)
.skip))
(.seq (sR [fA 23 113 2,fA 24 0 23,lF 25 1 24,lN 26 25,fA 27 0 2,fA 28 0 27,fA 29 2 28,lF 30 1 29,bI 31 .geq 26 30]
(cN 31
(sR [oo 32 (.bld (ao_ cQ_) []),sO 150 4 32,oo 5 (.mv (ci 11))]
.ret)
.skip))
(sR [fA 33 66 3,lF 34 1 33,oo 35 (.app 1 8 (.c (.sl 0 true [])) (.t 34)),fA 36 66 3,sO 1 36 35]
(.seq (.dreg [(fA 37 113 2,0),(fA 38 0 37,1),(lF 39 1 38,3),(oo 40 (.app 67 104 (.c (.sl 0 true [])) (.t 39)),7),(lA 41 67 3,0),(oo 42 (.bldS 67 1 (aX_ cI_) [(0,(.t 41))]),16),(oo 43 (.app 67 104 (.t 40) (.t 42)),63),(fA 44 113 2,127),(fA 45 0 44,255),(sO 1 45 43,511)])
(sR [lA 46 150 2,sO 150 4 46,oo 5 (.mv (ci 0))]
.ret))))))))
theorem vx_:as_ Tryz.prog 137=some (47,[.cell 4 true 150,.tmp 5],mp_):=by kernel_rfl
def oD_:ad_:=(sR [oo 2 (.box 150 (.t 0)),oo 3 (.box 70 (.t 1)),oo 4 (.new (ao_ cQ_)),oo 5 (.mv (ci 0))]
(.seq (.seq (.dreg [(lA 9 70 3,0),(lA 10 150 2,0),(kA 11 157 10,2),(kB 12 156 9 11,7),(om 6 12,15)])
(sR [om 13 6,bC 14 .neq 13 (ci 0)]
(cN 14
(sR [oo 15 (.bld (ao_ cQ_) []),om 16 6,sO 150 4 15,om 5 16]
.ret)
.skip)))
(.seq (.dreg [(fA 18 45 2,0),(fA 19 1 18,1),(lF 20 1 19,3),(lA 21 70 3,0),(kA 22 159 21,8),(kB 23 158 20 22,31),(om 17 23,63),(eX 24 0 17,127),(eX 25 1 17,127),(om 7 24,255),(om 8 25,1023)])
(.seq (sR [om 26 8,bC 27 .eql 26 (ci 0)]
(cN 27
(sR [oo 28 (.bld (ao_ cQ_) []),sO 150 4 28,oo 5 (.mv (ci 9))]
.ret)
.skip))
(sR [om 29 7,fA 30 45 2,fA 31 1 30,sO 1 31 29]
(sR [lA 32 150 2,sO 150 4 32,oo 5 (.mv (ci 0))]
.ret))))))
theorem yk_:as_ Tryz.prog 138=some (33,[.cell 4 true 150,.tmp 5],oD_):=by kernel_rfl
def kp_:ad_:=(sR [oo 2 (.box 150 (.t 0)),oo 3 (.box 34 (.t 1)),oo 4 (.new (ao_ cQ_)),oo 5 (.mv (ci 0))]
(.seq (.seq (.dreg [(lA 9 34 3,0),(lA 10 150 2,0),(kA 11 157 10,2),(kB 12 128 9 11,7),(om 6 12,15)])
(sR [om 13 6,bC 14 .neq 13 (ci 0)]
(cN 14
(sR [oo 15 (.bld (ao_ cQ_) []),om 16 6,sO 150 4 15,om 5 16]
.ret)
.skip)))
(.seq (sR [fA 17 0 3,fA 18 0 17,lF 19 1 18,fA 20 47 2,fA 21 0 20,fA 22 0 21,lF 23 1 22,bI 24 .lss 19 23]
(cN 24
(sR [oo 25 (.bld (ao_ cQ_) []),sO 150 4 25,oo 5 (.mv (ci 13))]
.ret)
.skip))
(.seq (.dreg [(fA 27 149 2,0),(lF 28 1 27,1),(lA 29 34 3,0),(lA 30 150 2,0),(kA 31 157 30,8),(fA 32 0 2,0),(fA 33 0 32,32),(fA 34 3 33,96),(lF 35 1 34,224),(oo 36 (.call (cf 160) [(.t 28),(.t 29),(.t 31),(.t 35)]),511),(om 26 36,1023),(eX 37 0 26,2047),(eX 38 1 26,2047),(om 7 37,4095),(om 8 38,16383)])
(.seq (sR [om 39 8,bC 40 .neq 39 (ci 0)]
(cN 40
(sR [oo 41 (.bld (ao_ cQ_) []),om 42 8,sO 150 4 41,om 5 42]
.ret)
.skip))
(sR [om 43 7,fA 44 149 2,sO 1 44 43]
(sR [lA 45 150 2,sO 150 4 45,oo 5 (.mv (ci 0))]
.ret)))))))
theorem sa_:as_ Tryz.prog 139=some (46,[.cell 4 true 150,.tmp 5],kp_):=by kernel_rfl
def qg_:ad_:=(sR [oo 1 (.box 150 (.t 0)),oo 2 (.mv (ci 0))]
(.seq (.dreg [(lA 7 150 1,0),(kA 8 165 7,1),(lA 9 150 1,0),(kA 10 166 9,7),(om 3 8,15),(om 4 10,31)])
(sR [fA 11 115 1,lA 12 1 11,fA 13 47 1,fA 14 0 13,fA 15 1 14,lA 16 32 15,kB 17 57 12 16,om 5 17]
(.block 0 (.loop (.block 1 (sR [fA 18 115 1,lA 19 1 18,om 20 3,om 21 4,om 22 5,oo 23 (.call (cf 167) [(.t 19),(.t 20),(.t 21),(.t 22)]),om 6 23]
(.seq (sR [om 24 6,bC 25 .lss 24 (ci 0)]
(cN 25
(sR [om 26 5,om 2 26]
.ret)
.skip))
(.reg [om 27 6,om 5 27])))))))))
theorem BX_:as_ Tryz.prog 144=some (28,[.tmp 2],qg_):=by kernel_rfl
def lC_:ad_:=(sR [oo 1 (.box 150 (.t 0)),oo 2 (.new (cT_ ug_))]
(sR [oo 3 (.new (cT_ ug_))]
(sR [oo 4 (.mv (cb false))]
(.seq (sR [oo 5 (.mv (ci 0))]
(.block 0 (.loop (.seq (sR [om 7 5,fA 8 115 1,fA 9 0 8,lF 10 1 9,lN 11 10,bI 12 .lss 7 11]
(cN 12
.skip
(.exit 0)))
(.seq (.block 1 (sR [fA 15 115 1,fA 16 0 15,lF 17 1 16,om 18 5,iX 19 240 17 18,lA 20 240 19,oo 6 (.new (cr_ sv_)),sO 240 6 20]
(.seq (sR [fA 21 239 6,lF 22 1 21,bC 23 .eql 22 (ci 2)]
(cN 23
(.exit 1)
.skip))
(.seq (sR [om 24 4,oo 25 (.un .not (.t 24)),om 26 25,og 27 (.fldA 0 (.t 6)) 26 false,og 28 (.fldA 0 (.t 27)) 26 false,og 29 (.fldA 0 (.t 28)) 26 false,og 30 (.fldA 0 (.t 29)) 26 false,og 31 (.ld false 1 (.t 30)) 26 false,og 32 (.fldA 0 (.t 3)) 26 false,og 33 (.fldA 0 (.t 32)) 26 false,og 34 (.ld false 1 (.t 33)) 26 false,og 35 (.bin .gtr (.t 31) (.t 34)) 26 false,oo 36 (.pick (.t 26) (cb true) (.t 35))]
(cN 36
(.reg [fA 37 0 6,fA 38 0 37,fA 39 0 38,lA 40 33 39,fA 41 0 3,sO 33 41 40])
.skip))
(.seq (sR [om 42 4,oo 43 (.un .not (.t 42)),om 44 43,og 45 (.fldA 0 (.t 6)) 44 false,og 46 (.fldA 0 (.t 45)) 44 false,og 47 (.fldA 33 (.t 46)) 44 false,og 48 (.fldA 0 (.t 47)) 44 false,og 49 (.ld false 1 (.t 48)) 44 false,og 50 (.fldA 33 (.t 3)) 44 false,og 51 (.fldA 0 (.t 50)) 44 false,og 52 (.ld false 1 (.t 51)) 44 false,og 53 (.bin .gtr (.t 49) (.t 52)) 44 false,oo 54 (.pick (.t 44) (cb true) (.t 53))]
(cN 54
(.reg [fA 55 0 6,fA 56 0 55,fA 57 33 56,lA 58 33 57,fA 59 33 3,sO 33 59 58])
.skip))
(.reg [oo 4 (.mv (cb true))]))))))
(.reg [om 13 5,bC 14 .add 13 (ci 1),om 5 14]))))))
(sR [lA 60 66 3,sO 66 2 60]
.ret)))))
theorem tK_:as_ Tryz.prog 146=some (61,[.cell 2 true 66],lC_):=by kernel_rfl
def bl_:ad_:=(sR [oo 3 (.box 150 (.t 0)),oo 4 (.box 33 (.t 1)),oo 5 (.box 33 (.t 2)),oo 6 (.new (ao_ cQ_))]
(sR [lA 16 150 3,lA 17 33 4,lA 18 33 5,kC 19 168 16 17 18,om 15 19,eX 20 0 15,eX 21 1 15,eX 22 2 15,oo 7 (.new (cpC cp0)),oo 8 (.new (cpC cp0)),sO 33 7 20,sO 33 8 21,om 9 22]
(.seq (sR [om 23 9,oo 24 (.un .not (.t 23))]
(cN 24
(sR [lA 25 150 3,sO 150 6 25]
.ret)
.skip))
(sR [fA 26 149 3,lF 27 1 26,fA 28 0 7,lF 29 1 28,kB 30 169 27 29,fA 31 149 3,sO 1 31 30]
(sR [lA 32 33 8,fA 33 47 3,fA 34 33 33,lA 35 33 34,oo 36 (.eqa [(33,1)] true (.t 32) (.t 35)),om 10 36]
(.seq (.dreg [(lA 37 33 7,0),(lA 38 33 8,0),(fA 39 47 3,1),(fA 40 0 39,5),(sO 33 40 37,13),(fA 41 47 3,31),(fA 42 33 41,63),(sO 33 42 38,127)])
(.seq (sR [om 43 10,oo 44 (.un .not (.t 43))]
(cN 44
(sR [lA 45 150 3,sO 150 6 45]
.ret)
.skip))
(.seq (.dreg [(fA 47 115 3,0),(lA 48 1 47,1),(fA 49 115 3,0),(lA 50 1 49,4),(fA 51 1 8,0),(lA 52 32 51,16),(kB 53 57 50 52,60),(kB 54 170 48 53,127),(om 46 54,255),(eX 55 0 46,511),(eX 56 1 46,511),(eX 57 2 46,511),(fA 58 115 3,1023),(sO 1 58 55,5119)])
(.seq (sR [fA 59 115 3,lA 60 1 59,fA 61 117 3,lA 62 32 61,kB 63 57 60 62,bC 64 .lss 63 (ci 0)]
(cN 64
(.reg [oo 65 (.bld (rtc rt0) []),fA 66 117 3,sO 32 66 65])
.skip))
(sR [lA 68 150 3,fA 69 0 8,lF 70 1 69,kB 71 171 68 70,om 67 71,eX 72 0 67,eX 73 1 67,om 11 72,om 12 73]
(sR [oo 13 (.mv (.c (.sl 0 true [])))]
(.seq (sR [oo 14 (.mv (ci 0))]
(.block 0 (.loop (.seq (sR [om 74 14,fA 75 113 3,fA 76 1 75,lF 77 1 76,lN 78 77,bI 79 .lss 74 78]
(cN 79
.skip
(.exit 0)))
(.seq (.block 1 (sR [fA 82 113 3,fA 83 1 82,lF 84 1 83,om 85 14,iX 86 238 84 85,fA 87 66 86,lF 88 1 87,om 89 11,bI 90 .gtr 88 89]
(cN 90
(.reg [om 91 13,fA 92 113 3,fA 93 1 92,lF 94 1 93,om 95 14,iX 96 238 94 95,lA 97 238 96,oo 98 (.bldS 238 1 (aw_ bj_) [(0,(.t 97))]),oo 99 (.app 238 336 (.t 91) (.t 98)),om 13 99])
.skip)))
(.reg [om 80 14,bC 81 .add 80 (ci 1),om 14 81]))))))
(sR [om 100 13,fA 101 113 3,fA 102 1 101,sO 1 102 100]
(sR [lA 103 150 3,sO 150 6 103]
.ret))))))))))))))
theorem vA_:as_ Tryz.prog 147=some (104,[.cell 6 true 150],bl_):=by kernel_rfl
def aP_:ad_:=(sR [oo 2 (.box 150 (.t 0)),oo 3 (.box 67 (.t 1)),oo 4 (.mv (cb false)),oo 5 (.mv (ci 0))]
(.seq (.seq (.dreg [(fA 12 66 3,0),(lF 13 1 12,1),(lA 14 150 2,0),(kA 15 157 14,4),(kB 16 39 13 15,15),(om 6 16,31)])
(sR [om 17 6,bC 18 .neq 17 (ci 0)]
(cN 18
(sR [om 19 6,oo 4 (.mv (cb false)),om 5 19]
.ret)
.skip)))
(sR [lA 20 150 2,fA 21 116 2,lF 22 1 21,kB 23 172 20 22,om 7 23]
(.seq (.seq (.dreg [(fA 24 33 3,0),(fA 25 0 24,1),(lF 26 1 25,3),(lA 27 150 2,0),(fA 28 0 3,0),(lF 29 1 28,16),(kB 30 172 27 29,56),(bI 31 .neq 26 30,127),(om 32 31,255),(og 33 (.fldA 33 (.t 3)) 32 false,511),(og 34 (.fldA 0 (.t 33)) 32 false,1023),(og 35 (.ld false 1 (.t 34)) 32 false,2047),(omg 36 7 32 false,511),(og 37 (.bin .neq (.t 35) (.t 36)) 32 false,8191),(omg 38 37 32 false,16383),(omg 39 7 38 true,32767),(og 40 (.bin .eql (.t 39) (cu 0)) 38 true,65535),(omg 41 40 38 true,131071),(og 42 (.fldA 33 (.t 3)) 41 false,262143),(og 43 (.fldA 0 (.t 42)) 41 false,524287),(og 44 (.ld false 1 (.t 43)) 41 false,1048575),(omg 45 7 41 false,262143),(og 46 (.bin .sub (.t 45) (cu 1)) 41 false,2359295),(og 47 (.bin .neq (.t 44) (.t 46)) 41 false,8388607),(og 48 (.pick (.t 41) (cb true) (.t 47)) 38 true,16777215),(og 49 (.pick (.t 38) (.t 48) (cb false)) 32 false,33554431),(oo 50 (.pick (.t 32) (cb true) (.t 49)),67108863)])
(cN 50
(sR [oo 4 (.mv (cb false)),oo 5 (.mv (ci 18))]
.ret)
.skip))
(.seq (.dreg [(fA 51 115 2,0),(lA 52 1 51,1),(fA 53 1 3,0),(lA 54 32 53,4),(kB 55 57 52 54,15),(fA 56 115 2,0),(lA 57 1 56,32),(fA 58 33 3,0),(fA 59 1 58,128),(lA 60 32 59,384),(kB 61 57 57 60,1023),(om 8 55,2047),(om 9 61,4095)])
(.seq (sR [om 62 8,bC 63 .lss 62 (ci 0),om 64 63,omg 65 9 64 false,og 66 (.bin .lss (.t 65) (ci 0)) 64 false,oo 67 (.pick (.t 64) (cb true) (.t 66))]
(cN 67
(sR [oo 4 (.mv (cb false)),oo 5 (.mv (ci 10))]
.ret)
.skip))
(.seq (.seq (.dreg [(fA 68 115 2,0),(fA 69 0 68,1),(lF 70 1 69,3),(om 71 8,0),(iX 72 240 70 71,15),(fA 73 0 72,31),(fA 74 66 73,63),(lF 75 1 74,127),(fA 76 0 3,0),(lF 77 1 76,256),(bI 78 .gtr 75 77,1023)])
(cN 78
(sR [oo 4 (.mv (cb false)),oo 5 (.mv (ci 14))]
.ret)
.skip))
(sR [lA 80 150 2,fA 81 33 3,fA 82 0 81,lF 83 1 82,kB 84 171 80 83,om 79 84,eX 85 0 79,eX 86 1 79,om 10 85,om 11 86]
(.seq (sR [fA 87 115 2,lA 88 1 87,om 89 8,om 90 10,kC 91 73 88 89 90,om 92 9,bI 93 .neq 91 92]
(cN 93
(sR [oo 4 (.mv (cb false)),oo 5 (.mv (ci 19))]
.ret)
.skip))
(sR [fA 94 0 3,lF 95 1 94,fA 96 116 2,lF 97 1 96,bI 98 .geq 95 97,om 4 98,oo 5 (.mv (ci 0))]
.ret))))))))))
theorem jR_:as_ Tryz.prog 148=some (99,[.tmp 4,.tmp 5],aP_):=by kernel_rfl
def ik_:ad_:=(sR [oo 2 (.box 150 (.t 0)),oo 3 (.box 67 (.t 1)),oo 4 (.new (ao_ cQ_))]
(sR [fA 6 45 2,fA 7 0 6,lF 8 1 7,fA 9 33 3,fA 10 0 9,lF 11 1 10,fA 12 1 3,lA 13 32 12,fA 14 66 3,lF 15 1 14,oo 16 (.call (cf 173) [(.t 8),(.t 11),(.t 13),(.t 15)]),om 5 16,eX 17 0 5,eX 18 1 5,fA 19 45 2,fA 20 0 19,sO 1 20 17]
(sR [lA 21 150 2,sO 150 4 21]
.ret)))
theorem mN_:as_ Tryz.prog 149=some (22,[.cell 4 true 150],ik_):=by kernel_rfl
def il_:ad_:=(sR [oo 2 (.box 150 (.t 0)),oo 3 (.box 238 (.t 1)),oo 4 (.mv (ci 0))]
(sR [lA 9 150 2,fA 10 47 2,fA 11 33 10,fA 12 0 11,lF 13 1 12,kB 14 171 9 13,om 8 14,eX 15 0 8,eX 16 1 8,om 5 15,om 6 16]
(.seq (.block 0 (sR [fA 18 67 3,lA 19 32 18,oo 20 (.bld (rtc rt0) []),oo 21 (.eqa [(32,1)] false (.t 19) (.t 20)),om 17 21]
(cN 17
(sR [oo 4 (.mv (ci 2))]
.ret)
(sR [lA 23 150 2,fA 24 67 3,lA 25 32 24,kB 26 174 23 25,om 22 26]
(cN 22
(sR [oo 4 (.mv (ci 9))]
.ret)
(sR [fA 28 66 3,lF 29 1 28,fA 30 116 2,lF 31 1 30,bI 32 .gtr 29 31,om 27 32]
(cN 27
(sR [oo 4 (.mv (ci 12))]
.ret)
(sR [fA 34 66 3,lF 35 1 34,om 36 5,bI 37 .leq 35 36,om 33 37]
(cN 33
(sR [oo 4 (.mv (ci 13))]
.ret)
.skip)))))))))
(sR [fA 38 115 2,lA 39 1 38,fA 40 99 3,lA 41 32 40,kB 42 57 39 41,om 7 42]
(.seq (.block 1 (sR [om 44 7,bC 45 .lss 44 (ci 0),om 43 45]
(cN 43
(sR [oo 4 (.mv (ci 10))]
.ret)
(.seq (.dreg [(fA 47 66 3,0),(lF 48 1 47,1),(fA 49 115 2,0),(fA 50 0 49,4),(lF 51 1 50,12),(om 52 7,0),(iX 53 240 51 52,60),(fA 54 0 53,124),(fA 55 66 54,252),(lF 56 1 55,508),(bI 57 .leq 48 56,1023),(om 46 57,2047)])
(cN 46
(sR [oo 4 (.mv (ci 14))]
.ret)
(sR [fA 59 115 2,fA 60 0 59,lF 61 1 60,om 62 7,iX 63 240 61 62,fA 64 239 63,lF 65 1 64,bC 66 .eql 65 (ci 2),om 58 66]
(cN 58
(sR [oo 4 (.mv (ci 15))]
.ret)
(sR [lA 68 150 2,lA 69 238 3,kB 70 175 68 69,oo 71 (.un .not (.t 70)),om 67 71]
(cN 67
(sR [oo 4 (.mv (ci 16))]
.ret)
(.seq (.dreg [(fA 73 0 2,0),(fA 74 8 73,1),(lA 75 4 74,3),(fA 76 115 2,0),(fA 77 0 76,8),(lF 78 1 77,24),(om 79 7,0),(iX 80 240 78 79,120),(fA 81 0 80,248),(lA 82 238 81,504),(lA 83 238 3,0),(kC 84 176 75 82 83,2047),(oo 85 (.un .not (.t 84)),4095),(om 72 85,8191)])
(cN 72
(sR [oo 4 (.mv (ci 17))]
.ret)
(sR [fA 87 115 2,fA 88 0 87,lF 89 1 88,lN 90 89,fA 91 0 2,fA 92 0 91,fA 93 0 92,lF 94 1 93,bI 95 .geq 90 94,om 86 95]
(cN 86
(sR [oo 4 (.mv (ci 11))]
.ret)
.skip)))))))))))))
(sR [oo 4 (.mv (ci 0))]
.ret))))))
theorem pl_:as_ Tryz.prog 153=some (96,[.tmp 4],il_):=by kernel_rfl
def ms_:ad_:=(sR [oo 2 (.box 150 (.t 0)),oo 3 (.box 238 (.t 1)),oo 4 (.new (ao_ cQ_))]
(.seq (.dreg [(fA 6 115 2,0),(lA 7 1 6,1),(lA 8 238 3,0),(lA 9 238 3,0),(kA 10 178 9,8),(kC 11 177 7 8 10,31),(om 5 11,63),(eX 12 0 5,127),(eX 13 1 5,127),(fA 14 115 2,255),(sO 1 14 12,767)])
(sR [lA 15 150 2,fA 16 171 3,lA 17 33 16,fA 18 204 3,lA 19 33 18,kC 20 147 15 17 19,sO 150 2 20]
(.seq (.seq (.dreg [(lA 21 150 2,0),(fA 22 66 3,0),(lF 23 1 22,2),(kB 24 172 21 23,7),(lA 25 150 2,0),(fA 26 116 2,0),(lF 27 1 26,32),(kB 28 172 25 27,127),(bI 29 .lss 24 28,255)])
(cN 29
(.reg [lA 30 150 2,fA 31 0 3,fA 32 0 31,lA 33 33 32,fA 34 0 3,fA 35 33 34,lA 36 33 35,kC 37 147 30 33 36,sO 150 2 37])
.skip))
(sR [lA 38 150 2,sO 150 4 38]
.ret)))))
theorem vB_:as_ Tryz.prog 154=some (39,[.cell 4 true 150],ms_):=by kernel_rfl
def lF_:ad_:=(sR [oo 1 (.box 150 (.t 0)),oo 2 (.mv (ci 0))]
(.seq (sR [oo 3 (.mv (ci 0))]
(.block 0 (.loop (.seq (sR [om 4 3,fA 5 113 1,fA 6 1 5,lF 7 1 6,lN 8 7,bI 9 .lss 4 8]
(cN 9
.skip
(.exit 0)))
(.seq (.block 1 (.seq (.dreg [(fA 12 115 1,0),(lA 13 1 12,1),(fA 14 113 1,0),(fA 15 1 14,4),(lF 16 1 15,12),(om 17 3,0),(iX 18 238 16 17,60),(fA 19 99 18,124),(lA 20 32 19,252),(kB 21 57 13 20,511),(bC 22 .geq 21 (ci 0),1023)])
(cN 22
(sR [om 23 3,om 2 23]
.ret)
.skip)))
(.reg [om 10 3,bC 11 .add 10 (ci 1),om 3 11]))))))
(sR [oo 2 (.mv (ci (-1)))]
.ret)))
theorem tN_:as_ Tryz.prog 155=some (24,[.tmp 2],lF_):=by kernel_rfl
def im_:ad_:=(sR [oo 1 (.box 150 (.t 0)),oo 2 (.mv (ci 0))]
(sR [fA 3 0 1,fA 4 44 3,lF 5 1 4,lN 6 5,om 2 6]
.ret))
theorem pm_:as_ Tryz.prog 157=some (7,[.tmp 2],im_):=by kernel_rfl
def lD_:ad_:=(sR [oo 1 (.box 150 (.t 0)),oo 2 (.mv (.c (.sl 0 true [])))]
(sR [lA 9 150 1,kA 10 189 9,om 3 10]
(sR [om 12 3,kA 13 143 12,om 11 13,eX 14 0 11,eX 15 1 11,om 4 14,om 5 15]
(sR [fA 17 0 1,lA 18 45 17,om 19 4,kB 20 190 18 19,om 16 20,eX 21 0 16,eX 22 1 16,om 6 21,om 7 22]
(sR [fA 23 115 1,lA 24 1 23,fA 25 45 1,lA 26 2 25,om 27 3,kC 28 191 24 26 27,om 8 28]
(.seq (.dreg [(fA 29 115 1,0),(lA 30 1 29,1),(fA 31 115 1,0),(lA 32 1 31,4),(om 33 8,0),(fA 34 117 1,0),(lA 35 32 34,32),(om 36 6,0),(oo 37 (.call (cf 193) [(.t 32),(.t 33),(.t 35),(.t 36)]),252),(kB 38 192 30 37,511),(om 2 38,1023)])
.ret))))))
theorem tL_:as_ Tryz.prog 165=some (39,[.tmp 2],lD_):=by kernel_rfl
def qh_:ad_:=(sR [oo 1 (.box 150 (.t 0)),oo 2 (.mv (.c (.sl 0 true [])))]
(sR [oo 3 (.mv (.c (.sl 0 true [])))]
(.seq (sR [oo 4 (.mv (ci 0))]
(.block 0 (.loop (.seq (sR [om 5 4,fA 6 115 1,fA 7 0 6,lF 8 1 7,lN 9 8,bI 10 .lss 5 9]
(cN 10
.skip
(.exit 0)))
(.seq (.block 1 (.reg [om 13 3,lA 14 150 1,om 15 4,kB 16 194 14 15,oo 17 (.bldS 1 1 [(.bool false)] [(0,(.t 16))]),oo 18 (.app 1 1 (.t 13) (.t 17)),om 3 18]))
(.reg [om 11 4,bC 12 .add 11 (ci 1),om 4 12]))))))
(sR [om 19 3,om 2 19]
.ret))))
theorem BY_:as_ Tryz.prog 166=some (20,[.tmp 2],qh_):=by kernel_rfl
def mq_:ad_:=(sR [oo 4 (.box 1 (.t 0)),oo 8 (.mv (ci 0))]
(sR [oo 9 (.mv (ci (-1)))]
(sR [lA 13 1 4,om 14 3,kB 15 195 13 14,om 10 15]
(.seq (sR [oo 11 (.mv (ci 0))]
(.block 0 (.loop (.seq (sR [om 16 11,om 17 10,lN 18 17,bI 19 .lss 16 18]
(cN 19
.skip
(.exit 0)))
(.seq (.block 1 (sR [om 22 10,om 23 11,iX 24 1 22 23,lF 25 1 24,om 12 25]
(.seq (.dreg [(om 26 2,0),(om 27 12,0),(iX 28 1 26 27,3),(lF 29 1 28,7),(om 30 29,15),(omg 31 9 30 true,31),(og 32 (.bin .lss (.t 31) (ci 0)) 30 true,63),(omg 33 32 30 true,127),(omg 34 1 33 false,255),(omg 35 12 33 false,255),(og 36 (.idxS 1 (.t 34) (.t 35)) 33 false,1023),(og 37 (.ld false 1 (.t 36)) 33 false,2047),(omg 38 1 33 false,255),(omg 39 9 33 false,255),(og 40 (.idxS 1 (.t 38) (.t 39)) 33 false,12543),(og 41 (.ld false 1 (.t 40)) 33 false,28927),(og 42 (.bin .gtr (.t 37) (.t 41)) 33 false,65535),(og 43 (.pick (.t 33) (cb true) (.t 42)) 30 true,131071),(omg 44 43 30 true,262143),(omg 45 1 44 false,524287),(omg 46 12 44 false,524287),(og 47 (.idxS 1 (.t 45) (.t 46)) 44 false,2097151),(og 48 (.ld false 1 (.t 47)) 44 false,4194303),(omg 49 1 44 false,524287),(omg 50 9 44 false,524287),(og 51 (.idxS 1 (.t 49) (.t 50)) 44 false,25690111),(og 52 (.ld false 1 (.t 51)) 44 false,59244543),(og 53 (.bin .eql (.t 48) (.t 52)) 44 false,134217727),(omg 54 53 44 false,268435455),(og 55 (.fldA 0 (.t 4)) 54 true,536870911),(og 56 (.ld false 1 (.t 55)) 54 true,1073741823),(omg 57 12 54 true,536870911),(og 58 (.idxS 240 (.t 56) (.t 57)) 54 true,4294967295),(og 59 (.fldA 0 (.t 58)) 54 true,8589934591),(og 60 (.fldA 67 (.t 59)) 54 true,17179869183),(og 61 (.ld true 32 (.t 60)) 54 true,34359738367),(og 62 (.fldA 0 (.t 4)) 54 true,536870911),(og 63 (.ld false 1 (.t 62)) 54 true,69256347647),(omg 64 9 54 true,536870911),(og 65 (.idxS 240 (.t 63) (.t 64)) 54 true,481573208063),(og 66 (.fldA 0 (.t 65)) 54 true,1031329021951),(og 67 (.fldA 67 (.t 66)) 54 true,2130840649727),(og 68 (.ld true 32 (.t 67)) 54 true,4329863905279),(og 69 (.call (cf 196) [(.t 61),(.t 68)]) 54 true,8796093022207),(og 70 (.bin .gtr (.t 69) (ci 0)) 54 true,17592186044415),(og 71 (.pick (.t 54) (.t 70) (cb false)) 44 false,35184372088831),(og 72 (.pick (.t 44) (cb true) (.t 71)) 30 true,70368744177663),(oo 73 (.pick (.t 30) (.t 72) (cb false)),140737488355327)])
(cN 73
(.reg [om 74 12,om 9 74])
.skip))))
(.reg [om 20 11,bC 21 .add 20 (ci 1),om 11 21]))))))
(sR [om 75 9,om 8 75]
.ret)))))
theorem vy_:as_ Tryz.prog 167=some (76,[.tmp 8],mq_):=by kernel_rfl
def bu_:ad_:=(sR [oo 3 (.box 150 (.t 0)),oo 4 (.box 33 (.t 1)),oo 5 (.box 33 (.t 2)),oo 6 (.new (cpC cp0)),oo 7 (.new (cpC cp0)),oo 8 (.mv (cb false))]
(.seq (.dreg [(fA 13 47 3,0),(fA 14 0 13,1),(lA 15 33 14,3),(fA 16 47 3,0),(fA 17 33 16,8),(lA 18 33 17,24),(oo 9 (.new (cpC cp0)),0),(oo 10 (.new (cpC cp0)),0),(sO 33 9 15,199),(sO 33 10 18,511)])
(.seq (sR [fA 19 0 4,lF 20 1 19,fA 21 0 9,lF 22 1 21,bI 23 .gtr 20 22]
(cN 23
(.reg [lA 24 33 4,sO 33 9 24])
.skip))
(.seq (sR [fA 25 0 5,lF 26 1 25,fA 27 0 10,lF 28 1 27,bI 29 .gtr 26 28]
(cN 29
(.reg [lA 30 33 5,sO 33 10 30])
.skip))
(.seq (.dreg [(fA 31 115 3,0),(lA 32 1 31,1),(fA 33 1 9,0),(lA 34 32 33,4),(kB 35 57 32 34,15),(fA 36 115 3,0),(lA 37 1 36,32),(fA 38 1 10,0),(lA 39 32 38,128),(kB 40 57 37 39,511),(om 11 35,1023),(om 12 40,2047)])
(.seq (.seq (.dreg [(om 41 11,0),(bC 42 .lss 41 (ci 0),1),(om 43 42,3),(omg 44 12 43 false,7),(og 45 (.bin .lss (.t 44) (ci 0)) 43 false,15),(oo 46 (.pick (.t 43) (cb true) (.t 45)),31),(om 47 46,63),(og 48 (.fldA 115 (.t 3)) 47 false,127),(og 49 (.fldA 0 (.t 48)) 47 false,255),(og 50 (.ld false 1 (.t 49)) 47 false,511),(omg 51 11 47 false,127),(og 52 (.idxS 240 (.t 50) (.t 51)) 47 false,2047),(og 53 (.fldA 239 (.t 52)) 47 false,4095),(og 54 (.ld false 1 (.t 53)) 47 false,8191),(og 55 (.bin .eql (.t 54) (ci 2)) 47 false,16383),(oo 56 (.pick (.t 47) (cb true) (.t 55)),32767),(om 57 56,65535),(og 58 (.fldA 115 (.t 3)) 57 false,131071),(og 59 (.fldA 0 (.t 58)) 57 false,262143),(og 60 (.ld false 1 (.t 59)) 57 false,524287),(omg 61 12 57 false,131071),(og 62 (.idxS 240 (.t 60) (.t 61)) 57 false,2097151),(og 63 (.fldA 239 (.t 62)) 57 false,4194303),(og 64 (.ld false 1 (.t 63)) 57 false,8388607),(og 65 (.bin .eql (.t 64) (ci 2)) 57 false,16777215),(oo 66 (.pick (.t 57) (cb true) (.t 65)),33554431),(om 67 66,67108863),(og 68 (.ld true 150 (.t 3)) 67 false,134217727),(omg 69 11 67 false,134217727),(og 70 (.fldA 0 (.t 9)) 67 false,134217727),(og 71 (.ld false 1 (.t 70)) 67 false,671088639),(og 72 (.call (cf 197) [(.t 68),(.t 69),(.t 71)]) 67 false,2147483647),(og 73 (.un .not (.t 72)) 67 false,4294967295),(oo 74 (.pick (.t 67) (cb true) (.t 73)),8589934591),(om 75 74,17179869183),(og 76 (.ld true 150 (.t 3)) 75 false,34359738367),(omg 77 12 75 false,34359738367),(og 78 (.fldA 0 (.t 10)) 75 false,34359738367),(og 79 (.ld false 1 (.t 78)) 75 false,171798691839),(og 80 (.call (cf 197) [(.t 76),(.t 77),(.t 79)]) 75 false,549755813887),(og 81 (.un .not (.t 80)) 75 false,1099511627775),(oo 82 (.pick (.t 75) (cb true) (.t 81)),2199023255551),(om 83 82,4398046511103),(og 84 (.fldA 115 (.t 3)) 83 false,8796093022207),(og 85 (.ld true 1 (.t 84)) 83 false,17592186044415),(omg 86 12 83 false,8796093022207),(omg 87 11 83 false,8796093022207),(og 88 (.call (cf 187) [(.t 85),(.t 86),(.t 87)]) 83 false,140737488355327),(og 89 (.un .not (.t 88)) 83 false,281474976710655),(oo 90 (.pick (.t 83) (cb true) (.t 89)),562949953421311),(om 91 90,1125899906842623),(og 92 (.fldA 0 (.t 10)) 91 false,2251799813685247),(og 93 (.ld false 1 (.t 92)) 91 false,4503599627370495),(og 94 (.fldA 0 (.t 9)) 91 false,2251799813685247),(og 95 (.ld false 1 (.t 94)) 91 false,11258999068426239),(og 96 (.bin .gtr (.t 93) (.t 95)) 91 false,36028797018963967),(oo 97 (.pick (.t 91) (cb true) (.t 96)),72057594037927935),(om 98 97,144115188075855871),(og 99 (.fldA 0 (.t 9)) 98 false,288230376151711743),(og 100 (.ld false 1 (.t 99)) 98 false,576460752303423487),(og 101 (.ld true 150 (.t 3)) 98 false,288230376151711743),(og 102 (.fldA 116 (.t 3)) 98 false,288230376151711743),(og 103 (.ld false 1 (.t 102)) 98 false,2594073385365405695),(og 104 (.call (cf 172) [(.t 101),(.t 103)]) 98 false,8358680908399640575),(og 105 (.bin .gtr (.t 100) (.t 104)) 98 false,18446744073709551615),(oo 106 (.pick (.t 98) (cb true) (.t 105)),36893488147419103231),(om 107 106,73786976294838206463),(og 108 (.fldA 149 (.t 3)) 107 false,147573952589676412927),(og 109 (.ld false 1 (.t 108)) 107 false,295147905179352825855),(og 110 (.ld true 33 (.t 9)) 107 false,147573952589676412927),(og 111 (.call (cf 182) [(.t 109),(.t 110)]) 107 false,1180591620717411303423),(og 112 (.bin .lss (.t 111) (ci 0)) 107 false,2361183241434822606847),(oo 113 (.pick (.t 107) (cb true) (.t 112)),4722366482869645213695)])
(cN 113
(sR [oo 114 (.bld (cpC cp0) []),oo 115 (.bld (cpC cp0) []),sO 33 6 114,sO 33 7 115,oo 8 (.mv (cb false))]
.ret)
.skip))
(.seq (.dreg [(lA 116 33 9,0),(lA 117 33 10,0),(sO 33 6 116,1),(sO 33 7 117,7),(oo 8 (.mv (cb true)),15)])
.ret)))))))
theorem qL_:as_ Tryz.prog 168=some (118,[.cell 6 true 33,.cell 7 true 33,.tmp 8],bu_):=by kernel_rfl
def oG_:ad_:=(sR [oo 2 (.box 150 (.t 0)),oo 4 (.mv (cu 0)),oo 5 (.mv (cb false))]
(sR [om 9 1,fA 10 0 2,fA 11 6 10,lF 12 1 11,kB 13 198 9 12,om 8 13,eX 14 0 8,eX 15 1 8,om 6 14,om 7 15]
(sR [om 16 6,om 17 7,bC 18 .eql 17 (ci 0),om 4 16,om 5 18]
.ret)))
theorem yn_:as_ Tryz.prog 171=some (19,[.tmp 4,.tmp 5],oG_):=by kernel_rfl
def oF_:ad_:=(sR [oo 2 (.box 150 (.t 0)),oo 4 (.mv (cu 0))]
(sR [om 5 1,fA 6 0 2,fA 7 6 6,lF 8 1 7,bI 9 .quo 5 8,om 4 9]
.ret))
theorem ym_:as_ Tryz.prog 172=some (10,[.tmp 4],oF_):=by kernel_rfl
def oC_:ad_:=(sR [oo 2 (.box 150 (.t 0)),oo 3 (.box 32 (.t 1)),oo 4 (.mv (cb false))]
(.seq (sR [oo 5 (.mv (ci 0))]
(.block 0 (.loop (.seq (sR [om 6 5,fA 7 113 2,fA 8 1 7,lF 9 1 8,lN 10 9,bI 11 .lss 6 10]
(cN 11
.skip
(.exit 0)))
(.seq (.block 1 (.seq (.dreg [(fA 14 113 2,0),(fA 15 1 14,1),(lF 16 1 15,3),(om 17 5,0),(iX 18 238 16 17,15),(fA 19 67 18,31),(lA 20 32 19,63),(lA 21 32 3,0),(oo 22 (.eqa [(32,1)] false (.t 20) (.t 21)),255)])
(cN 22
(sR [oo 4 (.mv (cb true))]
.ret)
.skip)))
(.reg [om 12 5,bC 13 .add 12 (ci 1),om 5 13]))))))
(sR [fA 23 115 2,lA 24 1 23,lA 25 32 3,kB 26 57 24 25,bC 27 .geq 26 (ci 0),om 4 27]
.ret)))
theorem yj_:as_ Tryz.prog 174=some (28,[.tmp 4],oC_):=by kernel_rfl
def qf_:ad_:=(sR [oo 2 (.box 150 (.t 0)),oo 3 (.box 238 (.t 1)),oo 4 (.mv (cb false))]
(sR [fA 12 115 2,lA 13 1 12,fA 14 99 3,lA 15 32 14,kB 16 57 13 15,om 5 16]
(.seq (sR [om 17 5,bC 18 .lss 17 (ci 0)]
(cN 18
(sR [oo 4 (.mv (cb false))]
.ret)
.skip))
(.seq (sR [lA 19 150 2,lA 20 238 3,kB 21 199 19 20,oo 22 (.un .not (.t 21))]
(cN 22
(sR [oo 4 (.mv (cb false))]
.ret)
.skip))
(sR [fA 23 171 3,lA 24 33 23,fA 25 204 3,lA 26 33 25,fA 27 0 3,fA 28 0 27,lA 29 33 28,fA 30 0 3,fA 31 33 30,lA 32 33 31,oo 33 (.bldS 33 4 (cpC cp0) [(0,(.t 24)),(1,(.t 26)),(2,(.t 29)),(3,(.t 32))]),om 6 33]
(.seq (sR [oo 7 (.mv (ci 0))]
(.block 0 (.loop (.seq (sR [om 34 7,om 35 6,lN 36 35,bI 37 .lss 34 36]
(cN 37
.skip
(.exit 0)))
(.seq (.block 1 (.seq (.seq (.dreg [(om 40 6,0),(om 41 7,0),(iX 42 33 40 41,3),(fA 43 0 42,7),(lF 44 1 43,15),(fA 45 47 2,0),(fA 46 33 45,32),(fA 47 0 46,96),(lF 48 1 47,224),(bI 49 .leq 44 48,511)])
(cN 49
(.exit 1)
.skip))
(.seq (.dreg [(lA 51 150 2,0),(om 52 6,0),(om 53 7,0),(iX 54 33 52 53,6),(fA 55 0 54,14),(lF 56 1 55,30),(kB 57 171 51 56,63),(om 50 57,127),(eX 58 0 50,255),(eX 59 1 50,255),(om 8 58,511),(om 9 59,2047)])
(sR [fA 60 67 3,lA 61 32 60,oo 10 (.new (rtc rt0)),sO 32 10 61]
(.seq (sR [fA 62 66 3,lF 63 1 62,om 64 8,bI 65 .gtr 63 64]
(cN 65
(sR [fA 66 115 2,lA 67 1 66,om 68 5,om 69 8,kC 70 73 67 68 69,om 11 70]
(.seq (sR [om 71 11,bC 72 .lss 71 (ci 0)]
(cN 72
(sR [oo 4 (.mv (cb false))]
.ret)
.skip))
(.reg [fA 73 115 2,fA 74 0 73,lF 75 1 74,om 76 11,iX 77 240 75 76,fA 78 0 77,fA 79 67 78,lA 80 32 79,sO 32 10 80])))
.skip))
(.seq (.dreg [(lA 81 32 10,0),(om 82 6,0),(om 83 7,0),(iX 84 33 82 83,6),(fA 85 1 84,14),(lA 86 32 85,30),(oo 87 (.eqa [(32,1)] true (.t 81) (.t 86)),63)])
(cN 87
(sR [oo 4 (.mv (cb false))]
.ret)
.skip)))))))
(.reg [om 38 7,bC 39 .add 38 (ci 1),om 7 39]))))))
(sR [oo 4 (.mv (cb true))]
.ret)))))))
theorem BW_:as_ Tryz.prog 175=some (88,[.tmp 4],qf_):=by kernel_rfl
def ko_:ad_:=(sR [oo 1 (.box 150 (.t 0)),oo 2 (.mv (.c (.sl 0 true [])))]
(sR [fA 4 149 1,lF 5 1 4,fA 6 47 1,fA 7 0 6,lA 8 33 7,kB 9 182 5 8,om 3 9]
(.seq (sR [om 10 3,bC 11 .lss 10 (ci 0)]
(cN 11
(sR [oo 2 (.mv (.c (.sl 0 true [])))]
.ret)
.skip))
(sR [fA 12 149 1,lF 13 1 12,om 14 3,iX 15 34 13 14,fA 16 33 15,lF 17 1 16,om 2 17]
.ret))))
theorem rZ_:as_ Tryz.prog 189=some (18,[.tmp 2],ko_):=by kernel_rfl
def qj_:ad_:=(sR [oo 2 (.box 150 (.t 0)),oo 4 (.mv (cb false))]
(.seq (sR [lA 7 150 2,om 8 1,kB 9 207 7 8]
(cN 9
(sR [oo 4 (.mv (cb true))]
.ret)
.skip))
(sR [fA 10 115 2,lA 11 1 10,om 12 1,kB 13 195 11 12,om 5 13]
(.seq (sR [oo 6 (.mv (ci 0))]
(.block 0 (.loop (.seq (sR [om 14 6,om 15 5,lN 16 15,bI 17 .lss 14 16]
(cN 17
.skip
(.exit 0)))
(.seq (.block 1 (.seq (.dreg [(lA 20 150 2,0),(om 21 5,0),(om 22 6,0),(iX 23 1 21 22,6),(lF 24 1 23,14),(kB 25 194 20 24,31)])
(cN 25
(sR [oo 4 (.mv (cb true))]
.ret)
.skip)))
(.reg [om 18 6,bC 19 .add 18 (ci 1),om 6 19]))))))
(sR [oo 4 (.mv (cb false))]
.ret)))))
theorem Ca_:as_ Tryz.prog 194=some (26,[.tmp 4],qj_):=by kernel_rfl
def oE_:ad_:=(sR [oo 3 (.box 150 (.t 0)),oo 6 (.mv (cb false))]
(sR [lA 10 150 3,om 11 2,kB 12 171 10 11,om 9 12,eX 13 0 9,eX 14 1 9,om 7 13,om 8 14]
(sR [om 15 8,oo 16 (.un .not (.t 15)),om 17 16,og 18 (.fldA 115 (.t 3)) 17 false,og 19 (.fldA 0 (.t 18)) 17 false,og 20 (.ld false 1 (.t 19)) 17 false,omg 21 1 17 false,og 22 (.idxS 240 (.t 20) (.t 21)) 17 false,og 23 (.fldA 0 (.t 22)) 17 false,og 24 (.fldA 66 (.t 23)) 17 false,og 25 (.ld false 1 (.t 24)) 17 false,omg 26 7 17 false,og 27 (.bin .leq (.t 25) (.t 26)) 17 false,oo 28 (.pick (.t 17) (cb true) (.t 27)),om 6 28]
.ret)))
theorem yl_:as_ Tryz.prog 197=some (29,[.tmp 6],oE_):=by kernel_rfl
def lE_:ad_:=(sR [oo 2 (.box 150 (.t 0)),oo 3 (.box 238 (.t 1)),oo 4 (.mv (cb false))]
(.seq (.dreg [(fA 9 171 3,0),(fA 10 0 9,1),(lF 11 1 10,3),(fA 12 204 3,0),(fA 13 0 12,8),(lF 14 1 13,24),(fA 15 0 3,0),(fA 16 0 15,64),(fA 17 0 16,192),(lF 18 1 17,448),(fA 19 0 3,0),(fA 20 33 19,1024),(fA 21 0 20,3072),(lF 22 1 21,7168),(om 5 11,7),(om 6 14,16447),(om 7 18,50175),(om 8 22,131071)])
(sR [om 23 6,om 24 5,bI 25 .leq 23 24,om 26 25,omg 27 5 26 true,omg 28 7 26 true,og 29 (.bin .leq (.t 27) (.t 28)) 26 true,oo 30 (.pick (.t 26) (.t 29) (cb false)),om 31 30,omg 32 6 31 true,omg 33 8 31 true,og 34 (.bin .leq (.t 32) (.t 33)) 31 true,oo 35 (.pick (.t 31) (.t 34) (cb false)),om 36 35,omg 37 8 36 true,omg 38 7 36 true,og 39 (.bin .leq (.t 37) (.t 38)) 36 true,oo 40 (.pick (.t 36) (.t 39) (cb false)),om 41 40,omg 42 7 41 true,og 43 (.ld true 150 (.t 2)) 41 true,og 44 (.fldA 66 (.t 3)) 41 true,og 45 (.ld false 1 (.t 44)) 41 true,og 46 (.call (cf 172) [(.t 43),(.t 45)]) 41 true,og 47 (.bin .leq (.t 42) (.t 46)) 41 true,oo 48 (.pick (.t 41) (.t 47) (cb false)),om 4 48]
.ret)))
theorem tM_:as_ Tryz.prog 199=some (49,[.tmp 4],lE_):=by kernel_rfl
def jp_:ad_:=(sR [oo 2 (.box 150 (.t 0)),oo 4 (.mv (cb false))]
(.seq (sR [lA 6 150 2,om 7 1,kB 8 211 6 7,oo 9 (.un .not (.t 8)),om 10 9,og 11 (.fldA 115 (.t 2)) 10 false,og 12 (.fldA 0 (.t 11)) 10 false,og 13 (.ld false 1 (.t 12)) 10 false,omg 14 1 10 false,og 15 (.idxS 240 (.t 13) (.t 14)) 10 false,og 16 (.fldA 239 (.t 15)) 10 false,og 17 (.ld false 1 (.t 16)) 10 false,og 18 (.bin .eql (.t 17) (ci 2)) 10 false,oo 19 (.pick (.t 10) (cb true) (.t 18))]
(cN 19
(sR [oo 4 (.mv (cb false))]
.ret)
.skip))
(sR [lA 20 150 2,om 21 1,kB 22 212 20 21,oo 23 (.fld false 0 1 (.t 22)),om 5 23]
(sR [fA 24 47 2,fA 25 0 24,fA 26 0 25,lF 27 1 26,bC 28 .eql 27 (cu 0),om 29 28,omg 30 5 29 false,og 31 (.fldA 47 (.t 2)) 29 false,og 32 (.fldA 0 (.t 31)) 29 false,og 33 (.fldA 0 (.t 32)) 29 false,og 34 (.ld false 1 (.t 33)) 29 false,og 35 (.bin .eql (.t 30) (.t 34)) 29 false,oo 36 (.pick (.t 29) (cb true) (.t 35)),om 37 36,omg 38 5 37 false,og 39 (.ld true 150 (.t 2)) 37 false,og 40 (.fldA 116 (.t 2)) 37 false,og 41 (.ld false 1 (.t 40)) 37 false,og 42 (.call (cf 172) [(.t 39),(.t 41)]) 37 false,og 43 (.bin .geq (.t 38) (.t 42)) 37 false,oo 44 (.pick (.t 37) (cb true) (.t 43)),om 45 44,og 46 (.ld true 150 (.t 2)) 45 false,og 47 (.fldA 116 (.t 2)) 45 false,og 48 (.ld false 1 (.t 47)) 45 false,og 49 (.call (cf 172) [(.t 46),(.t 48)]) 45 false,omg 50 5 45 false,og 51 (.bin .sub (.t 49) (.t 50)) 45 false,og 52 (.bin .leq (.t 51) (cu 2)) 45 false,oo 53 (.pick (.t 45) (cb true) (.t 52)),om 4 53]
.ret))))
theorem qM_:as_ Tryz.prog 207=some (54,[.tmp 4],jp_):=by kernel_rfl
def vd_:ad_:=(sR [oo 2 (.box 150 (.t 0)),oo 4 (.mv (cb false))]
(sR [om 5 1,bC 6 .geq 5 (ci 0),om 7 6,omg 8 1 7 true,og 9 (.fldA 115 (.t 2)) 7 true,og 10 (.fldA 0 (.t 9)) 7 true,og 11 (.ld false 1 (.t 10)) 7 true,og 12 (.len false (.t 11)) 7 true,og 13 (.bin .lss (.t 8) (.t 12)) 7 true,oo 14 (.pick (.t 7) (.t 13) (cb false)),om 4 14]
.ret))
theorem Gz_:as_ Tryz.prog 211=some (15,[.tmp 4],vd_):=by kernel_rfl
def mr_:ad_:=(sR [oo 2 (.box 150 (.t 0)),oo 4 (.new (cpC cp0))]
(.seq (sR [lA 6 150 2,om 7 1,kB 8 211 6 7,oo 9 (.un .not (.t 8))]
(cN 9
(sR [oo 10 (.bld (cpC cp0) []),sO 33 4 10]
.ret)
.skip))
(sR [fA 11 115 2,fA 12 0 11,lF 13 1 12,om 14 1,iX 15 240 13 14,lA 16 240 15,oo 5 (.new (cr_ sv_)),sO 240 5 16]
(.seq (.seq (.dreg [(lA 17 150 2,0),(fA 18 0 5,0),(fA 19 66 18,2),(lF 20 1 19,6),(kB 21 172 17 20,15),(lA 22 150 2,0),(fA 23 116 2,0),(lF 24 1 23,64),(kB 25 172 22 24,255),(bI 26 .lss 21 25,511)])
(cN 26
(sR [fA 27 0 5,fA 28 0 27,fA 29 0 28,lA 30 33 29,sO 33 4 30]
.ret)
.skip))
(sR [fA 31 0 5,fA 32 171 31,lA 33 33 32,sO 33 4 33]
.ret)))))
theorem vz_:as_ Tryz.prog 212=some (34,[.cell 4 true 33],mr_):=by kernel_rfl
def oI_:ad_:=(sR [oo 1 (.box 45 (.t 0)),oo 2 (.new (aB_ dG_)),oo 3 (.mv (.c (.sl 0 true []))),oo 4 (.mv (ci 0))]
(sR [lA 10 45 1,kA 11 112 10,om 9 11,eX 12 0 9,eX 13 1 9,oo 5 (.new (ao_ cQ_)),sO 150 5 12,om 6 13]
(.seq (sR [om 14 6,bC 15 .neq 14 (ci 0)]
(cN 15
(sR [oo 16 (.bld (aB_ dG_) []),om 17 6,sO 252 2 16,oo 3 (.mv (.c (.sl 0 true []))),om 4 17]
.ret)
.skip))
(sR [lA 19 150 5,oo 20 (.bld (aB_ dG_) [(0,150,(.t 19)),(152,1,(cu 1))]),kA 21 113 20,om 18 21,eX 22 0 18,eX 23 1 18,oo 7 (.new (aB_ dG_)),sO 252 7 22,om 8 23]
(sR [lA 24 252 7,om 25 8,sO 252 2 24,om 3 25,oo 4 (.mv (ci 0))]
.ret)))))
theorem yp_:as_ Tryz.prog 68=some (26,[.cell 2 true 252,.tmp 3,.tmp 4],oI_):=by kernel_rfl
def qn_:ad_:=(sR [oo 2 (.box 252 (.t 0)),oo 3 (.box 446 (.t 1)),oo 4 (.new (aB_ dG_)),oo 5 (.mv (.c (.sl 0 true []))),oo 6 (.mv (ci 0))]
(.seq (sR [fA 12 251 2,lF 13 1 12]
(cN 13
(sR [lA 14 252 2,sO 252 4 14,oo 5 (.mv (.c (.sl 0 true []))),oo 6 (.mv (ci 22))]
.ret)
.skip))
(.seq (sR [lA 15 446 3,kA 16 20 15,om 7 16]
(sR [om 17 7,bC 18 .neq 17 (ci 0)]
(cN 18
(sR [lA 19 252 2,om 20 7,sO 252 4 19,oo 5 (.mv (.c (.sl 0 true []))),om 6 20]
.ret)
.skip)))
(sR [lA 22 252 2,lA 23 446 3,kB 24 114 22 23,om 21 24,eX 25 0 21,eX 26 1 21,oo 8 (.new (aB_ dG_)),sO 252 8 25,om 9 26]
(.seq (sR [om 27 9,bC 28 .eql 27 (ci 21)]
(cN 28
(sR [lA 29 252 8,om 30 9,sO 252 4 29,oo 5 (.mv (.c (.sl 0 true []))),om 6 30]
.ret)
.skip))
(.seq (sR [om 31 9,bC 32 .neq 31 (ci 0)]
(cN 32
(sR [lA 33 252 2,om 34 9,sO 252 4 33,oo 5 (.mv (.c (.sl 0 true []))),om 6 34]
.ret)
.skip))
(sR [lA 36 252 8,kA 37 113 36,om 35 37,eX 38 0 35,eX 39 1 35,oo 10 (.new (aB_ dG_)),sO 252 10 38,om 11 39]
(sR [lA 40 252 10,om 41 11,sO 252 4 40,om 5 41,oo 6 (.mv (ci 0))]
.ret))))))))
theorem Cf_:as_ Tryz.prog 71=some (42,[.cell 4 true 252,.tmp 5,.tmp 6],qn_):=by kernel_rfl
def fL_:ad_:=(sR [oo 1 (.box 252 (.t 0)),oo 2 (.new (aB_ dG_)),oo 3 (.mv (.c (.sl 0 true [])))]
(sR [fA 5 0 1,lA 6 150 5,kA 7 131 6,oo 4 (.new (cL_ qt_)),sO 96 4 7]
(.seq (sR [fA 8 153 1,lF 9 1 8,om 10 9,og 11 (.fldA 154 (.t 1)) 10 true,og 12 (.ld true 96 (.t 11)) 10 true,og 13 (.ld true 96 (.t 4)) 10 true,og 14 (.eqa [(96,1)] false (.t 12) (.t 13)) 10 true,oo 15 (.pick (.t 10) (.t 14) (cb false))]
(cN 15
(sR [lA 16 252 1,sO 252 2 16,oo 3 (.mv (.c (.sl 0 true [])))]
.ret)
.skip))
(.seq (.dreg [(lA 17 96 4,0),(fA 18 153 1,0),(on (.sto 1 (.t 18) (cb true)),2),(fA 19 154 1,7),(sO 96 19 17,15)])
(.seq (.dreg [(lA 20 252 1,0),(lA 21 96 4,0),(oo 22 (.bldS 96 1 (cL_ qt_) [(0,(.t 21))]),2),(sO 252 2 20,1),(om 3 22,15)])
.ret)))))
theorem Cc_:as_ Tryz.prog 113=some (23,[.cell 2 true 252,.tmp 3],fL_):=by kernel_rfl
def lI_:ad_:=(sR [oo 2 (.box 252 (.t 0)),oo 3 (.box 446 (.t 1)),oo 4 (.new (aB_ dG_)),oo 5 (.mv (ci 0))]
(sR [lA 9 252 2,oo 6 (.new (aB_ dG_)),sO 252 6 9]
(sR [oo 7 (.mv (ci 0))]
(.seq (sR [fA 10 0 3,lF 11 1 10]
(.block 0 (sR [bC 13 .eql 11 (ci 1),om 12 13]
(cN 12
(sR [fA 15 0 2,lA 16 150 15,kA 17 132 16,om 14 17,eX 18 0 14,eX 19 1 14,fA 20 0 6,sO 150 20 18,om 7 19]
(sR [om 21 7,bC 22 .eql 21 (ci 0)]
(cN 22
(.reg [lA 23 252 6,kA 24 134 23,kA 25 133 24,sO 252 6 25])
.skip)))
(sR [bC 27 .eql 11 (ci 2),om 26 27]
(cN 26
(sR [oo 8 (.mv (.c (.sl 0 true [])))]
(sR [fA 29 0 2,lA 30 150 29,fA 31 1 3,lA 32 238 31,kB 33 135 30 32,om 28 33,eX 34 0 28,eX 35 1 28,eX 36 2 28,fA 37 0 6,sO 150 37 34,om 8 35,om 7 36]
(sR [om 38 7,bC 39 .eql 38 (ci 0)]
(cN 39
(.reg [lA 40 252 6,kA 41 134 40,om 42 8,kB 43 136 41 42,sO 252 6 43])
.skip))))
(sR [bC 45 .eql 11 (ci 3),om 44 45]
(cN 44
(.reg [fA 47 0 2,lA 48 150 47,fA 49 239 3,lA 50 67 49,kB 51 137 48 50,om 46 51,eX 52 0 46,eX 53 1 46,fA 54 0 6,sO 150 54 52,om 7 53])
(sR [bC 56 .eql 11 (ci 4),om 55 56]
(cN 55
(.reg [fA 58 0 2,lA 59 150 58,fA 60 306 3,lA 61 70 60,kB 62 138 59 61,om 57 62,eX 63 0 57,eX 64 1 57,fA 65 0 6,sO 150 65 63,om 7 64])
(sR [bC 67 .eql 11 (ci 5),om 66 67]
(cN 66
(.reg [fA 69 0 2,lA 70 150 69,fA 71 376 3,lA 72 34 71,kB 73 139 70 72,om 68 73,eX 74 0 68,eX 75 1 68,fA 76 0 6,sO 150 76 74,om 7 75])
(sR [bC 78 .eql 11 (ci 6),om 77 78]
(cN 77
(sR [lA 79 252 2,fA 80 410 3,lA 81 34 80,kB 82 140 79 81,eX 83 0 82,eX 84 1 82,sO 252 4 83,om 5 84]
.ret)
(.reg [oo 7 (.mv (ci 2))])))))))))))))))
(sR [lA 85 252 6,om 86 7,sO 252 4 85,om 5 86]
.ret)))))
theorem tQ_:as_ Tryz.prog 114=some (87,[.cell 4 true 252,.tmp 5],lI_):=by kernel_rfl
def lH_:ad_:=(sR [oo 1 (.box 150 (.t 0)),oo 2 (.new (cL_ qt_))]
(.seq (.dreg [(fA 3 115 1,0),(fA 4 0 3,1),(lF 5 1 4,3),(lA 6 150 1,0),(kA 7 144 6,8),(iX 8 240 5 7,31),(fA 9 0 8,63),(fA 10 67 9,127),(lA 11 32 10,255),(lA 12 150 1,0),(kA 13 145 12,536),(fA 14 47 1,0),(fA 15 33 14,2048),(fA 16 1 15,6144),(lA 17 32 16,14336),(oo 18 (.bld (cL_ qt_) [(0,32,(.t 11)),(32,32,(.t 13)),(64,32,(.t 17))]),32767),(sO 96 2 18,65535)])
.ret))
theorem tP_:as_ Tryz.prog 131=some (19,[.cell 2 true 96],lH_):=by kernel_rfl
def sZ_:ad_:=(sR [oo 1 (.box 252 (.t 0)),oo 2 (.new (aB_ dG_))]
(sR [fA 5 151 1,lF 6 1 5,om 3 6]
(sR [fA 7 151 1,on (.sto 1 (.t 7) (.c (.sl 0 true [])))]
(.seq (sR [oo 4 (.mv (ci 0))]
(.block 0 (.loop (.seq (sR [om 8 4,om 9 3,lN 10 9,bI 11 .lss 8 10]
(cN 11
.skip
(.exit 0)))
(.seq (.block 1 (.seq (.dreg [(om 14 3,0),(om 15 4,0),(iX 16 35 14 15,3),(fA 17 34 16,7),(lF 18 1 17,15),(fA 19 0 1,0),(fA 20 116 19,32),(lF 21 1 20,96),(bI 22 .gtr 18 21,255)])
(cN 22
(.dreg [(fA 23 151 1,0),(lF 24 1 23,1),(om 25 3,0),(om 26 4,0),(iX 27 35 25 26,12),(lA 28 35 27,28),(oo 29 (.bldS 35 1 (aO_ hr_) [(0,(.t 28))]),60),(oo 30 (.app 35 56 (.t 24) (.t 29)),127),(fA 31 151 1,255),(sO 1 31 30,511)])
(.seq (.dreg [(lA 32 252 1,0),(om 33 3,0),(om 34 4,0),(iX 35 35 33 34,6),(fA 36 1 35,14),(lA 37 32 36,30),(kB 38 150 32 37,63)])
(cN 38
(.dreg [(lA 39 252 1,0),(om 40 3,0),(om 41 4,0),(iX 42 35 40 41,6),(fA 43 1 42,14),(lA 44 32 43,30),(om 45 3,0),(om 46 4,0),(iX 47 35 45 46,192),(fA 48 33 47,448),(lF 49 1 48,960),(kC 50 151 39 44 49,2047),(sO 252 1 50,4095)])
.skip)))))
(.reg [om 12 4,bC 13 .add 12 (ci 1),om 4 13]))))))
(sR [lA 51 252 1,sO 252 2 51]
.ret)))))
theorem Ee_:as_ Tryz.prog 133=some (52,[.cell 2 true 252],sZ_):=by kernel_rfl
def qk_:ad_:=(sR [oo 1 (.box 252 (.t 0)),oo 2 (.new (aB_ dG_))]
(.seq (.dreg [(lA 3 252 1,0),(fA 4 150 1,0),(lF 5 1 4,2),(kB 6 152 3 5,7),(lA 7 252 1,0),(fA 8 151 1,0),(lF 9 1 8,32),(kB 10 152 7 9,127),(fA 11 150 1,127),(sO 1 11 6,511),(fA 12 151 1,1023),(sO 1 12 10,2047)])
(sR [lA 13 252 1,sO 252 2 13]
.ret)))
theorem Cb_:as_ Tryz.prog 134=some (14,[.cell 2 true 252],qk_):=by kernel_rfl
def ql_:ad_:=(sR [oo 2 (.box 252 (.t 0)),oo 4 (.new (aB_ dG_))]
(.seq (sR [oo 5 (.mv (ci 0))]
(.block 0 (.loop (.seq (sR [om 6 5,om 7 1,lN 8 7,bI 9 .lss 6 8]
(cN 9
.skip
(.exit 0)))
(.seq (.block 1 (.seq (.dreg [(lA 12 252 2,0),(om 13 1,0),(om 14 5,0),(iX 15 32 13 14,6),(lA 16 32 15,14),(kB 17 150 12 16,31)])
(cN 17
(.dreg [(lA 18 252 2,0),(om 19 1,0),(om 20 5,0),(iX 21 32 19 20,6),(lA 22 32 21,14),(oo 23 (.call (cf 151) [(.t 18),(.t 22),(ci 0)]),31),(sO 252 2 23,63)])
.skip)))
(.reg [om 10 5,bC 11 .add 10 (ci 1),om 5 11]))))))
(sR [lA 24 252 2,sO 252 4 24]
.ret)))
theorem Cd_:as_ Tryz.prog 136=some (25,[.cell 4 true 252],ql_):=by kernel_rfl
def lJ_:ad_:=(sR [oo 2 (.box 252 (.t 0)),oo 3 (.box 34 (.t 1)),oo 4 (.new (aB_ dG_)),oo 5 (.mv (ci 0))]
(sR [lA 13 252 2,lA 14 34 3,kB 15 161 13 14,om 12 15,eX 16 0 12,eX 17 1 12,eX 18 2 12,oo 6 (.new (aO_ hr_)),oo 7 (.new (aB_ dG_)),sO 35 6 16,sO 252 7 17,om 8 18]
(.seq (sR [om 19 8,bC 20 .neq 19 (ci 0)]
(cN 20
(sR [lA 21 252 2,om 22 8,sO 252 4 21,om 5 22]
.ret)
.skip))
(.seq (sR [fA 23 1 3,lF 24 1 23,bC 25 .eql 24 (ci 3),om 26 25,og 27 (.fldA 1 (.t 3)) 26 false,og 28 (.ld false 1 (.t 27)) 26 false,og 29 (.bin .eql (.t 28) (ci 4)) 26 false,oo 30 (.pick (.t 26) (cb true) (.t 29))]
(cN 30
(sR [lA 31 252 7,lA 32 35 6,kB 33 162 31 32,sO 252 4 33,oo 5 (.mv (ci 0))]
.ret)
.skip))
(.seq (.dreg [(fA 34 0 7,0),(fA 35 115 34,1),(lA 36 1 35,3),(fA 37 0 7,0),(fA 38 47 37,8),(fA 39 0 38,24),(fA 40 1 39,56),(lA 41 32 40,120),(kB 42 57 36 41,255),(fA 43 0 7,0),(fA 44 115 43,512),(lA 45 1 44,1536),(fA 46 0 7,0),(fA 47 47 46,4096),(fA 48 33 47,12288),(fA 49 1 48,28672),(lA 50 32 49,61440),(kB 51 57 45 50,131071),(oo 52 (.bldS 1 2 [(.int .i64 (0))] [(0,(.t 42)),(1,(.t 51))]),262143),(om 9 52,524287)])
(.seq (.dreg [(fA 54 0 7,0),(fA 55 115 54,1),(lA 56 1 55,3),(fA 57 0 7,0),(fA 58 115 57,8),(lA 59 1 58,24),(fA 60 1 6,0),(lA 61 32 60,64),(kB 62 57 59 61,248),(lA 63 34 3,0),(om 64 9,0),(oo 65 (.call (cf 163) [(.t 56),(.t 62),(.t 63),(.t 64)]),2047),(om 53 65,4095),(eX 66 0 53,8191),(eX 67 1 53,8191),(oo 10 (.new [(.sl 0 true [])]),0),(sO 1 10 66,49151),(om 8 67,131071)])
(.seq (sR [om 68 8,bC 69 .neq 68 (ci 0)]
(cN 69
(sR [fA 70 251 2,on (.sto 1 (.t 70) (cb true))]
(sR [lA 71 252 2,sO 252 4 71,oo 5 (.mv (ci 21))]
.ret))
.skip))
(sR [lA 72 1 10,fA 73 0 7,fA 74 115 73,sO 1 74 72]
(.seq (sR [lA 75 1 10,fA 76 0 7,fA 77 117 76,lA 78 32 77,kB 79 57 75 78,om 11 79]
(sR [om 80 11,bC 81 .geq 80 (ci 0),om 82 81,og 83 (.fldA 0 (.t 10)) 82 true,og 84 (.ld false 1 (.t 83)) 82 true,omg 85 11 82 true,og 86 (.idxS 240 (.t 84) (.t 85)) 82 true,og 87 (.fldA 239 (.t 86)) 82 true,og 88 (.ld false 1 (.t 87)) 82 true,og 89 (.bin .eql (.t 88) (ci 2)) 82 true,oo 90 (.pick (.t 82) (.t 89) (cb false))]
(cN 90
(.reg [oo 91 (.bld (rtc rt0) []),fA 92 0 7,fA 93 117 92,sO 32 93 91])
.skip)))
(sR [lA 94 252 7,sO 252 4 94,oo 5 (.mv (ci 0))]
.ret))))))))))
theorem tR_:as_ Tryz.prog 140=some (95,[.cell 4 true 252,.tmp 5],lJ_):=by kernel_rfl
def qm_:ad_:=(sR [oo 1 (.box 150 (.t 0)),oo 2 (.new (rtc rt0))]
(sR [fA 4 115 1,lA 5 1 4,fA 6 47 1,fA 7 0 6,fA 8 1 7,lA 9 32 8,kB 10 57 5 9,om 3 10]
(.seq (sR [om 11 3,bC 12 .geq 11 (ci 0),om 13 12,og 14 (.fldA 115 (.t 1)) 13 true,og 15 (.fldA 0 (.t 14)) 13 true,og 16 (.ld false 1 (.t 15)) 13 true,omg 17 3 13 true,og 18 (.idxS 240 (.t 16) (.t 17)) 13 true,og 19 (.fldA 239 (.t 18)) 13 true,og 20 (.ld false 1 (.t 19)) 13 true,og 21 (.bin .eql (.t 20) (ci 1)) 13 true,oo 22 (.pick (.t 13) (.t 21) (cb false))]
(cN 22
(sR [fA 23 47 1,fA 24 0 23,fA 25 1 24,lA 26 32 25,sO 32 2 26]
.ret)
.skip))
(sR [oo 27 (.bld (rtc rt0) []),sO 32 2 27]
.ret))))
theorem Ce_:as_ Tryz.prog 145=some (28,[.cell 2 true 32],qm_):=by kernel_rfl
def in_:ad_:=(sR [oo 2 (.box 252 (.t 0)),oo 3 (.box 32 (.t 1)),oo 4 (.mv (cb false))]
(sR [fA 6 0 2,fA 7 115 6,lA 8 1 7,lA 9 32 3,kB 10 57 8 9,om 5 10]
(sR [om 11 5,bC 12 .geq 11 (ci 0),om 13 12,og 14 (.fldA 0 (.t 2)) 13 true,og 15 (.fldA 115 (.t 14)) 13 true,og 16 (.fldA 0 (.t 15)) 13 true,og 17 (.ld false 1 (.t 16)) 13 true,omg 18 5 13 true,og 19 (.idxS 240 (.t 17) (.t 18)) 13 true,og 20 (.fldA 239 (.t 19)) 13 true,og 21 (.ld false 1 (.t 20)) 13 true,og 22 (.bin .eql (.t 21) (ci 0)) 13 true,oo 23 (.pick (.t 13) (.t 22) (cb false)),om 4 23]
.ret)))
theorem pn_:as_ Tryz.prog 150=some (24,[.tmp 4],in_):=by kernel_rfl
def kY_:ad_:=(sR [oo 3 (.box 252 (.t 0)),oo 4 (.box 32 (.t 1)),oo 6 (.new (aB_ dG_))]
(sR [fA 8 152 3,lF 9 1 8,oo 10 (.bld [(.int .u64 (0))] [(0,1,(.t 9))]),lA 11 32 4,om 12 2,oo 13 (.bld (aO_ hr_) [(0,1,(.t 10)),(1,32,(.t 11)),(33,1,(.t 12))]),oo 7 (.new (aO_ hr_)),sO 35 7 13]
(.seq (.dreg [(fA 14 150 3,0),(lF 15 1 14,1),(oo 16 (.app 35 56 (.c (.sl 0 true [])) (.t 15)),3),(lA 17 35 7,0),(oo 18 (.bldS 35 1 (aO_ hr_) [(0,(.t 17))]),8),(oo 19 (.app 35 56 (.t 16) (.t 18)),31),(fA 20 150 3,63),(sO 1 20 19,127)])
(sR [fA 21 152 3,lF 22 1 21,bC 23 .add 22 (cu 1),fA 24 152 3,sO 1 24 23]
(sR [lA 25 252 3,sO 252 6 25]
.ret)))))
theorem qN_:as_ Tryz.prog 151=some (26,[.cell 6 true 252],kY_):=by kernel_rfl
def oL_:ad_:=(sR [oo 2 (.box 252 (.t 0)),oo 4 (.mv (.c (.sl 0 true [])))]
(sR [oo 5 (.mv (.c (.sl 0 true [])))]
(.seq (sR [oo 6 (.mv (ci 0))]
(.block 0 (.loop (.seq (sR [om 7 6,om 8 1,lN 9 8,bI 10 .lss 7 9]
(cN 10
.skip
(.exit 0)))
(.seq (.block 1 (.seq (.dreg [(fA 13 0 2,0),(fA 14 115 13,1),(lA 15 1 14,3),(om 16 1,0),(om 17 6,0),(iX 18 35 16 17,24),(fA 19 1 18,56),(lA 20 32 19,120),(kB 21 57 15 20,255),(bC 22 .geq 21 (ci 0),511)])
(cN 22
(.reg [om 23 5,om 24 1,om 25 6,iX 26 35 24 25,lA 27 35 26,oo 28 (.bldS 35 1 (aO_ hr_) [(0,(.t 27))]),oo 29 (.app 35 56 (.t 23) (.t 28)),om 5 29])
.skip)))
(.reg [om 11 6,bC 12 .add 11 (ci 1),om 6 12]))))))
(sR [om 30 5,om 4 30]
.ret))))
theorem yt_:as_ Tryz.prog 152=some (31,[.tmp 4],oL_):=by kernel_rfl
def oK_:ad_:=(sR [oo 2 (.box 252 (.t 0)),oo 3 (.box 34 (.t 1)),oo 4 (.new (aO_ hr_)),oo 5 (.new (aB_ dG_)),oo 6 (.mv (ci 0))]
(.seq (sR [oo 7 (.mv (ci 0))]
(.block 0 (.loop (.seq (sR [om 9 7,fA 10 150 2,lF 11 1 10,lN 12 11,bI 13 .lss 9 12]
(cN 13
.skip
(.exit 0)))
(.seq (.block 1 (.seq (.dreg [(fA 16 150 2,0),(lF 17 1 16,1),(om 18 7,0),(iX 19 35 17 18,7),(fA 20 0 19,15),(fA 21 0 20,31),(lF 22 1 21,63),(fA 23 0 3,0),(fA 24 0 23,128),(lF 25 1 24,384),(bI 26 .eql 22 25,1023)])
(cN 26
(sR [fA 27 150 2,lF 28 1 27,om 29 7,iX 30 35 28 29,lA 31 35 30,oo 8 (.new (aO_ hr_)),sO 35 8 31]
(.seq (.dreg [(fA 32 150 2,0),(lF 33 1 32,1),(om 34 7,0),(oo 35 (.sli 35 (.t 33) none (some (.t 34)) none),7),(oo 36 (.app 35 56 (.c (.sl 0 true [])) (.t 35)),15),(fA 37 150 2,0),(lF 38 1 37,32),(om 39 7,0),(bC 40 .add 39 (ci 1),128),(oo 41 (.sli 35 (.t 38) (some (.t 40)) none none),480),(oo 42 (.app 35 56 (.t 36) (.t 41)),1023),(fA 43 150 2,2047),(sO 1 43 42,4095)])
(.seq (.dreg [(lA 44 35 8,0),(lA 45 252 2,0),(sO 35 4 44,1),(sO 252 5 45,7),(oo 6 (.mv (ci 0)),15)])
.ret)))
.skip)))
(.reg [om 14 7,bC 15 .add 14 (ci 1),om 7 15]))))))
(sR [oo 46 (.bld (aO_ hr_) []),oo 47 (.bld (aB_ dG_) []),sO 35 4 46,sO 252 5 47,oo 6 (.mv (ci 23))]
.ret)))
theorem ys_:as_ Tryz.prog 161=some (48,[.cell 4 true 35,.cell 5 true 252,.tmp 6],oK_):=by kernel_rfl
def bM_:ad_:=(sR [oo 2 (.box 252 (.t 0)),oo 3 (.box 35 (.t 1)),oo 4 (.new (aB_ dG_))]
(.seq (sR [lA 7 252 2,fA 8 1 3,lA 9 32 8,kB 10 150 7 9,oo 11 (.un .not (.t 10))]
(cN 11
(sR [lA 12 252 2,sO 252 4 12]
.ret)
.skip))
(.seq (sR [fA 13 151 2,lF 14 1 13,lN 15 14,fA 16 0 2,fA 17 0 16,fA 18 0 17,fA 19 4 18,lF 20 1 19,bI 21 .geq 15 20]
(cN 21
(sR [fA 22 250 2,on (.sto 1 (.t 22) (cb true))]
(sR [lA 23 252 2,sO 252 4 23]
.ret))
.skip))
(sR [fA 24 33 3,lF 25 1 24,bC 26 .add 25 (ci 1),fA 27 33 3,sO 1 27 26]
(.seq (.dreg [(fA 28 0 2,0),(fA 29 116 28,1),(lF 30 1 29,3),(fA 31 33 3,0),(lF 32 1 31,8),(fA 33 0 2,0),(fA 34 0 33,32),(fA 35 0 34,96),(fA 36 5 35,224),(lF 37 1 36,480),(kB 38 184 32 37,1016),(bI 39 .add 30 38,2047),(fA 40 34 3,4095),(sO 1 40 39,8191)])
(.seq (.dreg [(fA 41 151 2,0),(lF 42 1 41,1),(oo 43 (.app 35 56 (.c (.sl 0 true [])) (.t 42)),3),(lA 44 35 3,0),(oo 45 (.bldS 35 1 (aO_ hr_) [(0,(.t 44))]),8),(oo 46 (.app 35 56 (.t 43) (.t 45)),31),(om 5 46,63)])
(.seq (sR [om 47 5,lN 48 47,bC 49 .sub 48 (ci 1),om 6 49]
(.block 0 (.loop (.seq (.seq (.dreg [(om 50 6,0),(bC 51 .gtr 50 (ci 0),1),(om 52 51,3),(omg 53 5 52 true,7),(omg 54 6 52 true,7),(og 55 (.idxS 35 (.t 53) (.t 54)) 52 true,31),(og 56 (.fldA 34 (.t 55)) 52 true,63),(og 57 (.ld false 1 (.t 56)) 52 true,127),(omg 58 5 52 true,7),(omg 59 6 52 true,7),(og 60 (.bin .sub (.t 59) (ci 1)) 52 true,519),(og 61 (.idxS 35 (.t 58) (.t 60)) 52 true,1799),(og 62 (.fldA 34 (.t 61)) 52 true,3847),(og 63 (.ld false 1 (.t 62)) 52 true,7943),(og 64 (.bin .lss (.t 57) (.t 63)) 52 true,16383),(omg 65 64 52 true,32767),(omg 66 5 65 false,65535),(omg 67 6 65 false,65535),(og 68 (.idxS 35 (.t 66) (.t 67)) 65 false,262143),(og 69 (.fldA 34 (.t 68)) 65 false,524287),(og 70 (.ld false 1 (.t 69)) 65 false,1048575),(omg 71 5 65 false,65535),(omg 72 6 65 false,65535),(og 73 (.bin .sub (.t 72) (ci 1)) 65 false,4259839),(og 74 (.idxS 35 (.t 71) (.t 73)) 65 false,14745599),(og 75 (.fldA 34 (.t 74)) 65 false,31522815),(og 76 (.ld false 1 (.t 75)) 65 false,65077247),(og 77 (.bin .eql (.t 70) (.t 76)) 65 false,134217727),(omg 78 77 65 false,268435455),(omg 79 5 78 true,536870911),(omg 80 6 78 true,536870911),(og 81 (.idxS 35 (.t 79) (.t 80)) 78 true,2147483647),(og 82 (.fldA 0 (.t 81)) 78 true,4294967295),(og 83 (.fldA 0 (.t 82)) 78 true,8589934591),(og 84 (.ld false 1 (.t 83)) 78 true,17179869183),(omg 85 5 78 true,536870911),(omg 86 6 78 true,536870911),(og 87 (.bin .sub (.t 86) (ci 1)) 78 true,69256347647),(og 88 (.idxS 35 (.t 85) (.t 87)) 78 true,241055039487),(og 89 (.fldA 0 (.t 88)) 78 true,515932946431),(og 90 (.fldA 0 (.t 89)) 78 true,1065688760319),(og 91 (.ld false 1 (.t 90)) 78 true,2165200388095),(og 92 (.bin .lss (.t 84) (.t 91)) 78 true,4398046511103),(og 93 (.pick (.t 78) (.t 92) (cb false)) 65 false,8796093022207),(og 94 (.pick (.t 65) (cb true) (.t 93)) 52 true,17592186044415),(oo 95 (.pick (.t 52) (.t 94) (cb false)),35184372088831)])
(cN 95
.skip
(.exit 0)))
(.seq (.block 1 (.dreg [(om 98 5,0),(om 99 6,0),(om 100 5,0),(om 101 6,0),(bC 102 .sub 101 (ci 1),8),(om 103 5,0),(om 104 6,0),(bC 105 .sub 104 (ci 1),64),(iX 106 35 103 105,224),(lA 107 35 106,480),(om 108 5,0),(om 109 6,0),(iX 110 35 108 109,3072),(lA 111 35 110,7168),(iX 112 35 98 99,16355),(sO 35 112 107,32739),(iX 113 35 100 102,65535),(sO 35 113 111,131071)]))
(.reg [om 96 6,bC 97 .sub 96 (ci 1),om 6 97]))))))
(sR [om 114 5,fA 115 151 2,sO 1 115 114]
(sR [lA 116 252 2,sO 252 4 116]
.ret)))))))))
theorem yr_:as_ Tryz.prog 162=some (117,[.cell 4 true 252],bM_):=by kernel_rfl
def oJ_:ad_:=(sR [oo 4 (.mv (cu 0))]
(.seq (sR [om 7 1,bC 8 .eql 7 (cu 0)]
(cN 8
(sR [oo 4 (.mv (cu 0))]
.ret)
.skip))
(sR [oo 5 (.mv (cu 1))]
(.seq (sR [oo 6 (.mv (ci 1))]
(.block 0 (.loop (.seq (sR [om 9 6,om 10 0,bI 11 .lss 9 10]
(cN 11
.skip
(.exit 0)))
(.seq (.block 1 (.seq (sR [om 14 1,om 15 5,bI 16 .sub 14 15,om 17 5,bI 18 .leq 16 17]
(cN 18
(sR [om 19 1,om 4 19]
.ret)
.skip))
(.reg [om 20 5,oo 21 (.bin .mul (cu 2) (.t 20)),om 5 21])))
(.reg [om 12 6,bC 13 .add 12 (ci 1),om 6 13]))))))
(sR [om 22 5,om 4 22]
.ret)))))
theorem yq_:as_ Tryz.prog 184=some (23,[.tmp 4],oJ_):=by kernel_rfl
def qa_:ad_:=(sR [oo 2 (.new (aB_ dG_))]
(sR [om 7 0,kA 8 30 7,om 6 8,eX 9 0 6,eX 10 1 6,eX 11 2 6,oo 3 (.new (bm_ hl_)),oo 5 (.new (aB_ dG_)),sO 45 3 9,om 4 10,sO 252 5 11]
(sR [lA 12 252 5,sO 252 2 12]
.ret)))
theorem BR_:as_ Tryz.prog 7=some (13,[.cell 2 true 252],qa_):=by kernel_rfl
def pZ_:ad_:=(sR [oo 3 (.box 150 (.t 0)),oo 6 (.new (aw_ bj_))]
(sR [om 12 2,fA 13 115 3,fA 14 0 13,lF 15 1 14,lN 16 15,bI 17 .rem 12 16,om 7 17]
(.seq (sR [om 18 2,bC 19 .shr 18 (cu 6),bC 20 .rem 19 (ci 3),bC 21 .gtr 20 (ci 0)]
(cN 21
(.dreg [(fA 22 115 3,0),(fA 23 0 22,1),(lF 24 1 23,3),(lN 25 24,7),(bC 26 .sub 25 (ci 1),15),(om 27 7,0),(fA 28 115 3,0),(fA 29 0 28,64),(lF 30 1 29,192),(lN 31 30,448),(oo 32 (.mn [(ci 3),(.t 31)]),960),(bI 33 .rem 27 32,2016),(bI 34 .sub 26 33,4095),(om 7 34,8191)])
.skip))
(sR [fA 35 115 3,fA 36 0 35,lF 37 1 36,om 38 7,iX 39 240 37 38,lA 40 240 39,oo 8 (.new (cr_ sv_)),sO 240 8 40]
(.seq (.dreg [(fA 41 116 3,0),(lF 42 1 41,1),(om 43 1,0),(kA 44 36 43,4),(fA 45 0 8,0),(fA 46 67 45,16),(lA 47 32 46,48),(om 48 2,0),(bC 49 .shr 48 (cu 8),128),(bC 50 .rem 49 (ci 3),384),(bC 51 .gtr 50 (ci 0),896),(fA 52 0 8,0),(fA 53 171 52,2048),(lA 54 33 53,6144),(fA 55 0 8,0),(fA 56 204 55,16384),(lA 57 33 56,49152),(fA 58 0 8,0),(fA 59 0 58,131072),(lA 60 66 59,393216),(oo 61 (.bld (aw_ bj_) [(66,1,(.t 42)),(67,32,(.t 44)),(99,32,(.t 47)),(237,1,(.t 51)),(171,33,(.t 54)),(204,33,(.t 57)),(0,66,(.t 60))]),1048575),(oo 9 (.new (aw_ bj_)),0),(sO 238 9 61,4194303)])
(.seq (sR [om 62 2,bC 63 .shr 62 (cu 10),bC 64 .rem 63 (ci 5),bC 65 .eql 64 (ci 0),om 66 65,og 67 (.fldA 116 (.t 3)) 66 true,og 68 (.ld false 1 (.t 67)) 66 true,og 69 (.bin .gtr (.t 68) (cu 0)) 66 true,oo 70 (.pick (.t 66) (.t 69) (cb false))]
(cN 70
(.reg [fA 71 116 3,lF 72 1 71,bC 73 .sub 72 (cu 1),fA 74 66 9,sO 1 74 73])
.skip))
(.seq (sR [om 75 2,bC 76 .shr 75 (cu 12),bC 77 .rem 76 (ci 16),bC 78 .eql 77 (ci 0)]
(cN 78
(.reg [om 79 1,bC 80 .add 79 (ci 1),om 81 2,bC 82 .shr 81 (cu 16),bC 83 .rem 82 (ci 3),bI 84 .add 80 83,kA 85 36 84,fA 86 99 9,sO 32 86 85])
.skip))
(sR [fA 87 66 9,lF 88 1 87,fA 89 0 3,fA 90 6 89,lF 91 1 90,bI 92 .quo 88 91,om 10 92]
(.seq (sR [lA 93 150 3,om 94 7,om 95 10,kC 96 37 93 94 95,oo 11 (.new (cpC cp0)),sO 33 11 96]
(sR [fA 97 0 11,lF 98 1 97,fA 99 0 9,fA 100 0 99,fA 101 0 100,lF 102 1 101,bI 103 .gtr 98 102,om 104 103,omg 105 2 104 true,og 106 (.bin .shr (.t 105) (cu 13)) 104 true,og 107 (.bin .rem (.t 106) (ci 2)) 104 true,og 108 (.bin .eql (.t 107) (ci 0)) 104 true,oo 109 (.pick (.t 104) (.t 108) (cb false))]
(cN 109
(.seq (sR [om 110 2,bC 111 .shr 110 (cu 14),bC 112 .rem 111 (ci 2),bC 113 .eql 112 (ci 0)]
(cN 113
(.reg [fA 114 0 9,fA 115 0 114,lA 116 33 115,fA 117 0 9,fA 118 33 117,sO 33 118 116])
.skip))
(.reg [lA 119 33 11,fA 120 0 9,fA 121 0 120,sO 33 121 119]))
.skip)))
(.seq (sR [om 122 2,bC 123 .shr 122 (cu 15),bC 124 .rem 123 (ci 3),bC 125 .eql 124 (ci 0),om 126 125,og 127 (.fldA 0 (.t 8)) 126 true,og 128 (.fldA 66 (.t 127)) 126 true,og 129 (.ld false 1 (.t 128)) 126 true,og 130 (.fldA 0 (.t 3)) 126 true,og 131 (.fldA 6 (.t 130)) 126 true,og 132 (.ld false 1 (.t 131)) 126 true,og 133 (.bin .quo (.t 129) (.t 132)) 126 true,omg 134 10 126 true,og 135 (.bin .lss (.t 133) (.t 134)) 126 true,oo 136 (.pick (.t 126) (.t 135) (cb false))]
(cN 136
(.dreg [(fA 137 0 8,0),(fA 138 0 137,1),(fA 139 0 138,3),(lA 140 33 139,7),(fA 141 0 8,0),(fA 142 0 141,16),(fA 143 33 142,48),(lA 144 33 143,112),(fA 145 171 9,15),(sO 33 145 140,271),(fA 146 204 9,1023),(sO 33 146 144,2047)])
.skip))
(.seq (sR [fA 147 0 8,fA 148 131 147,lA 149 32 148,oo 150 (.bld (rtc rt0) []),oo 151 (.eqa [(32,1)] true (.t 149) (.t 150)),om 152 151,omg 153 2 152 false,og 154 (.bin .shr (.t 153) (cu 16)) 152 false,og 155 (.bin .rem (.t 154) (ci 3)) 152 false,og 156 (.bin .eql (.t 155) (ci 0)) 152 false,oo 157 (.pick (.t 152) (cb true) (.t 156))]
(cN 157
(sR [om 158 1,oo 159 (.bin .add (ci 1000) (.t 158)),kA 160 36 159,fA 161 131 9,sO 32 161 160]
(.dreg [(oo 162 (.bld (wdc wd0) [(0,1,(cu 99))]),0),(fA 163 0 3,0),(fA 164 8 163,2),(lA 165 4 164,6),(fA 166 167 9,1),(sO 4 166 162,17),(fA 167 163 9,63),(sO 4 167 165,127)]))
.skip))
(.seq (sR [om 168 2,bC 169 .shr 168 (cu 18),bC 170 .rem 169 (ci 24)]
(.block 0 (sR [bC 172 .eql 170 (ci 0),om 171 172]
(cN 171
(.reg [om 173 1,bC 174 .rem 173 (ci 3),oo 175 (.bin .add (ci 1000) (.t 174)),kA 176 36 175,fA 177 131 9,sO 32 177 176])
(sR [bC 179 .eql 170 (ci 1),om 178 179]
(cN 178
(.reg [om 180 2,bC 181 .shr 180 (cu 3),kA 182 38 181,fA 183 163 9,sO 4 183 182])
(sR [bC 185 .eql 170 (ci 2),om 184 185]
(cN 184
(.reg [om 186 2,bC 187 .shr 186 (cu 3),kA 188 38 187,fA 189 167 9,sO 4 189 188])
(sR [bC 191 .eql 170 (ci 3),om 190 191]
(cN 190
(.reg [fA 192 0 9,fA 193 0 192,fA 194 0 193,lF 195 1 194,bC 196 .add 195 (cu 1),fA 197 0 9,fA 198 0 197,fA 199 0 198,sO 1 199 196])
(sR [bC 201 .eql 170 (ci 4),om 200 201]
(cN 200
(.reg [fA 202 116 3,lF 203 1 202,bC 204 .add 203 (cu 1),fA 205 66 9,sO 1 205 204])
(sR [bC 207 .eql 170 (ci 5),om 206 207]
(cN 206
(.dreg [(fA 208 115 3,0),(fA 209 0 208,1),(lF 210 1 209,3),(om 211 2,0),(bC 212 .shr 211 (cu 3),8),(fA 213 115 3,0),(fA 214 0 213,32),(lF 215 1 214,96),(lN 216 215,224),(bI 217 .rem 212 216,504),(iX 218 240 210 217,1023),(fA 219 0 218,2047),(fA 220 67 219,4095),(lA 221 32 220,8191),(fA 222 67 9,16383),(sO 32 222 221,32767)])
(sR [bC 224 .eql 170 (ci 6),om 223 224]
(cN 223
(.reg [om 225 1,kA 226 36 225,fA 227 204 9,fA 228 1 227,sO 32 228 226])
(sR [bC 230 .eql 170 (ci 7),om 229 230]
(cN 229
(.reg [oo 231 (.bld (rtc rt0) []),fA 232 131 9,sO 32 232 231])
.skip))))))))))))))))))
(sR [lA 233 238 9,sO 238 6 233]
.ret)))))))))))))
theorem BQ_:as_ Tryz.prog 9=some (234,[.cell 6 true 238],pZ_):=by kernel_rfl
def fi_:ad_:=(sR [oo 2 (.box 150 (.t 0)),oo 4 (.new (aX_ cI_))]
(sR [om 7 1,fA 8 115 2,fA 9 0 8,lF 10 1 9,lN 11 10,bI 12 .rem 7 11,om 5 12]
(.seq (.dreg [(fA 13 116 2,0),(lF 14 1 13,1),(fA 15 115 2,0),(fA 16 0 15,4),(lF 17 1 16,12),(om 18 5,0),(iX 19 240 17 18,60),(fA 20 0 19,124),(fA 21 67 20,252),(lA 22 32 21,508),(fA 23 0 2,0),(fA 24 44 23,1024),(lF 25 1 24,3072),(lN 26 25,7168),(om 27 1,0),(bC 28 .shr 27 (cu 3),16384),(kB 29 41 26 28,64512),(oo 30 (.bld (aX_ cI_) [(0,1,(.t 14)),(1,32,(.t 22)),(66,1,(.t 29))]),131071),(oo 6 (.new (aX_ cI_)),0),(sO 67 6 30,524287)])
(.seq (sR [om 31 1,bC 32 .shr 31 (cu 9),bC 33 .rem 32 (ci 4),bC 34 .gtr 33 (ci 0),om 35 34,og 36 (.fldA 116 (.t 2)) 35 true,og 37 (.ld false 1 (.t 36)) 35 true,og 38 (.bin .gtr (.t 37) (cu 0)) 35 true,oo 39 (.pick (.t 35) (.t 38) (cb false))]
(cN 39
(.reg [fA 40 116 2,lF 41 1 40,bC 42 .sub 41 (cu 1),fA 43 0 6,sO 1 43 42])
.skip))
(.seq (.dreg [(lA 44 150 2,0),(om 45 5,0),(fA 46 0 6,0),(lF 47 1 46,4),(fA 48 0 2,0),(fA 49 6 48,16),(lF 50 1 49,48),(bI 51 .quo 47 50,124),(kC 52 37 44 45 51,255),(fA 53 33 6,511),(sO 33 53 52,1023)])
(.seq (sR [om 54 1,bC 55 .shr 54 (cu 12),bC 56 .rem 55 (ci 20)]
(.block 0 (sR [bC 58 .eql 56 (ci 0),om 57 58]
(cN 57
(.reg [fA 59 33 6,fA 60 0 59,lF 61 1 60,bC 62 .add 61 (cu 1),fA 63 33 6,fA 64 0 63,sO 1 64 62])
(sR [bC 66 .eql 56 (ci 1),om 65 66]
(cN 65
(.reg [oo 67 (.call (cf 36) [(ci 5000)]),fA 68 1 6,sO 32 68 67])
(sR [bC 70 .eql 56 (ci 2),om 69 70]
(cN 69
(.dreg [(fA 71 115 2,0),(fA 72 0 71,1),(lF 73 1 72,3),(om 74 1,0),(bC 75 .shr 74 (cu 4),8),(fA 76 115 2,0),(fA 77 0 76,32),(lF 78 1 77,96),(lN 79 78,224),(bI 80 .rem 75 79,504),(iX 81 240 73 80,1023),(fA 82 0 81,2047),(fA 83 67 82,4095),(lA 84 32 83,8191),(fA 85 33 6,16383),(fA 86 1 85,32767),(sO 32 86 84,65535)])
(sR [bC 88 .eql 56 (ci 3),om 87 88]
(cN 87
(.reg [fA 89 0 6,lF 90 1 89,bC 91 .add 90 (cu 1),fA 92 0 6,sO 1 92 91])
(sR [bC 94 .eql 56 (ci 4),om 93 94]
(cN 93
(.reg [fA 95 66 6,lF 96 1 95,om 97 1,bC 98 .shr 97 (cu 17),bC 99 .rem 98 (ci 9),oo 100 (.bldS 1 1 [(.int .i64 (0))] [(0,(.t 99))]),oo 101 (.app 1 8 (.t 96) (.t 100)),fA 102 66 6,sO 1 102 101])
.skip))))))))))))
(sR [lA 103 67 6,sO 67 4 103]
.ret)))))))
theorem iG_:as_ Tryz.prog 11=some (104,[.cell 4 true 67],fi_):=by kernel_rfl
def qb_:ad_:=(sR [oo 2 (.box 150 (.t 0)),oo 4 (.new (aS_ ca_))]
(sR [om 8 1,fA 9 115 2,fA 10 0 9,lF 11 1 10,lN 12 11,bI 13 .rem 8 12,om 5 13]
(sR [fA 14 115 2,fA 15 0 14,lF 16 1 15,om 17 5,iX 18 240 16 17,fA 19 0 18,fA 20 0 19,fA 21 0 20,lA 22 33 21,oo 23 (.bld (aS_ ca_) [(0,33,(.t 22))]),oo 6 (.new (aS_ ca_)),sO 34 6 23]
(.seq (sR [om 24 1,bC 25 .shr 24 (cu 5),bC 26 .rem 25 (ci 4),bC 27 .eql 26 (ci 0)]
(cN 27
(.dreg [(lA 28 150 2,0),(om 29 5,0),(fA 30 116 2,0),(lF 31 1 30,4),(fA 32 0 2,0),(fA 33 6 32,16),(lF 34 1 33,48),(bI 35 .quo 31 34,124),(kC 36 37 28 29 35,255),(fA 37 0 6,511),(sO 33 37 36,1023)])
.skip))
(.seq (sR [oo 7 (.mv (ci 0))]
(.block 0 (.loop (.seq (sR [om 38 7,fA 39 0 2,fA 40 44 39,lF 41 1 40,lN 42 41,bI 43 .lss 38 42]
(cN 43
.skip
(.exit 0)))
(.seq (.block 1 (.reg [fA 46 33 6,lF 47 1 46,om 48 1,om 49 7,oo 50 (.cvt .u64 (.t 49)),bI 51 .shr 48 50,bC 52 .rem 51 (ci 50),oo 53 (.cvt .u64 (.t 52)),oo 54 (.bldS 1 1 [(.int .u64 (0))] [(0,(.t 53))]),oo 55 (.app 1 8 (.t 47) (.t 54)),fA 56 33 6,sO 1 56 55]))
(.reg [om 44 7,bC 45 .add 44 (ci 1),om 7 45]))))))
(.seq (sR [om 57 1,bC 58 .shr 57 (cu 12),bC 59 .rem 58 (ci 16)]
(.block 2 (sR [bC 61 .eql 59 (ci 0),om 60 61]
(cN 60
(.reg [fA 62 33 6,lF 63 1 62,oo 64 (.bldS 1 1 [(.int .u64 (0))] [(0,(cu 1))]),oo 65 (.app 1 8 (.t 63) (.t 64)),fA 66 33 6,sO 1 66 65])
(sR [bC 68 .eql 59 (ci 1),om 67 68]
(cN 67
(.reg [fA 69 33 6,lF 70 1 69,oo 71 (.idxS 1 (.t 70) (ci 0)),on (.sto 1 (.t 71) (cu 4611686018427387904))])
.skip))))))
(sR [lA 72 34 6,sO 34 4 72]
.ret)))))))
theorem BS_:as_ Tryz.prog 15=some (73,[.cell 4 true 34],qb_):=by kernel_rfl
def ml_:ad_:=(sR [oo 2 (.box 252 (.t 0)),oo 4 (.new (bW_ bL_))]
(sR [om 11 1,bC 12 .rem 11 (ci 9),oo 13 (.cvt .u64 (.t 12)),oo 14 (.bld [(.int .u64 (0))] [(0,1,(.t 13))]),oo 15 (.bldS 1 6 [(.int .i64 (0))] [(0,(ci 1)),(1,(ci 1)),(2,(ci 2)),(3,(ci 2)),(4,(ci 3)),(5,(ci 4))]),om 16 1,bC 17 .shr 16 (cu 4),bC 18 .rem 17 (ci 6),iX 19 1 15 18,lF 20 1 19,oo 21 (.bld (bW_ bL_) [(0,1,(.t 14)),(1,1,(.t 20))]),oo 5 (.new (bW_ bL_)),sO 34 5 21]
(.seq (.dreg [(fA 22 0 2,0),(fA 23 115 22,1),(fA 24 0 23,3),(lF 25 1 24,7),(om 26 1,0),(fA 27 0 2,0),(fA 28 115 27,32),(fA 29 0 28,96),(lF 30 1 29,224),(lN 31 30,480),(bI 32 .rem 26 31,1008),(iX 33 240 25 32,2047),(fA 34 0 33,4095),(fA 35 67 34,8191),(lA 36 32 35,16383),(oo 6 (.new (rtc rt0)),0),(sO 32 6 36,65535)])
(.seq (sR [fA 37 150 2,lF 38 1 37,lN 39 38,om 7 39]
(sR [om 40 7,bC 41 .gtr 40 (ci 0),om 42 41,omg 43 1 42 true,og 44 (.bin .shr (.t 43) (cu 8)) 42 true,og 45 (.bin .rem (.t 44) (ci 8)) 42 true,og 46 (.bin .gtr (.t 45) (ci 0)) 42 true,oo 47 (.pick (.t 42) (.t 46) (cb false))]
(cN 47
(.seq (.dreg [(fA 48 150 2,0),(lF 49 1 48,1),(om 50 1,0),(bC 51 .shr 50 (cu 11),4),(om 52 7,0),(bI 53 .rem 51 52,28),(iX 54 35 49 53,63),(lA 55 35 54,127),(oo 8 (.new (aO_ hr_)),0),(sO 35 8 55,511)])
(.dreg [(fA 56 0 8,0),(fA 57 0 56,1),(lF 58 1 57,3),(fA 59 1 8,0),(lA 60 32 59,8),(fA 61 0 5,7),(fA 62 0 61,39),(sO 1 62 58,103),(sO 32 6 60,255)]))
.skip)))
(sR [fA 63 0 2,fA 64 115 63,lA 65 1 64,lA 66 32 6,kB 67 57 65 66,om 9 67]
(.seq (sR [fA 68 0 2,fA 69 115 68,lA 70 1 69,om 71 9,kB 72 58 70 71,om 10 72]
(sR [om 73 10,lN 74 73,bC 75 .gtr 74 (ci 0),om 76 75,omg 77 1 76 true,og 78 (.bin .shr (.t 77) (cu 14)) 76 true,og 79 (.bin .rem (.t 78) (ci 4)) 76 true,og 80 (.bin .gtr (.t 79) (ci 0)) 76 true,oo 81 (.pick (.t 76) (.t 80) (cb false))]
(cN 81
(.dreg [(fA 82 0 2,0),(fA 83 115 82,1),(fA 84 0 83,3),(lF 85 1 84,7),(om 86 10,0),(om 87 1,0),(bC 88 .shr 87 (cu 16),32),(om 89 10,0),(lN 90 89,128),(bI 91 .rem 88 90,480),(iX 92 1 86 91,1008),(lF 93 1 92,2032),(iX 94 240 85 93,4095),(fA 95 0 94,8191),(fA 96 131 95,16383),(lA 97 32 96,32767),(fA 98 2 5,65535),(sO 32 98 97,131071)])
.skip)))
(.seq (sR [om 99 1,bC 100 .shr 99 (cu 14),bC 101 .rem 100 (ci 16),bC 102 .eql 101 (ci 0)]
(cN 102
(.reg [oo 103 (.call (cf 36) [(ci 4000)]),fA 104 2 5,sO 32 104 103])
.skip))
(sR [lA 105 34 5,sO 34 4 105]
.ret))))))))
theorem vq_:as_ Tryz.prog 18=some (106,[.cell 4 true 34],ml_):=by kernel_rfl
def ox_:ad_:=(sR [oo 2 (.new (bm_ hl_)),oo 3 (.mv (.c (.sl 0 true [])))]
(sR [om 8 0,kA 9 30 8,om 7 9,eX 10 0 7,eX 11 1 7,eX 12 2 7,oo 4 (.new (bm_ hl_)),oo 6 (.new (aB_ dG_)),sO 45 4 10,om 5 11,sO 252 6 12]
(sR [lA 13 45 4,om 14 5,sO 45 2 13,om 3 14]
.ret)))
theorem yd_:as_ Tryz.prog 22=some (15,[.cell 2 true 45,.tmp 3],ox_):=by kernel_rfl
def va_:ad_:=(sR [oo 2 (.new (bm_ hl_)),oo 3 (.mv (.c (.sl 0 true []))),oo 4 (.new (aB_ dG_))]
(sR [om 14 0,kA 15 67 14,oo 5 (.new (bm_ hl_)),sO 45 5 15]
(sR [lA 17 45 5,kA 18 68 17,om 16 18,eX 19 0 16,eX 20 1 16,eX 21 2 16,oo 6 (.new (aB_ dG_)),sO 252 6 19,om 7 20,om 8 21]
(sR [oo 9 (.mv (.c (.sl 0 true [])))]
(sR [om 22 0,oo 23 (.call (cf 69) [(.t 22),(ci 16)]),bC 24 .rem 23 (ci 25),om 10 24]
(.seq (sR [om 25 0,oo 26 (.call (cf 69) [(.t 25),(ci 17)]),bC 27 .rem 26 (ci 4),bC 28 .gtr 27 (ci 0)]
(cN 28
(.reg [oo 10 (.mv (ci 24))])
.skip))
(.seq (sR [oo 11 (.mv (ci 0))]
(.block 0 (.loop (.seq (sR [om 29 11,om 30 10,bI 31 .lss 29 30]
(cN 31
.skip
(.exit 0)))
(.seq (.block 1 (sR [om 34 0,om 35 11,oo 36 (.bin .add (ci 18) (.t 35)),kB 37 69 34 36,om 12 37]
(.seq (sR [om 38 11,bC 39 .eql 38 (ci 0)]
(cN 39
(.reg [oo 12 (.mv (ci 0))])
.skip))
(sR [lA 40 252 6,om 41 11,oo 42 (.bin .add (ci 10) (.t 41)),om 43 12,kC 44 70 40 42 43,oo 13 (.new (aI_ dy_)),sO 446 13 44]
(sR [om 45 9,lA 46 446 13,oo 47 (.bldS 446 1 (aI_ dy_) [(0,(.t 46))]),oo 48 (.app 446 720 (.t 45) (.t 47)),om 9 48]
(.reg [lA 50 252 6,lA 51 446 13,kB 52 71 50 51,om 49 52,eX 53 0 49,eX 54 1 49,eX 55 2 49,sO 252 6 53]))))))
(.reg [om 32 11,bC 33 .add 32 (ci 1),om 11 33]))))))
(.seq (.dreg [(lA 56 45 5,0),(om 57 9,0),(lA 58 252 6,0),(sO 45 2 56,1),(om 3 57,11),(sO 252 4 58,31)])
.ret))))))))
theorem Gw_:as_ Tryz.prog 30=some (59,[.cell 2 true 45,.tmp 3,.cell 4 true 252],va_):=by kernel_rfl
def zG_:ad_:=(sR [oo 3 (.box 150 (.t 0)),oo 6 (.new (cpC cp0))]
(sR [fA 8 115 3,lA 9 1 8,om 10 1,om 11 2,fA 12 0 3,fA 13 6 12,lF 14 1 13,bI 15 .mul 11 14,kC 16 73 9 10 15,om 7 16]
(.seq (sR [om 17 7,bC 18 .lss 17 (ci 0)]
(cN 18
(sR [fA 19 47 3,fA 20 33 19,lA 21 33 20,sO 33 6 21]
.ret)
.skip))
(sR [om 22 2,fA 23 115 3,fA 24 0 23,lF 25 1 24,om 26 7,iX 27 240 25 26,fA 28 0 27,fA 29 67 28,lA 30 32 29,oo 31 (.bld (cpC cp0) [(0,1,(.t 22)),(1,32,(.t 30))]),sO 33 6 31]
.ret))))
theorem JH_:as_ Tryz.prog 37=some (32,[.cell 6 true 33],zG_):=by kernel_rfl
def sV_:ad_:=(sR [oo 2 (.new (wdc wd0))]
(sR [om 4 0,bC 5 .and 4 (ci 127),oo 6 (.cvt .u64 (.t 5)),oo 7 (.bld (wdc wd0) [(0,1,(.t 6))]),oo 3 (.new (wdc wd0)),sO 4 3 7]
(.seq (sR [om 8 0,bC 9 .shr 8 (cu 7),bC 10 .and 9 (ci 3)]
(.block 0 (sR [bC 12 .eql 10 (ci 1),om 11 12]
(cN 11
(.reg [om 13 0,bC 14 .shr 13 (cu 9),bC 15 .and 14 (ci 3),om 16 0,bC 17 .shr 16 (cu 11),bC 18 .and 17 (ci 3),oo 19 (.cvt .u64 (.t 18)),oo 20 (.idxA 4 1 (.t 3) (.t 15)),sO 1 20 19])
(sR [bC 22 .eql 10 (ci 2),om 21 22]
(cN 21
(.reg [om 23 0,bC 24 .shr 23 (cu 9),bC 25 .and 24 (ci 63),oo 26 (.cvt .u64 (.t 25)),oo 27 (.bin .shr (cu 18446744073709551615) (.t 26)),oo 28 (.bld (wdc wd0) [(0,1,(cu 18446744073709551615)),(1,1,(.t 27))]),sO 4 3 28])
(sR [bC 30 .eql 10 (ci 3),om 29 30]
(cN 29
(.reg [om 31 0,bC 32 .shr 31 (cu 9),bC 33 .and 32 (ci 1),oo 34 (.cvt .u64 (.t 33)),oo 35 (.bin .sub (cu 18446744073709551615) (.t 34)),oo 36 (.idxA 4 1 (.t 3) (ci 3)),sO 1 36 35])
.skip))))))))
(sR [lA 37 4 3,sO 4 2 37]
.ret))))
theorem Ea_:as_ Tryz.prog 38=some (38,[.cell 2 true 4],sV_):=by kernel_rfl
def ow_:ad_:=(sR [oo 2 (.new (bm_ hl_))]
(.seq (.dreg [(om 5 0,0),(oo 6 (.call (cf 69) [(.t 5),(ci 0)]),1),(bC 7 .rem 6 (ci 8),3),(oo 8 (.bin .add (ci 6) (.t 7)),7),(om 9 0,0),(oo 10 (.call (cf 69) [(.t 9),(ci 1)]),19),(bC 11 .rem 10 (ci 4),51),(om 12 0,0),(oo 13 (.call (cf 69) [(.t 12),(ci 2)]),179),(bC 14 .rem 13 (ci 4),435),(om 15 0,0),(oo 16 (.call (cf 69) [(.t 15),(ci 3)]),1459),(bC 17 .rem 16 (ci 4),3507),(oo 18 (.bin .add (ci 1) (.t 17)),7603),(om 19 0,0),(oo 20 (.call (cf 69) [(.t 19),(ci 4)]),19891),(bC 21 .rem 20 (ci 4),52659),(om 22 0,0),(oo 23 (.call (cf 69) [(.t 22),(ci 5)]),183731),(bC 24 .rem 23 (ci 5),445875),(oo 25 (.bin .add (ci 1) (.t 24)),970163),(oo 26 (.cvt .u64 (.t 25)),2018739),(oo 27 (.bld [(.int .i64 (0)),(.int .i64 (0)),(.int .i64 (0)),(.int .i64 (0)),(.int .i64 (0)),(.int .u64 (0))] [(0,1,(.t 8)),(1,1,(.t 11)),(2,1,(.t 14)),(3,1,(.t 18)),(4,1,(.t 21)),(5,1,(.t 26))]),4194303),(om 28 0,0),(oo 29 (.call (cf 69) [(.t 28),(ci 6)]),8834483),(bC 30 .rem 29 (ci 4),25611699),(oo 31 (.bin .add (ci 1) (.t 30)),59166131),(oo 32 (.cvt .u64 (.t 31)),126274995),(oo 33 (.bldS 1 3 [(.int .i64 (0))] [(0,(ci 0)),(1,(ci 40)),(2,(ci 100))]),0),(om 34 0,0),(oo 35 (.call (cf 69) [(.t 34),(ci 7)]),562482611),(bC 36 .rem 35 (ci 3),1636224435),(iX 37 1 33 36,4052143539),(lF 38 1 37,8347110835),(oo 39 (.cvt .u64 (.t 38)),16937045427),(om 40 0,0),(oo 41 (.call (cf 69) [(.t 40),(ci 8)]),35995962803),(bC 42 .rem 41 (ci 2),104715439539),(oo 43 (.cvt .u64 (.t 42)),242154393011),(oo 44 (.bld (wdc wd0) [(0,1,(cu 100)),(1,1,(cu 0)),(2,1,(.t 43))]),517032299955),(oo 45 (.call (cf 36) [(ci 1)]),104715439539),(oo 46 (.bld (bm_ hl_) [(0,6,(.t 27)),(6,1,(.t 32)),(7,1,(.t 39)),(8,4,(.t 44)),(12,32,(.t 45))]),2199023255551),(oo 3 (.new (bm_ hl_)),0),(sO 45 3 46,8796093022207)])
(.seq (sR [oo 4 (.mv (ci 0))]
(.block 0 (.loop (.seq (sR [om 47 4,om 48 0,oo 49 (.call (cf 69) [(.t 48),(ci 9)]),bC 50 .rem 49 (ci 5),oo 51 (.bin .add (ci 2) (.t 50)),bI 52 .lss 47 51]
(cN 52
.skip
(.exit 0)))
(.seq (.block 1 (.dreg [(fA 55 44 3,0),(lF 56 1 55,1),(om 57 0,0),(om 58 4,0),(oo 59 (.bin .add (ci 10) (.t 58)),8),(kB 60 69 57 59,28),(bC 61 .rem 60 (ci 40),60),(oo 62 (.cvt .u64 (.t 61)),124),(oo 63 (.bldS 1 1 [(.int .u64 (0))] [(0,(.t 62))]),252),(oo 64 (.app 1 8 (.t 56) (.t 63)),511),(fA 65 44 3,1023),(sO 1 65 64,2047)]))
(.reg [om 53 4,bC 54 .add 53 (ci 1),om 4 54]))))))
(sR [lA 66 45 3,sO 45 2 66]
.ret))))
theorem yc_:as_ Tryz.prog 67=some (67,[.cell 2 true 45],ow_):=by kernel_rfl
def zE_:ad_:=(sR [oo 4 (.mv (ci 0))]
(.seq (sR [om 5 0,lN 6 5,bC 7 .eql 6 (ci 0)]
(cN 7
(sR [om 8 1,bC 9 .and 8 (ci 65535),om 4 9]
.ret)
.skip))
(.seq (.dreg [(om 10 0,0),(om 11 1,0),(om 12 0,0),(lN 13 12,4),(bI 14 .rem 11 13,14),(iX 15 1 10 14,31),(lF 16 1 15,63),(bC 17 .and 16 (ci 16777215),127),(om 18 1,0),(om 19 0,0),(lN 20 19,512),(bI 21 .quo 18 20,1792),(bI 22 .add 17 21,4095),(om 4 22,8191)])
.ret)))
theorem JF_:as_ Tryz.prog 69=some (23,[.tmp 4],zE_):=by kernel_rfl
def zF_:ad_:=(sR [oo 3 (.box 252 (.t 0)),oo 6 (.new (aI_ dy_))]
(sR [om 8 2,bC 9 .shr 8 (cu 4),om 7 9]
(.seq (sR [om 10 2,bC 11 .rem 10 (ci 16)]
(.block 0 (.seq (sR [bC 13 .eql 11 (ci 0),om 12 13]
(cN 12
.skip
(sR [bC 14 .eql 11 (ci 1),om 12 14]
(cN 12
.skip
(.reg [bC 15 .eql 11 (ci 2),om 12 15])))))
(cN 12
(sR [oo 16 (.bld (aI_ dy_) [(0,1,(ci 1))]),sO 446 6 16]
.ret)
(.seq (sR [bC 18 .eql 11 (ci 3),om 17 18]
(cN 17
.skip
(sR [bC 19 .eql 11 (ci 4),om 17 19]
(cN 17
.skip
(sR [bC 20 .eql 11 (ci 5),om 17 20]
(cN 17
.skip
(sR [bC 21 .eql 11 (ci 6),om 17 21]
(cN 17
.skip
(.reg [bC 22 .eql 11 (ci 7),om 17 22])))))))))
(cN 17
(sR [fA 23 0 3,lA 24 150 23,om 25 1,om 26 7,kC 27 9 24 25 26,oo 28 (.bld (aI_ dy_) [(0,1,(ci 2)),(1,238,(.t 27))]),sO 446 6 28]
.ret)
(.seq (sR [bC 30 .eql 11 (ci 8),om 29 30]
(cN 29
.skip
(sR [bC 31 .eql 11 (ci 9),om 29 31]
(cN 29
.skip
(.reg [bC 32 .eql 11 (ci 10),om 29 32])))))
(cN 29
(sR [fA 33 0 3,lA 34 150 33,om 35 7,kB 36 11 34 35,oo 37 (.bld (aI_ dy_) [(0,1,(ci 3)),(239,67,(.t 36))]),sO 446 6 37]
.ret)
(sR [bC 39 .eql 11 (ci 11),om 38 39]
(cN 38
(sR [fA 40 0 3,fA 41 0 40,fA 42 44 41,lF 43 1 42,lN 44 43,om 45 7,kB 46 13 44 45,oo 47 (.bld (aI_ dy_) [(0,1,(ci 4)),(306,70,(.t 46))]),sO 446 6 47]
.ret)
(sR [bC 49 .eql 11 (ci 12),om 48 49]
(cN 48
(sR [fA 50 0 3,lA 51 150 50,om 52 7,kB 53 15 51 52,oo 54 (.bld (aI_ dy_) [(0,1,(ci 5)),(376,34,(.t 53))]),sO 446 6 54]
.ret)
.skip))))))))))))
(sR [lA 55 252 3,om 56 7,kB 57 18 55 56,oo 58 (.bld (aI_ dy_) [(0,1,(ci 6)),(410,34,(.t 57))]),sO 446 6 58]
.ret))))
theorem JG_:as_ Tryz.prog 70=some (59,[.cell 6 true 446],zF_):=by kernel_rfl
end Go.Proofs.YtipiipgpnkpejaaGreat
