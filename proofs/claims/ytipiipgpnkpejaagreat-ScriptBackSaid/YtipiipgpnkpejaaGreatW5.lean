/-
 My texts Kd, Kj, Km, joined.
-/
import Derived.Test.YtipiipgpnkpejaaGreatW3
import Derived.Test.YtipiipgpnkpejaaGreatChecked
import Derived.KernelRfl
namespace Go.Proofs.YtipiipgpnkpejaaGreat
open Go Go.FH
def gI_:ad_:=(sR [oo 2 (.mv (cb false))]
(.seq (sR [om 11 0,lN 12 11,bC 13 .gtr 12 (ci 2000)]
(cN 13
(sR [oo 14 (.call (cf 21) []),om 2 14]
.ret)
.skip))
(sR [om 16 0,kA 17 25 16,om 15 17,eX 18 0 15,eX 19 1 15,om 3 18,om 4 19]
(sR [om 21 0,kA 22 66 21,om 20 22,eX 23 0 20,eX 24 1 20,om 5 23,om 6 24]
(sR [om 26 0,kA 27 26 26,om 25 27,eX 28 0 25,eX 29 1 25,om 7 28,om 8 29]
(sR [om 31 0,kA 32 28 31,om 30 32,eX 33 0 30,eX 34 1 30,om 9 33,om 10 34]
(sR [om 35 4,om 36 6,bI 37 .eql 35 36,om 38 37,omg 39 3 38 true,omg 40 5 38 true,og 41 (.call (cf 27) [(.t 39),(.t 40)]) 38 true,oo 42 (.pick (.t 38) (.t 41) (cb false)),om 43 42,omg 44 8 43 true,omg 45 10 43 true,og 46 (.bin .eql (.t 44) (.t 45)) 43 true,oo 47 (.pick (.t 43) (.t 46) (cb false)),om 48 47,omg 49 7 48 true,omg 50 9 48 true,og 51 (.call (cf 27) [(.t 49),(.t 50)]) 48 true,oo 52 (.pick (.t 48) (.t 51) (cb false)),om 53 52,og 54 (.call (cf 21) []) 53 true,oo 55 (.pick (.t 53) (.t 54) (cb false)),om 2 55]
.ret)))))))
theorem mJ_:as_ Tryz.prog 29=some (56,[.tmp 2],gI_):=by kernel_rfl
def qc_:ad_:=(sR [oo 0 (.mv (cb false))]
(sR [oo 6 (.bld (aI_ dy_) [(0,1,(ci 1))]),oo 7 (.bld (aI_ dy_) [(0,1,(ci 8)),(444,1,(ci 2)),(445,1,(ci 5))]),oo 8 (.bldS 446 2 (aI_ dy_) [(0,(.t 6)),(1,(.t 7))]),kA 9 23 8,om 5 9,eX 10 0 5,eX 11 1 5,om 1 10,om 2 11]
(sR [om 13 1,kA 14 25 13,om 12 14,eX 15 0 12,eX 16 1 12,om 3 15,om 4 16]
(sR [om 17 2,bC 18 .eql 17 (ci 0),om 19 18,omg 20 4 19 true,og 21 (.bin .eql (.t 20) (ci 0)) 19 true,oo 22 (.pick (.t 19) (.t 21) (cb false)),om 23 22,omg 24 1 23 true,og 25 (.b2s (.t 24)) 23 true,og 26 (.bldS 1 4 [(.int .u8 (0))] [(0,(.c (.int .u8 (1)))),(1,(.c (.int .u8 (8)))),(2,(.c (.int .u8 (2)))),(3,(.c (.int .u8 (5))))]) 23 true,og 27 (.b2s (.t 26)) 23 true,og 28 (.eqv 1 false (.t 25) (.t 27)) 23 true,oo 29 (.pick (.t 23) (.t 28) (cb false)),om 30 29,omg 31 3 30 true,og 32 (.len false (.t 31)) 30 true,og 33 (.bin .eql (.t 32) (ci 2)) 30 true,oo 34 (.pick (.t 30) (.t 33) (cb false)),om 35 34,omg 36 3 35 true,og 37 (.idxS 446 (.t 36) (ci 1)) 35 true,og 38 (.fldA 445 (.t 37)) 35 true,og 39 (.ld false 1 (.t 38)) 35 true,og 40 (.bin .eql (.t 39) (ci 5)) 35 true,oo 41 (.pick (.t 35) (.t 40) (cb false)),om 0 41]
.ret))))
theorem BT_:as_ Tryz.prog 21=some (42,[.tmp 0],qc_):=by kernel_rfl
def lP_:ad_:=(sR [oo 2 (.mv (.c (.sl 0 true []))),oo 3 (.mv (ci 0))]
(.seq (sR [om 10 0,lN 11 10,bC 12 .gtr 11 (ci 4096)]
(cN 12
(sR [oo 2 (.mv (.c (.sl 0 true []))),oo 3 (.mv (ci 11))]
.ret)
.skip))
(sR [oo 4 (.mv (.c (.sl 0 true [])))]
(.seq (sR [om 13 0,lN 14 13,oo 15 (.mv (ci 0))]
(.block 0 (.loop (sR [bI 16 .lss 15 14]
(.seq (cN 16
.skip
(.exit 0))
(.seq (.block 1 (sR [iX 17 446 13 15,lA 18 446 17,oo 6 (.new (aI_ dy_)),sO 446 6 18]
(.seq (sR [lA 19 446 6,kA 20 19 19,om 7 20]
(sR [om 21 7,bC 22 .neq 21 (ci 0)]
(cN 22
(sR [om 23 7,oo 2 (.mv (.c (.sl 0 true []))),om 3 23]
.ret)
.skip)))
(sR [lA 25 446 6,kA 26 59 25,om 24 26,eX 27 0 24,eX 28 1 24,om 8 27,om 9 28]
(.reg [om 29 4,fA 30 0 6,lF 31 1 30,oo 32 (.cvt .u64 (.t 31)),kB 33 63 29 32,om 34 8,oo 35 (.app 1 1 (.t 33) (.t 34)),om 4 35])))))
(.reg [bC 36 .add 15 (ci 1),om 15 36])))))))
(.seq (sR [om 37 4,lN 38 37,bC 39 .gtr 38 (ci 1048576)]
(cN 39
(sR [oo 2 (.mv (.c (.sl 0 true []))),oo 3 (.mv (ci 11))]
.ret)
.skip))
(sR [om 40 4,om 2 40,oo 3 (.mv (ci 0))]
.ret))))))
theorem tY_:as_ Tryz.prog 23=some (41,[.tmp 2,.tmp 3],lP_):=by kernel_rfl
def ks_:ad_:=(sR [oo 2 (.mv (.c (.sl 0 true []))),oo 3 (.mv (ci 0))]
(.seq (sR [om 9 0,lN 10 9,bC 11 .gtr 10 (ci 4096)]
(cN 11
(sR [oo 2 (.mv (.c (.sl 0 true []))),oo 3 (.mv (ci 11))]
.ret)
.skip))
(sR [oo 4 (.mv (.c (.sl 0 true [])))]
(.seq (sR [oo 5 (.mv (ci 0))]
(.block 0 (.loop (.seq (sR [om 12 5,om 13 0,lN 14 13,bI 15 .lss 12 14]
(cN 15
.skip
(.exit 0)))
(.seq (.block 1 (.seq (sR [om 18 0,om 19 5,iX 20 446 18 19,lA 21 446 20,kA 22 20 21,om 6 22]
(sR [om 23 6,bC 24 .neq 23 (ci 0)]
(cN 24
(sR [om 25 6,oo 2 (.mv (.c (.sl 0 true []))),om 3 25]
.ret)
.skip)))
(sR [om 27 0,om 28 5,iX 29 446 27 28,lA 30 446 29,kA 31 61 30,om 26 31,eX 32 0 26,eX 33 1 26,om 7 32,om 8 33]
(.reg [om 34 4,om 35 0,om 36 5,iX 37 446 35 36,fA 38 0 37,lF 39 1 38,oo 40 (.cvt .u64 (.t 39)),kB 41 32 34 40,om 42 7,oo 43 (.app 1 1 (.t 41) (.t 42)),om 4 43]))))
(.reg [om 16 5,bC 17 .add 16 (ci 1),om 5 17]))))))
(.seq (sR [om 44 4,lN 45 44,bC 46 .gtr 45 (ci 1048576)]
(cN 46
(sR [oo 2 (.mv (.c (.sl 0 true []))),oo 3 (.mv (ci 11))]
.ret)
.skip))
(sR [om 47 4,om 2 47,oo 3 (.mv (ci 0))]
.ret))))))
theorem sd_:as_ Tryz.prog 24=some (48,[.tmp 2,.tmp 3],ks_):=by kernel_rfl
def jt_:ad_:=(sR [oo 1 (.box 446 (.t 0)),oo 2 (.mv (ci 0))]
(.seq (sR [fA 5 0 1,lF 6 1 5,bC 7 .lss 6 (ci 1),om 8 7,og 9 (.fldA 0 (.t 1)) 8 false,og 10 (.ld false 1 (.t 9)) 8 false,og 11 (.bin .gtr (.t 10) (ci 8)) 8 false,oo 12 (.pick (.t 8) (cb true) (.t 11))]
(cN 12
(sR [oo 2 (.mv (ci 2))]
.ret)
.skip))
(.seq (sR [lA 14 446 1,kA 15 59 14,om 13 15,eX 16 0 13,eX 17 1 13,om 3 16,om 4 17]
(sR [om 18 4,bC 19 .neq 18 (ci 0)]
(cN 19
(sR [om 20 4,om 2 20]
.ret)
.skip)))
(.seq (sR [lA 21 446 1,kA 22 60 21,oo 23 (.un .not (.t 22))]
(cN 23
(sR [oo 2 (.mv (ci 2))]
.ret)
.skip))
(sR [oo 2 (.mv (ci 0))]
.ret)))))
theorem qS_:as_ Tryz.prog 19=some (24,[.tmp 2],jt_):=by kernel_rfl
def jr_:ad_:=(sR [oo 1 (.box 446 (.t 0)),oo 2 (.mv (ci 0))]
(.seq (sR [fA 6 0 1,lF 7 1 6,bC 8 .lss 7 (ci 1),om 9 8,og 10 (.fldA 0 (.t 1)) 9 false,og 11 (.ld false 1 (.t 10)) 9 false,og 12 (.bin .gtr (.t 11) (ci 8)) 9 false,oo 13 (.pick (.t 9) (cb true) (.t 12))]
(cN 13
(sR [oo 2 (.mv (ci 2))]
.ret)
.skip))
(.seq (sR [lA 15 446 1,kA 16 61 15,om 14 16,eX 17 0 14,eX 18 1 14,om 3 17,om 4 18]
(sR [om 19 4,bC 20 .neq 19 (ci 0)]
(cN 20
(sR [om 21 4,om 2 21]
.ret)
.skip)))
(sR [fA 22 0 1,lF 23 1 22,oo 24 (.bld (aI_ dy_) [(0,1,(.t 23))]),oo 5 (.new (aI_ dy_)),sO 446 5 24]
(.seq (sR [fA 25 0 1,lF 26 1 25]
(.block 0 (sR [bC 28 .eql 26 (ci 2),om 27 28]
(cN 27
(.reg [fA 29 1 1,lA 30 238 29,fA 31 1 5,sO 238 31 30])
(sR [bC 33 .eql 26 (ci 3),om 32 33]
(cN 32
(.reg [fA 34 239 1,lA 35 67 34,fA 36 239 5,sO 67 36 35])
(sR [bC 38 .eql 26 (ci 4),om 37 38]
(cN 37
(.reg [fA 39 306 1,lA 40 70 39,fA 41 306 5,sO 70 41 40])
(sR [bC 43 .eql 26 (ci 5),om 42 43]
(cN 42
(.reg [fA 44 376 1,lA 45 34 44,fA 46 376 5,sO 34 46 45])
(sR [bC 48 .eql 26 (ci 6),om 47 48]
(cN 47
(.reg [fA 49 410 1,lA 50 34 49,fA 51 410 5,sO 34 51 50])
(sR [bC 53 .eql 26 (ci 8),om 52 53]
(cN 52
(.dreg [(fA 54 444 1,0),(lF 55 1 54,1),(fA 56 445 1,0),(lF 57 1 56,4),(fA 58 444 5,3),(sO 1 58 55,19),(fA 59 445 5,63),(sO 1 59 57,127)])
.skip))))))))))))))
(.seq (sR [lA 60 446 1,lA 61 446 5,kB 62 62 60 61,oo 63 (.un .not (.t 62))]
(cN 63
(sR [oo 2 (.mv (ci 2))]
.ret)
.skip))
(sR [oo 2 (.mv (ci 0))]
.ret)))))))
theorem qP_:as_ Tryz.prog 20=some (64,[.tmp 2],jr_):=by kernel_rfl
def lO_:ad_:=(sR [oo 2 (.mv (.c (.sl 0 true []))),oo 3 (.mv (ci 0))]
(.seq (sR [om 7 0,lN 8 7,bC 9 .gtr 8 (ci 1048576)]
(cN 9
(sR [oo 2 (.mv (.c (.sl 0 true []))),oo 3 (.mv (ci 11))]
.ret)
.skip))
(sR [om 11 0,kA 12 64 11,om 10 12,eX 13 0 10,eX 14 1 10,eX 15 2 10,om 4 13,om 5 14,om 6 15]
(.seq (sR [om 16 6,bC 17 .neq 16 (ci 0)]
(cN 17
(sR [om 18 6,oo 2 (.mv (.c (.sl 0 true []))),om 3 18]
.ret)
.skip))
(sR [om 19 4,om 2 19,oo 3 (.mv (ci 0))]
.ret)))))
theorem tX_:as_ Tryz.prog 25=some (20,[.tmp 2,.tmp 3],lO_):=by kernel_rfl
def kr_:ad_:=(sR [oo 2 (.mv (.c (.sl 0 true []))),oo 3 (.mv (ci 0))]
(sR [om 8 0,kA 9 65 8,om 7 9,eX 10 0 7,eX 11 1 7,eX 12 2 7,om 4 10,om 5 11,om 6 12]
(.seq (sR [om 13 6,bC 14 .neq 13 (ci 0)]
(cN 14
(sR [om 15 6,oo 2 (.mv (.c (.sl 0 true []))),om 3 15]
.ret)
.skip))
(sR [om 16 4,om 2 16,oo 3 (.mv (ci 0))]
.ret))))
theorem sc_:as_ Tryz.prog 66=some (17,[.tmp 2,.tmp 3],kr_):=by kernel_rfl
def lQ_:ad_:=(sR [oo 2 (.mv (.c (.sl 0 true []))),oo 3 (.mv (ci 0))]
(.seq (sR [om 4 0,lN 5 4,bC 6 .gtr 5 (ci 1048576)]
(cN 6
(sR [oo 2 (.mv (.c (.sl 0 true []))),oo 3 (.mv (ci 0))]
.ret)
.skip))
(sR [om 8 0,kA 9 64 8,om 7 9,eX 10 0 7,eX 11 1 7,eX 12 2 7,om 2 10,om 3 11]
(sR [om 13 2,om 14 3,om 2 13,om 3 14]
.ret))))
theorem tZ_:as_ Tryz.prog 26=some (15,[.tmp 2,.tmp 3],lQ_):=by kernel_rfl
def oM_:ad_:=(sR [oo 2 (.mv (.c (.sl 0 true []))),oo 3 (.mv (ci 0))]
(sR [om 8 0,kA 9 65 8,om 7 9,eX 10 0 7,eX 11 1 7,eX 12 2 7,om 4 10,om 5 11,om 6 12]
(sR [om 13 4,om 14 5,om 2 13,om 3 14]
.ret)))
theorem yu_:as_ Tryz.prog 28=some (15,[.tmp 2,.tmp 3],oM_):=by kernel_rfl
def my_:ad_:=(sR [oo 4 (.mv (cb false))]
(.seq (sR [om 6 0,lN 7 6,om 8 1,lN 9 8,bI 10 .neq 7 9]
(cN 10
(sR [oo 4 (.mv (cb false))]
.ret)
.skip))
(.seq (sR [oo 5 (.mv (ci 0))]
(.block 0 (.loop (.seq (sR [om 11 5,om 12 0,lN 13 12,bI 14 .lss 11 13]
(cN 14
.skip
(.exit 0)))
(.seq (.block 1 (.seq (.dreg [(om 17 0,0),(om 18 5,0),(iX 19 446 17 18,3),(lA 20 446 19,7),(om 21 1,0),(om 22 5,0),(iX 23 446 21 22,48),(lA 24 446 23,112),(kB 25 62 20 24,255),(oo 26 (.un .not (.t 25)),511)])
(cN 26
(sR [oo 4 (.mv (cb false))]
.ret)
.skip)))
(.reg [om 15 5,bC 16 .add 15 (ci 1),om 5 16]))))))
(sR [oo 4 (.mv (cb true))]
.ret))))
theorem vG_:as_ Tryz.prog 27=some (27,[.tmp 4],my_):=by kernel_rfl
def mB_:ad_:=(sR [oo 1 (.box 446 (.t 0)),oo 2 (.mv (.c (.sl 0 true []))),oo 3 (.mv (ci 0))]
(.seq (sR [fA 4 0 1,lF 5 1 4]
(.block 0 (sR [bC 7 .eql 5 (ci 2),om 6 7]
(cN 6
(sR [fA 8 1 1,lA 9 238 8,kA 10 100 9,om 2 10,oo 3 (.mv (ci 0))]
.ret)
(sR [bC 12 .eql 5 (ci 3),om 11 12]
(cN 11
(sR [fA 13 239 1,lA 14 67 13,kA 15 43 14,eX 16 0 15,eX 17 1 15,om 2 16,om 3 17]
.ret)
(sR [bC 19 .eql 5 (ci 4),om 18 19]
(cN 18
(sR [fA 20 306 1,lA 21 70 20,kA 22 101 21,eX 23 0 22,eX 24 1 22,om 2 23,om 3 24]
.ret)
(sR [bC 26 .eql 5 (ci 5),om 25 26]
(cN 25
(sR [fA 27 376 1,lA 28 34 27,kA 29 102 28,eX 30 0 29,eX 31 1 29,om 2 30,om 3 31]
.ret)
(sR [bC 33 .eql 5 (ci 6),om 32 33]
(cN 32
(sR [fA 34 410 1,lA 35 34 34,kA 36 103 35,eX 37 0 36,eX 38 1 36,om 2 37,om 3 38]
.ret)
(sR [bC 40 .eql 5 (ci 8),om 39 40]
(cN 39
(.seq (sR [fA 41 444 1,lF 42 1 41,kA 43 104 42,oo 44 (.un .not (.t 43)),om 45 44,og 46 (.fldA 445 (.t 1)) 45 false,og 47 (.ld false 1 (.t 46)) 45 false,og 48 (.call (cf 104) [(.t 47)]) 45 false,og 49 (.un .not (.t 48)) 45 false,oo 50 (.pick (.t 45) (cb true) (.t 49))]
(cN 50
(sR [oo 2 (.mv (.c (.sl 0 true []))),oo 3 (.mv (ci 3))]
.ret)
.skip))
(.seq (.dreg [(fA 51 444 1,0),(lF 52 1 51,1),(oo 53 (.cvt .u64 (.t 52)),3),(oo 54 (.call (cf 63) [(.c (.sl 0 true [])),(.t 53)]),7),(fA 55 445 1,0),(lF 56 1 55,16),(oo 57 (.cvt .u64 (.t 56)),48),(kB 58 63 54 57,127),(om 2 58,255),(oo 3 (.mv (ci 0)),511)])
.ret))
.skip))))))))))))))
(sR [oo 2 (.mv (.c (.sl 0 true []))),oo 3 (.mv (ci 0))]
.ret)))
theorem vH_:as_ Tryz.prog 59=some (59,[.tmp 2,.tmp 3],mB_):=by kernel_rfl
def qp_:ad_:=(sR [oo 1 (.box 446 (.t 0)),oo 2 (.mv (.c (.sl 0 true []))),oo 3 (.mv (ci 0))]
(.seq (sR [fA 4 0 1,lF 5 1 4]
(.block 0 (sR [bC 7 .eql 5 (ci 2),om 6 7]
(cN 6
(sR [fA 8 1 1,lA 9 238 8,oo 10 (.call (cf 8) [(.c (.sl 0 true [])),(.t 9)]),om 2 10,oo 3 (.mv (ci 0))]
.ret)
(sR [bC 12 .eql 5 (ci 3),om 11 12]
(cN 11
(sR [fA 13 239 1,lA 14 67 13,kA 15 10 14,eX 16 0 15,eX 17 1 15,om 2 16,om 3 17]
.ret)
(sR [bC 19 .eql 5 (ci 4),om 18 19]
(cN 18
(sR [fA 20 306 1,lA 21 70 20,kA 22 12 21,eX 23 0 22,eX 24 1 22,om 2 23,om 3 24]
.ret)
(sR [bC 26 .eql 5 (ci 5),om 25 26]
(cN 25
(sR [fA 27 376 1,lA 28 34 27,kA 29 14 28,eX 30 0 29,eX 31 1 29,om 2 30,om 3 31]
.ret)
(sR [bC 33 .eql 5 (ci 6),om 32 33]
(cN 32
(sR [fA 34 410 1,lA 35 34 34,kA 36 107 35,eX 37 0 36,eX 38 1 36,om 2 37,om 3 38]
.ret)
(sR [bC 40 .eql 5 (ci 8),om 39 40]
(cN 39
(.seq (sR [fA 41 444 1,lF 42 1 41,bC 43 .lss 42 (ci 0),om 44 43,og 45 (.fldA 444 (.t 1)) 44 false,og 46 (.ld false 1 (.t 45)) 44 false,og 47 (.bin .gtr (.t 46) (ci 32768)) 44 false,oo 48 (.pick (.t 44) (cb true) (.t 47)),om 49 48,og 50 (.fldA 445 (.t 1)) 49 false,og 51 (.ld false 1 (.t 50)) 49 false,og 52 (.bin .lss (.t 51) (ci 0)) 49 false,oo 53 (.pick (.t 49) (cb true) (.t 52)),om 54 53,og 55 (.fldA 445 (.t 1)) 54 false,og 56 (.ld false 1 (.t 55)) 54 false,og 57 (.bin .gtr (.t 56) (ci 32768)) 54 false,oo 58 (.pick (.t 54) (cb true) (.t 57))]
(cN 58
(sR [oo 2 (.mv (.c (.sl 0 true []))),oo 3 (.mv (ci 3))]
.ret)
.skip))
(.seq (.dreg [(fA 59 444 1,0),(lF 60 1 59,1),(oo 61 (.cvt .u64 (.t 60)),3),(oo 62 (.call (cf 32) [(.c (.sl 0 true [])),(.t 61)]),7),(fA 63 445 1,0),(lF 64 1 63,16),(oo 65 (.cvt .u64 (.t 64)),48),(kB 66 32 62 65,127),(om 2 66,255),(oo 3 (.mv (ci 0)),511)])
.ret))
.skip))))))))))))))
(sR [oo 2 (.mv (.c (.sl 0 true []))),oo 3 (.mv (ci 0))]
.ret)))
theorem Ch_:as_ Tryz.prog 61=some (67,[.tmp 2,.tmp 3],qp_):=by kernel_rfl
def oS_:ad_:=(sR [oo 1 (.box 446 (.t 0)),oo 2 (.mv (cb false))]
(.seq (.dreg [(fA 6 1 1,0),(lA 7 238 6,1),(oo 8 (.bld (aw_ bj_) []),0),(oo 9 (.eqa [(237,1),(1,0)] false (.t 7) (.t 8)),7),(oo 10 (.bld [(.int .i64 (0)),(.bool false)] [(0,1,(ci 2)),(1,1,(.t 9))]),15),(fA 11 239 1,0),(lA 12 67 11,32),(kA 13 105 12,96),(oo 14 (.bld [(.int .i64 (0)),(.bool false)] [(0,1,(ci 3)),(1,1,(.t 13))]),224),(fA 15 306 1,0),(fA 16 0 15,512),(lA 17 35 16,1536),(kA 18 106 17,3808),(om 19 18,7904),(og 20 (.fldA 306 (.t 1)) 19 true,16096),(og 21 (.fldA 35 (.t 20)) 19 true,32480),(og 22 (.ld true 35 (.t 21)) 19 true,65248),(og 23 (.call (cf 106) [(.t 22)]) 19 true,130784),(oo 24 (.pick (.t 19) (.t 23) (cb false)),261856),(oo 25 (.bld [(.int .i64 (0)),(.bool false)] [(0,1,(ci 4)),(1,1,(.t 24))]),524000),(fA 26 376 1,0),(fA 27 0 26,1048576),(lA 28 33 27,3145728),(oo 29 (.bld (cpC cp0) []),0),(oo 30 (.eqa [(33,1)] false (.t 28) (.t 29)),15728640),(om 31 30,32767712),(og 32 (.fldA 376 (.t 1)) 31 true,66322144),(og 33 (.fldA 33 (.t 32)) 31 true,133431008),(og 34 (.ld false 1 (.t 33)) 31 true,267648736),(og 35 (.len false (.t 34)) 31 true,536084192),(og 36 (.bin .eql (.t 35) (ci 0)) 31 true,1072955104),(oo 37 (.pick (.t 31) (.t 36) (cb false)),2146696928),(oo 38 (.bld [(.int .i64 (0)),(.bool false)] [(0,1,(ci 5)),(1,1,(.t 37))]),4294180576),(fA 39 410 1,0),(lA 40 34 39,8589934592),(oo 41 (.bld (bW_ bL_) []),0),(oo 42 (.eqa [(34,1)] false (.t 40) (.t 41)),60129542144),(oo 43 (.bld [(.int .i64 (0)),(.bool false)] [(0,1,(ci 6)),(1,1,(.t 42))]),128849018880),(fA 44 444 1,0),(lF 45 1 44,274877906944),(bC 46 .eql 45 (ci 0),824633720832),(om 47 46,1924211670752),(og 48 (.fldA 445 (.t 1)) 47 true,4123234926304),(og 49 (.ld false 1 (.t 48)) 47 true,8521281437408),(og 50 (.bin .eql (.t 49) (ci 0)) 47 true,17317374459616),(oo 51 (.pick (.t 47) (.t 50) (cb false)),34909560504032),(oo 52 (.bld [(.int .i64 (0)),(.bool false)] [(0,1,(ci 8)),(1,1,(.t 51))]),70093932592864),(oo 53 (.bldS 2 6 [(.int .i64 (0)),(.bool false)] [(0,(.t 10)),(1,(.t 14)),(2,(.t 25)),(3,(.t 38)),(4,(.t 43)),(5,(.t 52))]),140737488355327),(om 3 53,281474976710655)])
(.seq (sR [om 54 3,lN 55 54,oo 56 (.mv (ci 0))]
(.block 0 (.loop (sR [bI 57 .lss 56 55]
(.seq (cN 57
.skip
(.exit 0))
(.seq (.block 1 (sR [iX 58 2 54 56,lA 59 2 58,oo 5 (.new [(.int .i64 (0)),(.bool false)]),sO 2 5 59]
(sR [fA 60 0 5,lF 61 1 60,fA 62 0 1,lF 63 1 62,bI 64 .neq 61 63,om 65 64,og 66 (.fldA 1 (.t 5)) 65 true,og 67 (.ld false 1 (.t 66)) 65 true,og 68 (.un .not (.t 67)) 65 true,oo 69 (.pick (.t 65) (.t 68) (cb false))]
(cN 69
(sR [oo 2 (.mv (cb false))]
.ret)
.skip))))
(.reg [bC 70 .add 56 (ci 1),om 56 70])))))))
(sR [oo 2 (.mv (cb true))]
.ret))))
theorem yA_:as_ Tryz.prog 60=some (71,[.tmp 2],oS_):=by kernel_rfl
def oN_:ad_:=(sR [oo 2 (.box 446 (.t 0)),oo 3 (.box 446 (.t 1)),oo 4 (.mv (cb false))]
(sR [fA 5 0 2,lF 6 1 5,fA 7 0 3,lF 8 1 7,bI 9 .eql 6 8,om 10 9,og 11 (.fldA 1 (.t 2)) 10 true,og 12 (.ld true 238 (.t 11)) 10 true,og 13 (.fldA 1 (.t 3)) 10 true,og 14 (.ld true 238 (.t 13)) 10 true,og 15 (.eqa [(237,1),(1,0)] false (.t 12) (.t 14)) 10 true,oo 16 (.pick (.t 10) (.t 15) (cb false)),om 17 16,og 18 (.fldA 239 (.t 2)) 17 true,og 19 (.ld true 67 (.t 18)) 17 true,og 20 (.fldA 239 (.t 3)) 17 true,og 21 (.ld true 67 (.t 20)) 17 true,og 22 (.call (cf 48) [(.t 19),(.t 21)]) 17 true,oo 23 (.pick (.t 17) (.t 22) (cb false)),om 24 23,og 25 (.fldA 306 (.t 2)) 24 true,og 26 (.ld true 70 (.t 25)) 24 true,og 27 (.fldA 306 (.t 3)) 24 true,og 28 (.ld true 70 (.t 27)) 24 true,og 29 (.call (cf 51) [(.t 26),(.t 28)]) 24 true,oo 30 (.pick (.t 24) (.t 29) (cb false)),om 31 30,og 32 (.fldA 376 (.t 2)) 31 true,og 33 (.ld true 34 (.t 32)) 31 true,og 34 (.fldA 376 (.t 3)) 31 true,og 35 (.ld true 34 (.t 34)) 31 true,og 36 (.call (cf 54) [(.t 33),(.t 35)]) 31 true,oo 37 (.pick (.t 31) (.t 36) (cb false)),om 38 37,og 39 (.fldA 410 (.t 2)) 38 true,og 40 (.ld true 34 (.t 39)) 38 true,og 41 (.fldA 410 (.t 3)) 38 true,og 42 (.ld true 34 (.t 41)) 38 true,og 43 (.eqa [(34,1)] false (.t 40) (.t 42)) 38 true,oo 44 (.pick (.t 38) (.t 43) (cb false)),om 45 44,og 46 (.fldA 444 (.t 2)) 45 true,og 47 (.ld false 1 (.t 46)) 45 true,og 48 (.fldA 444 (.t 3)) 45 true,og 49 (.ld false 1 (.t 48)) 45 true,og 50 (.bin .eql (.t 47) (.t 49)) 45 true,oo 51 (.pick (.t 45) (.t 50) (cb false)),om 52 51,og 53 (.fldA 445 (.t 2)) 52 true,og 54 (.ld false 1 (.t 53)) 52 true,og 55 (.fldA 445 (.t 3)) 52 true,og 56 (.ld false 1 (.t 55)) 52 true,og 57 (.bin .eql (.t 54) (.t 56)) 52 true,oo 58 (.pick (.t 52) (.t 57) (cb false)),om 4 58]
.ret))
theorem yv_:as_ Tryz.prog 62=some (59,[.tmp 4],oN_):=by kernel_rfl
def lR_:ad_:=(sR [oo 2 (.mv (.c (.sl 0 true []))),oo 3 (.mv (ci 0)),oo 4 (.mv (ci 0))]
(sR [om 8 0,kA 9 108 8,om 5 9]
(.seq (.block 0 (.loop (.seq (sR [om 10 5,kA 11 109 10,bC 12 .gtr 11 (ci 0)]
(cN 12
.skip
(.exit 0)))
(.block 1 (.seq (sR [om 13 2,lN 14 13,bC 15 .eql 14 (ci 4096)]
(cN 15
(sR [om 16 2,om 17 3,om 2 16,om 3 17,oo 4 (.mv (ci 11))]
.ret)
.skip))
(sR [om 19 5,kA 20 110 19,om 18 20,eX 21 0 18,eX 22 1 18,oo 6 (.new (aI_ dy_)),sO 446 6 21,om 7 22]
(.seq (sR [om 23 7,bC 24 .neq 23 (ci 0)]
(cN 24
(sR [om 25 2,om 26 3,om 27 7,om 2 25,om 3 26,om 4 27]
.ret)
.skip))
(.reg [om 28 2,lA 29 446 6,oo 30 (.bldS 446 1 (aI_ dy_) [(0,(.t 29))]),oo 31 (.app 446 720 (.t 28) (.t 30)),om 32 0,lN 33 32,om 34 5,kA 35 109 34,bI 36 .sub 33 35,om 2 31,om 3 36]))))))))
(sR [om 37 2,om 38 3,om 2 37,om 3 38,oo 4 (.mv (ci 0))]
.ret))))
theorem ua_:as_ Tryz.prog 64=some (39,[.tmp 2,.tmp 3,.tmp 4],lR_):=by kernel_rfl
def oO_:ad_:=(sR [oo 2 (.mv (.c (.sl 0 true []))),oo 3 (.mv (ci 0)),oo 4 (.mv (ci 0))]
(.seq (sR [om 10 0,lN 11 10,bC 12 .gtr 11 (ci 1048576)]
(cN 12
(sR [oo 2 (.mv (.c (.sl 0 true []))),oo 3 (.mv (ci 0)),oo 4 (.mv (ci 11))]
.ret)
.skip))
(sR [oo 5 (.mv (.c (.sl 0 true [])))]
(sR [oo 6 (.mv (ci 0))]
(.seq (.block 0 (.loop (.seq (sR [om 13 6,om 14 0,lN 15 14,bI 16 .lss 13 15]
(cN 16
.skip
(.exit 0)))
(.block 1 (.seq (sR [om 17 5,lN 18 17,bC 19 .eql 18 (ci 4096)]
(cN 19
(sR [om 20 5,om 21 6,om 2 20,om 3 21,oo 4 (.mv (ci 11))]
.ret)
.skip))
(sR [om 23 0,om 24 6,oo 25 (.sli 1 (.t 23) (some (.t 24)) none none),kA 26 111 25,om 22 26,eX 27 0 22,eX 28 1 22,eX 29 2 22,oo 7 (.new (aI_ dy_)),sO 446 7 27,om 8 28,om 9 29]
(.seq (sR [om 30 9,bC 31 .neq 30 (ci 0)]
(cN 31
(sR [om 32 5,om 33 6,om 34 9,om 2 32,om 3 33,om 4 34]
.ret)
.skip))
(.reg [om 35 5,lA 36 446 7,oo 37 (.bldS 446 1 (aI_ dy_) [(0,(.t 36))]),oo 38 (.app 446 720 (.t 35) (.t 37)),om 39 6,om 40 8,bI 41 .add 39 40,om 5 38,om 6 41]))))))))
(sR [om 42 5,om 43 6,om 2 42,om 3 43,oo 4 (.mv (ci 0))]
.ret))))))
theorem yw_:as_ Tryz.prog 65=some (44,[.tmp 2,.tmp 3,.tmp 4],oO_):=by kernel_rfl
def lS_:ad_:=(sR [oo 2 (.mv (cb false))]
(sR [om 3 0,bC 4 .geq 3 (ci 0),om 5 4,omg 6 0 5 true,og 7 (.bin .leq (.t 6) (ci 32768)) 5 true,oo 8 (.pick (.t 5) (.t 7) (cb false)),om 2 8]
.ret))
theorem ub_:as_ Tryz.prog 104=some (9,[.tmp 2],lS_):=by kernel_rfl
def fO_:ad_:=(sR [oo 1 (.box 67 (.t 0)),oo 2 (.mv (cb false))]
(sR [fA 3 0 1,lF 4 1 3,bC 5 .eql 4 (cu 0),om 6 5,og 7 (.fldA 1 (.t 1)) 6 true,og 8 (.ld true 32 (.t 7)) 6 true,og 9 (.bld (rtc rt0) []) 6 true,og 10 (.eqa [(32,1)] false (.t 8) (.t 9)) 6 true,oo 11 (.pick (.t 6) (.t 10) (cb false)),om 12 11,og 13 (.fldA 33 (.t 1)) 12 true,og 14 (.ld true 33 (.t 13)) 12 true,og 15 (.bld (cpC cp0) []) 12 true,og 16 (.eqa [(33,1)] false (.t 14) (.t 15)) 12 true,oo 17 (.pick (.t 12) (.t 16) (cb false)),om 18 17,og 19 (.fldA 66 (.t 1)) 18 true,og 20 (.ld false 1 (.t 19)) 18 true,og 21 (.len false (.t 20)) 18 true,og 22 (.bin .eql (.t 21) (ci 0)) 18 true,oo 23 (.pick (.t 18) (.t 22) (cb false)),om 2 23]
.ret))
theorem lh_:as_ Tryz.prog 105=some (24,[.tmp 2],fO_):=by kernel_rfl
def kA_:ad_:=(sR [oo 1 (.box 35 (.t 0)),oo 2 (.mv (cb false))]
(sR [fA 3 0 1,lF 4 1 3,bC 5 .eql 4 (cu 0),om 6 5,og 7 (.fldA 1 (.t 1)) 6 true,og 8 (.ld false 1 (.t 7)) 6 true,og 9 (.bin .eql (.t 8) (cu 0)) 6 true,oo 10 (.pick (.t 6) (.t 9) (cb false)),om 11 10,og 12 (.fldA 2 (.t 1)) 11 true,og 13 (.ld true 32 (.t 12)) 11 true,og 14 (.bld (rtc rt0) []) 11 true,og 15 (.eqa [(32,1)] false (.t 13) (.t 14)) 11 true,oo 16 (.pick (.t 11) (.t 15) (cb false)),om 17 16,og 18 (.fldA 34 (.t 1)) 17 true,og 19 (.ld false 1 (.t 18)) 17 true,og 20 (.len false (.t 19)) 17 true,og 21 (.bin .eql (.t 20) (ci 0)) 17 true,oo 22 (.pick (.t 17) (.t 21) (cb false)),om 2 22]
.ret))
theorem sm_:as_ Tryz.prog 106=some (23,[.tmp 2],kA_):=by kernel_rfl
def iy_:ad_:=(sR [oo 2 (.new (aI_ dy_)),oo 3 (.mv (ci 0))]
(sR [om 8 0,oo 9 (.call (cf 95) [(.t 8),(cu 8)]),oo 10 (.cvt .i64 (.t 9)),oo 11 (.bld (aI_ dy_) [(0,1,(.t 10))]),oo 4 (.new (aI_ dy_)),sO 446 4 11]
(.seq (sR [om 12 0,kA 13 96 12,om 5 13]
(sR [om 14 5,bC 15 .neq 14 (ci 0)]
(cN 15
(sR [oo 16 (.bld (aI_ dy_) []),om 17 5,sO 446 2 16,om 3 17]
.ret)
.skip)))
(sR [oo 6 (.mv (ci 0)),oo 7 (.mv (ci 0))]
(.seq (sR [fA 18 0 4,lF 19 1 18]
(.block 0 (sR [bC 21 .eql 19 (ci 0),om 20 21]
(cN 20
(.reg [oo 7 (.mv (ci 2))])
(sR [bC 23 .eql 19 (ci 2),om 22 23]
(cN 22
(.reg [om 25 0,kA 26 125 25,kA 27 45 26,om 24 27,eX 28 0 24,eX 29 1 24,eX 30 2 24,fA 31 1 4,sO 238 31 28,om 6 29,om 7 30])
(sR [bC 33 .eql 19 (ci 3),om 32 33]
(cN 32
(.reg [om 35 0,kA 36 125 35,kA 37 44 36,om 34 37,eX 38 0 34,eX 39 1 34,eX 40 2 34,fA 41 239 4,sO 67 41 38,om 6 39,om 7 40])
(sR [bC 43 .eql 19 (ci 4),om 42 43]
(cN 42
(.reg [om 45 0,kA 46 125 45,kA 47 49 46,om 44 47,eX 48 0 44,eX 49 1 44,eX 50 2 44,fA 51 306 4,sO 70 51 48,om 6 49,om 7 50])
(sR [bC 53 .eql 19 (ci 5),om 52 53]
(cN 52
(.reg [om 55 0,kA 56 125 55,kA 57 52 56,om 54 57,eX 58 0 54,eX 59 1 54,eX 60 2 54,fA 61 376 4,sO 34 61 58,om 6 59,om 7 60])
(sR [bC 63 .eql 19 (ci 6),om 62 63]
(cN 62
(.reg [om 65 0,kA 66 125 65,kA 67 55 66,om 64 67,eX 68 0 64,eX 69 1 64,eX 70 2 64,fA 71 410 4,sO 34 71 68,om 6 69,om 7 70])
(sR [bC 73 .eql 19 (ci 8),om 72 73]
(cN 72
(.reg [om 74 0,oo 75 (.call (cf 95) [(.t 74),(cu 32768)]),oo 76 (.cvt .i64 (.t 75)),om 77 0,oo 78 (.call (cf 95) [(.t 77),(cu 32768)]),oo 79 (.cvt .i64 (.t 78)),fA 80 444 4,sO 1 80 76,fA 81 445 4,sO 1 81 79])
.skip))))))))))))))))
(sR [om 82 0,om 83 6,om 84 7,kC 85 126 82 83 84]
(.seq (.dreg [(lA 86 446 4,0),(om 87 0,0),(kA 88 96 87,2),(sO 446 2 86,7),(om 3 88,15)])
.ret)))))))
theorem py_:as_ Tryz.prog 110=some (89,[.cell 2 true 446,.tmp 3],iy_):=by kernel_rfl
def tb_:ad_:=(sR [oo 2 (.new (aI_ dy_)),oo 3 (.mv (ci 0)),oo 4 (.mv (ci 0))]
(sR [om 10 0,oo 11 (.bld [(.sl 0 true []),(.int .i64 (0)),(.int .i64 (0))] [(0,1,(.t 10))]),oo 12 (.box 3 (.t 11)),om 5 12]
(sR [om 13 5,oo 14 (.call (cf 87) [(.t 13),(cu 8)]),oo 15 (.cvt .i64 (.t 14)),oo 16 (.bld (aI_ dy_) [(0,1,(.t 15))]),oo 6 (.new (aI_ dy_)),sO 446 6 16]
(.seq (sR [om 17 5,oo 18 (.nilc (.t 17)),fA 19 2 18,lF 20 1 19,bC 21 .neq 20 (ci 0)]
(cN 21
(.seq (.dreg [(oo 22 (.bld (aI_ dy_) []),0),(om 23 5,0),(oo 24 (.nilc (.t 23)),2),(fA 25 2 24,6),(lF 26 1 25,14),(sO 446 2 22,1),(oo 3 (.mv (ci 0)),33),(om 4 26,127)])
.ret)
.skip))
(sR [om 27 5,oo 28 (.nilc (.t 27)),fA 29 1 28,lF 30 1 29,om 7 30]
(sR [oo 8 (.mv (ci 0)),oo 9 (.mv (ci 0))]
(.seq (sR [fA 31 0 6,lF 32 1 31]
(.block 0 (sR [bC 34 .eql 32 (ci 0),om 33 34]
(cN 33
(.reg [oo 9 (.mv (ci 2))])
(sR [bC 36 .eql 32 (ci 2),om 35 36]
(cN 35
(.reg [om 38 0,om 39 7,oo 40 (.sli 1 (.t 38) (some (.t 39)) none none),kA 41 46 40,om 37 41,eX 42 0 37,eX 43 1 37,eX 44 2 37,fA 45 1 6,sO 238 45 42,om 8 43,om 9 44])
(sR [bC 47 .eql 32 (ci 3),om 46 47]
(cN 46
(.reg [om 49 0,om 50 7,oo 51 (.sli 1 (.t 49) (some (.t 50)) none none),kA 52 47 51,om 48 52,eX 53 0 48,eX 54 1 48,eX 55 2 48,fA 56 239 6,sO 67 56 53,om 8 54,om 9 55])
(sR [bC 58 .eql 32 (ci 4),om 57 58]
(cN 57
(.reg [om 60 0,om 61 7,oo 62 (.sli 1 (.t 60) (some (.t 61)) none none),kA 63 50 62,om 59 63,eX 64 0 59,eX 65 1 59,eX 66 2 59,fA 67 306 6,sO 70 67 64,om 8 65,om 9 66])
(sR [bC 69 .eql 32 (ci 5),om 68 69]
(cN 68
(.reg [om 71 0,om 72 7,oo 73 (.sli 1 (.t 71) (some (.t 72)) none none),kA 74 53 73,om 70 74,eX 75 0 70,eX 76 1 70,eX 77 2 70,fA 78 376 6,sO 34 78 75,om 8 76,om 9 77])
(sR [bC 80 .eql 32 (ci 6),om 79 80]
(cN 79
(.reg [om 82 0,om 83 7,oo 84 (.sli 1 (.t 82) (some (.t 83)) none none),kA 85 56 84,om 81 85,eX 86 0 81,eX 87 1 81,eX 88 2 81,fA 89 410 6,sO 34 89 86,om 8 87,om 9 88])
(sR [bC 91 .eql 32 (ci 8),om 90 91]
(cN 90
(sR [om 92 5,oo 93 (.call (cf 87) [(.t 92),(cu 32768)]),oo 94 (.cvt .i64 (.t 93)),om 95 5,oo 96 (.call (cf 87) [(.t 95),(cu 32768)]),oo 97 (.cvt .i64 (.t 96)),fA 98 444 6,sO 1 98 94,fA 99 445 6,sO 1 99 97]
(.dreg [(om 100 5,0),(oo 101 (.nilc (.t 100)),1),(fA 102 1 101,3),(lF 103 1 102,7),(om 104 7,0),(bI 105 .sub 103 104,31),(om 106 5,0),(oo 107 (.nilc (.t 106)),64),(fA 108 2 107,192),(lF 109 1 108,448),(om 8 105,63),(om 9 109,2047)]))
.skip))))))))))))))))
(.seq (sR [om 110 9,bC 111 .neq 110 (ci 0)]
(cN 111
(sR [oo 112 (.bld (aI_ dy_) []),om 113 9,sO 446 2 112,oo 3 (.mv (ci 0)),om 4 113]
.ret)
.skip))
(sR [lA 114 446 6,om 115 7,om 116 8,bI 117 .add 115 116,sO 446 2 114,om 3 117,oo 4 (.mv (ci 0))]
.ret)))))))))
theorem Eg_:as_ Tryz.prog 111=some (118,[.cell 2 true 446,.tmp 3,.tmp 4],tb_):=by kernel_rfl
def jl_:ad_:=(sR [oo 2 (.mv (.c (.sl 0 true [])))]
(sR [om 3 0,oo 4 (.nilc (.t 3)),fA 5 0 4,lF 6 1 5,om 2 6]
.ret))
theorem qH_:as_ Tryz.prog 125=some (7,[.tmp 2],jl_):=by kernel_rfl
def fH_:ad_:=(.block 0 (sR [om 16 0,oo 17 (.nilc (.t 16)),fA 18 1 17,lF 19 1 18,bC 20 .neq 19 (ci 0),om 15 20]
(cN 15
.skip
(sR [om 22 2,bC 23 .neq 22 (ci 0),om 21 23]
(cN 21
(.reg [om 24 0,om 25 2,kB 26 115 24 25])
(.reg [om 6 0,om 7 0,oo 8 (.nilc (.t 7)),fA 9 0 8,lF 10 1 9,om 11 1,oo 12 (.sli 1 (.t 10) (some (.t 11)) none none),oo 13 (.nilc (.t 6)),fA 14 0 13,sO 1 14 12]))))))
theorem jw_:as_ Tryz.prog 126=some (27,[],fH_):=by kernel_rfl
def vg_:ad_:=(sR [oo 2 (.mv (cu 0)),oo 3 (.mv (ci 0))]
(sR [oo 4 (.mv (cu 0))]
(.seq (sR [oo 5 (.mv (ci 0))]
(.block 0 (.loop (.seq (sR [om 8 5,om 9 0,lN 10 9,bI 11 .lss 8 10]
(cN 11
.skip
(.exit 0)))
(.seq (.block 1 (sR [om 15 4,om 16 0,om 17 5,iX 18 1 16 17,lF 19 1 18,kB 20 164 15 19,om 14 20,eX 21 0 14,eX 22 1 14,om 6 21,om 7 22]
(.seq (sR [om 23 7,bC 24 .neq 23 (ci 0)]
(cN 24
(sR [om 25 7,oo 2 (.mv (cu 0)),om 3 25]
.ret)
.skip))
(.reg [om 26 6,om 4 26]))))
(.reg [om 12 5,bC 13 .add 12 (ci 1),om 5 13]))))))
(sR [om 27 4,om 2 27,oo 3 (.mv (ci 0))]
.ret))))
theorem GC_:as_ Tryz.prog 143=some (28,[.tmp 2,.tmp 3],vg_):=by kernel_rfl
def ve_:ad_:=(sR [oo 4 (.mv (cu 0)),oo 5 (.mv (ci 0))]
(.seq (sR [om 6 0,om 7 1,oo 8 (.bin .sub (cu 18446744073709551615) (.t 7)),bI 9 .gtr 6 8]
(cN 9
(sR [oo 4 (.mv (cu 0)),oo 5 (.mv (ci 4))]
.ret)
.skip))
(sR [om 10 0,om 11 1,bI 12 .add 10 11,om 4 12,oo 5 (.mv (ci 0))]
.ret)))
theorem GA_:as_ Tryz.prog 164=some (13,[.tmp 4,.tmp 5],ve_):=by kernel_rfl
def mv_:ad_:=(sR [oo 4 (.mv (cu 0)),oo 5 (.mv (ci 0))]
(.seq (sR [om 6 1,kA 7 208 6,oo 8 (.un .not (.t 7))]
(cN 8
(sR [oo 4 (.mv (cu 0)),oo 5 (.mv (ci 3))]
.ret)
.skip))
(sR [om 9 0,om 10 1,kB 11 209 9 10,eX 12 0 11,eX 13 1 11,om 4 12,om 5 13]
.ret)))
theorem vE_:as_ Tryz.prog 198=some (14,[.tmp 4,.tmp 5],mv_):=by kernel_rfl
def oH_:ad_:=(sR [oo 2 (.mv (cb false))]
(sR [om 3 0,bC 4 .geq 3 (cu 1),om 5 4,omg 6 0 5 true,og 7 (.bin .leq (.t 6) (cu 64)) 5 true,oo 8 (.pick (.t 5) (.t 7) (cb false)),om 2 8]
.ret))
theorem yo_:as_ Tryz.prog 208=some (9,[.tmp 2],oH_):=by kernel_rfl
def vf_:ad_:=(sR [oo 4 (.mv (cu 0)),oo 5 (.mv (ci 0))]
(.seq (sR [om 6 1,bC 7 .neq 6 (cu 0),om 8 7,omg 9 0 8 true,omg 10 1 8 true,og 11 (.bin .quo (cu 18446744073709551615) (.t 10)) 8 true,og 12 (.bin .gtr (.t 9) (.t 11)) 8 true,oo 13 (.pick (.t 8) (.t 12) (cb false))]
(cN 13
(sR [oo 4 (.mv (cu 0)),oo 5 (.mv (ci 4))]
.ret)
.skip))
(sR [om 14 0,om 15 1,bI 16 .mul 14 15,om 4 16,oo 5 (.mv (ci 0))]
.ret)))
theorem GB_:as_ Tryz.prog 209=some (17,[.tmp 4,.tmp 5],vf_):=by kernel_rfl
def lG_:ad_:=(sR [oo 3 (.box 32 (.t 1)),oo 4 (.mv (cb false))]
(.seq (sR [oo 5 (.mv (ci 0))]
(.block 0 (.loop (.seq (sR [om 6 5,om 7 0,lN 8 7,bI 9 .lss 6 8]
(cN 9
.skip
(.exit 0)))
(.seq (.block 1 (.seq (.dreg [(om 12 0,0),(om 13 5,0),(iX 14 32 12 13,3),(lA 15 32 14,7),(lA 16 32 3,0),(oo 17 (.eqa [(32,1)] false (.t 15) (.t 16)),31)])
(cN 17
(sR [oo 4 (.mv (cb true))]
.ret)
.skip)))
(.reg [om 10 5,bC 11 .add 10 (ci 1),om 5 11]))))))
(sR [oo 4 (.mv (cb false))]
.ret)))
theorem tO_:as_ Tryz.prog 210=some (18,[.tmp 4],lG_):=by kernel_rfl
def mu_:ad_:=(sR [oo 2 (.box 4 (.t 0)),oo 3 (.box 4 (.t 1)),oo 4 (.mv (ci 0))]
(.seq (sR [oo 5 (.mv (ci 3))]
(.block 0 (.loop (.seq (sR [om 6 5,bC 7 .geq 6 (ci 0)]
(cN 7
.skip
(.exit 0)))
(.seq (.block 1 (.seq (.seq (.dreg [(om 10 5,0),(oo 11 (.idxA 4 1 (.t 2) (.t 10)),1),(lF 12 1 11,3),(om 13 5,0),(oo 14 (.idxA 4 1 (.t 3) (.t 13)),8),(lF 15 1 14,24),(bI 16 .lss 12 15,63)])
(cN 16
(sR [oo 4 (.mv (ci (-1)))]
.ret)
.skip))
(.seq (.dreg [(om 17 5,0),(oo 18 (.idxA 4 1 (.t 2) (.t 17)),1),(lF 19 1 18,3),(om 20 5,0),(oo 21 (.idxA 4 1 (.t 3) (.t 20)),8),(lF 22 1 21,24),(bI 23 .gtr 19 22,63)])
(cN 23
(sR [oo 4 (.mv (ci 1))]
.ret)
.skip))))
(.reg [om 8 5,bC 9 .sub 8 (ci 1),om 5 9]))))))
(sR [oo 4 (.mv (ci 0))]
.ret)))
theorem vD_:as_ Tryz.prog 201=some (24,[.tmp 4],mu_):=by kernel_rfl
def hx_:ad_:=(sR [oo 2 (.box 32 (.t 0)),oo 3 (.box 32 (.t 1)),oo 4 (.mv (ci 0))]
(.seq (sR [oo 5 (.mv (ci 0))]
(.block 0 (.loop (.seq (sR [om 6 5,bC 7 .lss 6 (ci 32)]
(cN 7
.skip
(.exit 0)))
(.seq (.block 1 (.seq (.seq (.dreg [(om 10 5,0),(oo 11 (.idxA 32 1 (.t 2) (.t 10)),1),(lF 12 1 11,3),(om 13 5,0),(oo 14 (.idxA 32 1 (.t 3) (.t 13)),8),(lF 15 1 14,24),(bI 16 .lss 12 15,63)])
(cN 16
(sR [oo 4 (.mv (ci (-1)))]
.ret)
.skip))
(.seq (.dreg [(om 17 5,0),(oo 18 (.idxA 32 1 (.t 2) (.t 17)),1),(lF 19 1 18,3),(om 20 5,0),(oo 21 (.idxA 32 1 (.t 3) (.t 20)),8),(lF 22 1 21,24),(bI 23 .gtr 19 22,63)])
(cN 23
(sR [oo 4 (.mv (ci 1))]
.ret)
.skip))))
(.reg [om 8 5,bC 9 .add 8 (ci 1),om 5 9]))))))
(sR [oo 4 (.mv (ci 0))]
.ret)))
theorem nY_:as_ Tryz.prog 196=some (24,[.tmp 4],hx_):=by kernel_rfl
def gP_:ad_:=(sR [oo 2 (.box 34 (.t 0)),oo 4 (.mv (ci 0))]
(.seq (sR [fA 7 33 2,lF 8 1 7,lN 9 8,om 10 1,bI 11 .neq 9 10]
(cN 11
(sR [oo 4 (.mv (ci 2))]
.ret)
.skip))
(sR [fA 13 33 2,lF 14 1 13,kA 15 143 14,om 12 15,eX 16 0 12,eX 17 1 12,om 5 16,om 6 17]
(.seq (sR [om 18 6,bC 19 .neq 18 (ci 0),om 20 19,omg 21 5 20 false,og 22 (.bin .gtr (.t 21) (cu 4611686018427387904)) 20 false,oo 23 (.pick (.t 20) (cb true) (.t 22))]
(cN 23
(sR [oo 4 (.mv (ci 4))]
.ret)
.skip))
(sR [oo 4 (.mv (ci 0))]
.ret)))))
theorem mQ_:as_ Tryz.prog 128=some (24,[.tmp 4],gP_):=by kernel_rfl
def ky_:ad_:=(sR [oo 1 (.box 34 (.t 0)),oo 2 (.new (aS_ ca_))]
(sR [fA 3 33 1,lF 4 1 3,oo 5 (.app 1 8 (.c (.sl 0 true [])) (.t 4)),fA 6 33 1,sO 1 6 5]
(sR [lA 7 34 1,sO 34 2 7]
.ret)))
theorem sj_:as_ Tryz.prog 130=some (8,[.cell 2 true 34],ky_):=by kernel_rfl
def lN_:ad_:=(sR [oo 5 (.box 34 (.t 1)),oo 8 (.mv (.c (.sl 0 true []))),oo 9 (.mv (ci 0))]
(.seq (sR [lA 11 34 5,om 12 2,kB 13 128 11 12,om 10 13]
(sR [om 14 10,bC 15 .neq 14 (ci 0)]
(cN 15
(sR [om 16 0,om 17 10,om 8 16,om 9 17]
.ret)
.skip)))
(.seq (sR [om 18 0,fA 19 0 5,lA 20 33 19,kB 21 182 18 20,bC 22 .geq 21 (ci 0)]
(cN 22
(sR [om 23 0,om 8 23,oo 9 (.mv (ci 9))]
.ret)
.skip))
(.seq (sR [om 24 0,lN 25 24,om 26 3,bI 27 .geq 25 26]
(cN 27
(sR [om 28 0,om 8 28,oo 9 (.mv (ci 11))]
.ret)
.skip))
(sR [om 29 0,lA 30 34 5,kB 31 183 29 30,om 8 31,oo 9 (.mv (ci 0))]
.ret)))))
theorem tW_:as_ Tryz.prog 160=some (32,[.tmp 8,.tmp 9],lN_):=by kernel_rfl
def js_:ad_:=(sR [oo 4 (.mv (.c (.sl 0 true [])))]
(sR [oo 5 (.mv (.c (.sl 0 true [])))]
(.seq (sR [oo 6 (.mv (ci 0))]
(.block 0 (.loop (.seq (sR [om 7 6,om 8 0,lN 9 8,bI 10 .lss 7 9]
(cN 10
.skip
(.exit 0)))
(.seq (.block 1 (sR [om 13 0,om 14 6,iX 15 34 13 14,fA 16 0 15,fA 17 0 16,lF 18 1 17,om 19 1,bI 20 .geq 18 19]
(cN 20
(.reg [om 21 5,om 22 0,om 23 6,iX 24 34 22 23,lA 25 34 24,oo 26 (.bldS 34 1 (aS_ ca_) [(0,(.t 25))]),oo 27 (.app 34 64 (.t 21) (.t 26)),om 5 27])
.skip)))
(.reg [om 11 6,bC 12 .add 11 (ci 1),om 6 12]))))))
(sR [om 28 5,om 4 28]
.ret))))
theorem qR_:as_ Tryz.prog 169=some (29,[.tmp 4],js_):=by kernel_rfl
def tc_:ad_:=(sR [oo 6 (.box 32 (.t 2)),oo 8 (.mv (.c (.sl 0 true []))),oo 9 (.mv (ci 0))]
(sR [om 14 0,oo 15 (.app 34 48 (.c (.sl 0 true [])) (.t 14)),om 10 15]
(sR [oo 11 (.mv (ci 0))]
(.seq (sR [oo 12 (.mv (ci 0))]
(.block 0 (.loop (.seq (sR [om 16 12,om 17 3,lN 18 17,bI 19 .lss 16 18]
(cN 19
.skip
(.exit 0)))
(.seq (.block 1 (sR [om 22 10,om 23 3,om 24 12,iX 25 1 23 24,lF 26 1 25,iX 27 34 22 26,lA 28 34 27,oo 13 (.new (cc_ uu_)),sO 34 13 28]
(sR [fA 29 0 13,lF 30 1 29,oo 31 (.un .not (.t 30)),om 32 31,og 33 (.fldA 1 (.t 13)) 32 false,og 34 (.ld false 1 (.t 33)) 32 false,omg 35 1 32 false,og 36 (.bin .lss (.t 34) (.t 35)) 32 false,oo 37 (.pick (.t 32) (cb true) (.t 36))]
(cN 37
(.seq (.dreg [(om 38 10,0),(om 39 3,0),(om 40 12,0),(iX 41 1 39 40,6),(lF 42 1 41,14),(om 43 1,0),(lA 44 32 6,0),(oo 45 (.bld (cc_ uu_) [(0,1,(cb true)),(1,1,(.t 43)),(2,32,(.t 44))]),96),(iX 46 34 38 42,255),(sO 34 46 45,511)])
(.reg [om 47 11,bC 48 .add 47 (ci 1),om 11 48]))
.skip))))
(.reg [om 20 12,bC 21 .add 20 (ci 1),om 12 21]))))))
(sR [om 49 10,om 50 11,om 8 49,om 9 50]
.ret)))))
theorem Eh_:as_ Tryz.prog 173=some (51,[.tmp 8,.tmp 9],tc_):=by kernel_rfl
def oQ_:ad_:=(sR [oo 4 (.mv (.c (.sl 0 true []))),oo 5 (.mv (ci 0))]
(sR [om 8 0,oo 9 (.app 1 8 (.c (.sl 0 true [])) (.t 8)),om 6 9]
(.seq (sR [oo 7 (.mv (ci 0))]
(.block 0 (.loop (.seq (sR [om 10 7,om 11 1,lN 12 11,bI 13 .lss 10 12]
(cN 13
.skip
(.exit 0)))
(.seq (.block 1 (.reg [om 16 6,om 17 1,om 18 7,iX 19 1 17 18,lF 20 1 19,kB 21 180 16 20,om 6 21]))
(.reg [om 14 7,bC 15 .add 14 (ci 1),om 7 15]))))))
(sR [om 22 6,om 23 6,lN 24 23,om 25 0,lN 26 25,bI 27 .sub 24 26,om 4 22,om 5 27]
.ret))))
theorem yy_:as_ Tryz.prog 158=some (28,[.tmp 4,.tmp 5],oQ_):=by kernel_rfl
def kz_:ad_:=(sR [oo 3 (.box 33 (.t 1)),oo 4 (.mv (ci 0))]
(.seq (sR [oo 5 (.mv (ci 0))]
(.block 0 (.loop (.seq (sR [om 6 5,om 7 0,lN 8 7,bI 9 .lss 6 8]
(cN 9
.skip
(.exit 0)))
(.seq (.block 1 (.seq (.dreg [(om 12 0,0),(om 13 5,0),(iX 14 34 12 13,3),(fA 15 0 14,7),(lA 16 33 15,15),(lA 17 33 3,0),(oo 18 (.eqa [(33,1)] false (.t 16) (.t 17)),63)])
(cN 18
(sR [om 19 5,om 4 19]
.ret)
.skip)))
(.reg [om 10 5,bC 11 .add 10 (ci 1),om 5 11]))))))
(sR [oo 4 (.mv (ci (-1)))]
.ret)))
theorem sk_:as_ Tryz.prog 182=some (20,[.tmp 4],kz_):=by kernel_rfl
def bU_:ad_:=(sR [oo 3 (.box 34 (.t 1)),oo 4 (.mv (.c (.sl 0 true [])))]
(sR [oo 5 (.mv (ci 0))]
(.seq (.block 0 (.loop (.seq (.seq (.dreg [(om 6 5,0),(om 7 0,0),(lN 8 7,2),(bI 9 .lss 6 8,7),(om 10 9,15),(omg 11 0 10 true,31),(omg 12 5 10 true,31),(og 13 (.idxS 34 (.t 11) (.t 12)) 10 true,127),(og 14 (.fldA 0 (.t 13)) 10 true,255),(og 15 (.ld true 33 (.t 14)) 10 true,511),(og 16 (.fldA 0 (.t 3)) 10 true,31),(og 17 (.ld true 33 (.t 16)) 10 true,1055),(og 18 (.call (cf 203) [(.t 15),(.t 17)]) 10 true,4095),(og 19 (.bin .lss (.t 18) (ci 0)) 10 true,8191),(oo 20 (.pick (.t 10) (.t 19) (cb false)),16383)])
(cN 20
.skip
(.exit 0)))
(.block 1 (.reg [om 21 5,bC 22 .add 21 (ci 1),om 5 22])))))
(.seq (.dreg [(om 23 0,0),(om 24 5,0),(oo 25 (.sli 34 (.t 23) none (some (.t 24)) none),3),(oo 26 (.app 34 64 (.c (.sl 0 true [])) (.t 25)),7),(lA 27 34 3,0),(kA 28 130 27,31),(oo 29 (.bldS 34 1 (aS_ ca_) [(0,(.t 28))]),63),(oo 30 (.app 34 64 (.t 26) (.t 29)),127),(om 31 0,0),(om 32 5,0),(oo 33 (.sli 34 (.t 31) (some (.t 32)) none none),768),(oo 34 (.app 34 64 (.t 30) (.t 33)),2047),(om 4 34,4095)])
.ret))))
theorem tU_:as_ Tryz.prog 183=some (35,[.tmp 4],bU_):=by kernel_rfl
def eQ_:ad_:=(sR [oo 2 (.box 33 (.t 0)),oo 3 (.box 33 (.t 1)),oo 4 (.mv (ci 0))]
(.seq (sR [fA 5 0 2,lF 6 1 5,fA 7 0 3,lF 8 1 7,bI 9 .neq 6 8]
(cN 9
(.seq (sR [fA 10 0 2,lF 11 1 10,fA 12 0 3,lF 13 1 12,bI 14 .lss 11 13]
(cN 14
(sR [oo 4 (.mv (ci (-1)))]
.ret)
.skip))
(sR [oo 4 (.mv (ci 1))]
.ret))
.skip))
(sR [fA 15 1 2,lA 16 32 15,fA 17 1 3,lA 18 32 17,kB 19 196 16 18,om 4 19]
.ret)))
theorem jb_:as_ Tryz.prog 203=some (20,[.tmp 4],eQ_):=by kernel_rfl
def oR_:ad_:=(sR [oo 3 (.box 2 (.t 0)),oo 6 (.mv (cu 0))]
(sR [oo 7 (.mv (cu 0))]
(.seq (sR [oo 8 (.mv (ci 0))]
(.block 0 (.loop (.seq (sR [om 9 8,om 10 1,lN 11 10,bI 12 .lss 9 11,om 13 12,omg 14 8 13 true,og 15 (.fldA 0 (.t 3)) 13 true,og 16 (.ld false 1 (.t 15)) 13 true,og 17 (.len false (.t 16)) 13 true,og 18 (.bin .lss (.t 14) (.t 17)) 13 true,oo 19 (.pick (.t 13) (.t 18) (cb false))]
(cN 19
.skip
(.exit 0)))
(.seq (.block 1 (sR [fA 22 0 3,lF 23 1 22,om 24 8,iX 25 34 23 24,fA 26 0 25,lF 27 1 26,om 28 27,og 29 (.fldA 1 (.t 3)) 28 true,og 30 (.ld false 1 (.t 29)) 28 true,omg 31 8 28 true,og 32 (.call (cf 181) [(.t 30),(.t 31)]) 28 true,og 33 (.un .not (.t 32)) 28 true,oo 34 (.pick (.t 28) (.t 33) (cb false)),om 35 34,omg 36 2 35 true,og 37 (.fldA 0 (.t 3)) 35 true,og 38 (.ld false 1 (.t 37)) 35 true,omg 39 8 35 true,og 40 (.idxS 34 (.t 38) (.t 39)) 35 true,og 41 (.fldA 2 (.t 40)) 35 true,og 42 (.ld true 32 (.t 41)) 35 true,og 43 (.call (cf 210) [(.t 36),(.t 42)]) 35 true,oo 44 (.pick (.t 35) (.t 43) (cb false))]
(cN 44
(.reg [om 45 7,om 46 1,om 47 8,iX 48 1 46 47,lF 49 1 48,bI 50 .add 45 49,om 7 50])
.skip)))
(.reg [om 20 8,bC 21 .add 20 (ci 1),om 8 21]))))))
(sR [om 51 7,om 6 51]
.ret))))
theorem yz_:as_ Tryz.prog 206=some (52,[.tmp 6],oR_):=by kernel_rfl
def qd_:ad_:=(sR [oo 2 (.box 1 (.t 0)),oo 3 (.box 32 (.t 1)),oo 4 (.mv (ci 0))]
(.seq (sR [oo 5 (.mv (ci 0))]
(.block 0 (.loop (.seq (sR [om 6 5,fA 7 0 2,lF 8 1 7,lN 9 8,bI 10 .lss 6 9]
(cN 10
.skip
(.exit 0)))
(.seq (.block 1 (.seq (.dreg [(fA 13 0 2,0),(lF 14 1 13,1),(om 15 5,0),(iX 16 240 14 15,7),(fA 17 0 16,15),(fA 18 67 17,31),(lA 19 32 18,63),(lA 20 32 3,0),(oo 21 (.eqa [(32,1)] false (.t 19) (.t 20)),255)])
(cN 21
(sR [om 22 5,om 4 22]
.ret)
.skip)))
(.reg [om 11 5,bC 12 .add 11 (ci 1),om 5 12]))))))
(sR [oo 4 (.mv (ci (-1)))]
.ret)))
theorem BU_:as_ Tryz.prog 57=some (23,[.tmp 4],qd_):=by kernel_rfl
def fK_:ad_:=(sR [oo 2 (.box 1 (.t 0)),oo 4 (.mv (.c (.sl 0 true [])))]
(.seq (sR [lA 5 1 2,om 6 1,kB 7 99 5 6,oo 8 (.un .not (.t 7))]
(cN 8
(sR [oo 4 (.mv (.c (.sl 0 true [])))]
.ret)
.skip))
(.seq (sR [om 9 1,bC 10 .eql 9 (ci 0)]
(cN 10
(sR [oo 11 (.bldS 1 1 [(.int .i64 (0))] [(0,(ci 0))]),om 4 11]
.ret)
.skip))
(.seq (.dreg [(lA 12 1 2,0),(fA 13 0 2,0),(lF 14 1 13,2),(om 15 1,0),(iX 16 240 14 15,14),(fA 17 238 16,30),(lF 18 1 17,62),(kB 19 58 12 18,127),(om 20 1,0),(oo 21 (.bldS 1 1 [(.int .i64 (0))] [(0,(.t 20))]),256),(oo 22 (.app 1 8 (.t 19) (.t 21)),1023),(om 4 22,2047)])
.ret))))
theorem hK_:as_ Tryz.prog 58=some (23,[.tmp 4],fK_):=by kernel_rfl
def vc_:ad_:=(sR [oo 2 (.box 1 (.t 0)),oo 4 (.mv (cb false))]
(sR [om 5 1,bC 6 .geq 5 (ci 0),om 7 6,omg 8 1 7 true,og 9 (.fldA 0 (.t 2)) 7 true,og 10 (.ld false 1 (.t 9)) 7 true,og 11 (.len false (.t 10)) 7 true,og 12 (.bin .lss (.t 8) (.t 11)) 7 true,oo 13 (.pick (.t 7) (.t 12) (cb false)),om 4 13]
.ret))
theorem Gy_:as_ Tryz.prog 99=some (14,[.tmp 4],vc_):=by kernel_rfl
def vb_:ad_:=(sR [oo 3 (.box 1 (.t 0)),oo 6 (.mv (ci 0))]
(sR [oo 7 (.mv (ci (-1)))]
(sR [lA 10 1 3,om 11 1,kB 12 58 10 11,om 8 12]
(.seq (sR [oo 9 (.mv (ci 0))]
(.block 0 (.loop (.seq (sR [om 13 9,om 14 8,lN 15 14,bI 16 .lss 13 15]
(cN 16
.skip
(.exit 0)))
(.seq (.block 1 (.seq (.dreg [(fA 19 0 3,0),(lF 20 1 19,1),(om 21 8,0),(om 22 9,0),(iX 23 1 21 22,12),(lF 24 1 23,28),(iX 25 240 20 24,63),(fA 26 0 25,127),(fA 27 66 26,255),(lF 28 1 27,511),(om 29 2,0),(bI 30 .leq 28 29,2047)])
(cN 30
(.reg [om 31 8,om 32 9,iX 33 1 31 32,lF 34 1 33,om 7 34])
.skip)))
(.reg [om 17 9,bC 18 .add 17 (ci 1),om 9 18]))))))
(sR [om 35 7,om 6 35]
.ret)))))
theorem Gx_:as_ Tryz.prog 73=some (36,[.tmp 6],vb_):=by kernel_rfl
def sW_:ad_:=(sR [oo 2 (.box 238 (.t 0)),oo 4 (.new [(.sl 0 true [])])]
(sR [lA 5 238 2,om 6 1,oo 7 (.bld (cr_ sv_) [(0,238,(.t 5)),(238,1,(ci (-1))),(239,1,(.t 6))]),oo 8 (.bldS 240 1 (cr_ sv_) [(0,(.t 7))]),oo 9 (.bld [(.sl 0 true [])] [(0,1,(.t 8))]),sO 1 4 9]
.ret))
theorem Eb_:as_ Tryz.prog 129=some (10,[.cell 4 true 1],sW_):=by kernel_rfl
def oy_:ad_:=(sR [oo 4 (.box 1 (.t 0)),oo 6 (.box 34 (.t 2)),oo 8 (.new [(.sl 0 true [])]),oo 9 (.mv (ci 0))]
(.seq (sR [lA 15 1 4,om 16 1,kB 17 99 15 16,oo 18 (.un .not (.t 17))]
(cN 18
(sR [oo 19 (.bld [(.sl 0 true [])] []),sO 1 8 19,oo 9 (.mv (ci 10))]
.ret)
.skip))
(.seq (sR [fA 20 1 6,lF 21 1 20]
(.block 0 (sR [bC 24 .eql 21 (ci 1),om 23 24]
(cN 23
(sR [lA 25 1 4,om 26 1,kB 27 185 25 26,eX 28 0 27,eX 29 1 27,sO 1 8 28,om 9 29]
.ret)
(.seq (sR [bC 31 .eql 21 (ci 3),om 30 31]
(cN 30
.skip
(.reg [bC 32 .eql 21 (ci 4),om 30 32])))
(cN 30
(sR [lA 33 1 4,sO 1 8 33,oo 9 (.mv (ci 0))]
.ret)
(sR [bC 35 .eql 21 (ci 2),om 34 35]
(cN 34
.skip
(sR [oo 22 (.bld [(.sl 0 true [])] []),sO 1 8 22,oo 9 (.mv (ci 2))]
.ret)))))))))
(sR [lA 37 1 4,om 38 1,fA 39 2 6,lA 40 32 39,kC 41 186 37 38 40,om 36 41,eX 42 0 36,eX 43 1 36,om 10 42,om 11 43]
(.seq (sR [oo 12 (.mv (ci 0))]
(.block 1 (.loop (.seq (sR [om 44 12,om 45 3,lN 46 45,bI 47 .lss 44 46]
(cN 47
.skip
(.exit 1)))
(.seq (.block 2 (.seq (.dreg [(lA 50 1 4,0),(om 51 11,0),(om 52 3,0),(om 53 12,0),(iX 54 1 52 53,12),(lF 55 1 54,28),(kC 56 187 50 51 55,63)])
(cN 56
(sR [oo 57 (.bld [(.sl 0 true [])] []),sO 1 8 57,oo 9 (.mv (ci 21))]
.ret)
.skip)))
(.reg [om 48 12,bC 49 .add 48 (ci 1),om 12 49]))))))
(.seq (sR [om 58 10,bC 59 .geq 58 (ci 0)]
(cN 59
(sR [lA 61 1 4,om 62 10,kB 63 185 61 62,om 60 63,eX 64 0 60,eX 65 1 60,oo 13 (.new [(.sl 0 true [])]),sO 1 13 64,om 14 65]
(.seq (sR [om 66 14,bC 67 .neq 66 (ci 0)]
(cN 67
(sR [oo 68 (.bld [(.sl 0 true [])] []),om 69 14,sO 1 8 68,om 9 69]
.ret)
.skip))
(.reg [lA 70 1 13,sO 1 4 70])))
.skip))
(sR [lA 71 1 4,om 72 11,kB 73 188 71 72,eX 74 0 73,eX 75 1 73,sO 1 8 74,om 9 75]
.ret)))))))
theorem ye_:as_ Tryz.prog 163=some (76,[.cell 8 true 1,.tmp 9],oy_):=by kernel_rfl
def oz_:ad_:=(sR [oo 2 (.box 1 (.t 0)),oo 4 (.new [(.sl 0 true [])]),oo 5 (.mv (.c (.sl 0 true []))),oo 6 (.mv (ci 0))]
(.seq (sR [lA 11 1 2,om 12 1,kB 13 99 11 12,oo 14 (.un .not (.t 13))]
(cN 14
(sR [oo 15 (.bld [(.sl 0 true [])] []),sO 1 4 15,oo 5 (.mv (.c (.sl 0 true []))),oo 6 (.mv (ci 10))]
.ret)
.skip))
(sR [oo 7 (.new [(.sl 0 true [])])]
(sR [oo 8 (.mv (.c (.sl 0 true [])))]
(.seq (sR [oo 9 (.mv (ci 0))]
(.block 0 (.loop (.seq (sR [om 16 9,fA 17 0 2,lF 18 1 17,lN 19 18,bI 20 .lss 16 19]
(cN 20
.skip
(.exit 0)))
(.seq (.block 1 (.seq (sR [lA 23 1 2,om 24 1,om 25 9,kC 26 187 23 24 25,oo 27 (.un .not (.t 26))]
(cN 27
(sR [om 28 8,oo 29 (.bldS 1 1 [(.int .i64 (0))] [(0,(ci (-1)))]),oo 30 (.app 1 8 (.t 28) (.t 29)),om 8 30]
(.exit 1))
.skip))
(sR [fA 31 0 2,lF 32 1 31,om 33 9,iX 34 240 32 33,lA 35 240 34,oo 10 (.new (cr_ sv_)),sO 240 10 35]
(.seq (sR [om 36 9,om 37 1,bI 38 .eql 36 37]
(cN 38
(.reg [fA 39 238 10,on (.sto 1 (.t 39) (ci (-1)))])
(.reg [om 40 8,fA 41 238 10,lF 42 1 41,iX 43 1 40 42,lF 44 1 43,fA 45 238 10,sO 1 45 44])))
(sR [om 46 8,fA 47 0 7,lF 48 1 47,lN 49 48,oo 50 (.bldS 1 1 [(.int .i64 (0))] [(0,(.t 49))]),oo 51 (.app 1 8 (.t 46) (.t 50)),om 8 51]
(.reg [fA 52 0 7,lF 53 1 52,lA 54 240 10,oo 55 (.bldS 240 1 (cr_ sv_) [(0,(.t 54))]),oo 56 (.app 240 352 (.t 53) (.t 55)),fA 57 0 7,sO 1 57 56]))))))
(.reg [om 21 9,bC 22 .add 21 (ci 1),om 9 22]))))))
(sR [lA 58 1 7,om 59 8,sO 1 4 58,om 5 59,oo 6 (.mv (ci 0))]
.ret))))))
theorem yf_:as_ Tryz.prog 170=some (60,[.cell 4 true 1,.tmp 5,.tmp 6],oz_):=by kernel_rfl
def qe_:ad_:=(sR [oo 3 (.box 4 (.t 0)),oo 4 (.box 238 (.t 1)),oo 5 (.box 238 (.t 2)),oo 6 (.mv (cb false))]
(.seq (.block 0 (sR [fA 8 131 5,lA 9 32 8,oo 10 (.bld (rtc rt0) []),oo 11 (.eqa [(32,1)] false (.t 9) (.t 10)),om 7 11]
(cN 7
(sR [fA 12 131 4,lA 13 32 12,oo 14 (.bld (rtc rt0) []),oo 15 (.eqa [(32,1)] false (.t 13) (.t 14)),om 6 15]
.ret)
(sR [lA 17 238 4,lA 18 238 5,kB 19 200 17 18,om 16 19]
(cN 16
(sR [fA 20 167 5,lA 21 4 20,lA 22 4 3,kB 23 201 21 22,bC 24 .lss 23 (ci 0),om 25 24,og 26 (.fldA 163 (.t 5)) 25 true,og 27 (.ld true 4 (.t 26)) 25 true,og 28 (.ld true 4 (.t 3)) 25 true,og 29 (.call (cf 201) [(.t 27),(.t 28)]) 25 true,og 30 (.bin .geq (.t 29) (ci 0)) 25 true,oo 31 (.pick (.t 25) (.t 30) (cb false)),om 6 31]
.ret)
.skip)))))
(sR [oo 6 (.mv (cb true))]
.ret)))
theorem BV_:as_ Tryz.prog 176=some (32,[.tmp 6],qe_):=by kernel_rfl
def mo_:ad_:=(sR [oo 3 (.box 1 (.t 0)),oo 4 (.box 238 (.t 1)),oo 6 (.new [(.sl 0 true [])]),oo 7 (.mv (ci 0))]
(.seq (sR [om 9 2,kA 10 202 9,oo 11 (.un .not (.t 10))]
(cN 11
(sR [oo 12 (.bld [(.sl 0 true [])] []),sO 1 6 12,oo 7 (.mv (ci 2))]
.ret)
.skip))
(.seq (sR [lA 13 1 3,fA 14 67 4,lA 15 32 14,kB 16 57 13 15,bC 17 .geq 16 (ci 0)]
(cN 17
(sR [oo 18 (.bld [(.sl 0 true [])] []),sO 1 6 18,oo 7 (.mv (ci 9))]
.ret)
.skip))
(sR [lA 19 1 3,fA 20 99 4,lA 21 32 20,kB 22 57 19 21,om 8 22]
(.seq (sR [om 23 8,bC 24 .lss 23 (ci 0)]
(cN 24
(sR [oo 25 (.bld [(.sl 0 true [])] []),sO 1 6 25,oo 7 (.mv (ci 10))]
.ret)
.skip))
(.seq (.seq (.dreg [(fA 26 66 4,0),(lF 27 1 26,1),(fA 28 0 3,0),(lF 29 1 28,4),(om 30 8,0),(iX 31 240 29 30,28),(fA 32 0 31,60),(fA 33 66 32,124),(lF 34 1 33,252),(bI 35 .leq 27 34,511)])
(cN 35
(sR [oo 36 (.bld [(.sl 0 true [])] []),sO 1 6 36,oo 7 (.mv (ci 14))]
.ret)
.skip))
(.seq (sR [fA 37 0 3,lF 38 1 37,lN 39 38,bC 40 .geq 39 (ci 4096)]
(cN 40
(sR [oo 41 (.bld [(.sl 0 true [])] []),sO 1 6 41,oo 7 (.mv (ci 11))]
.ret)
.skip))
(.seq (.dreg [(fA 42 0 3,0),(lF 43 1 42,1),(oo 44 (.app 240 352 (.c (.sl 0 true [])) (.t 43)),3),(lA 45 238 4,0),(om 46 8,0),(om 47 2,0),(oo 48 (.bld (cr_ sv_) [(0,238,(.t 45)),(238,1,(.t 46)),(239,1,(.t 47))]),56),(oo 49 (.bldS 240 1 (cr_ sv_) [(0,(.t 48))]),120),(oo 50 (.app 240 352 (.t 44) (.t 49)),255),(oo 51 (.bld [(.sl 0 true [])] [(0,1,(.t 50))]),511),(sO 1 6 51,1023),(oo 7 (.mv (ci 0)),2047)])
.ret))))))))
theorem vw_:as_ Tryz.prog 177=some (52,[.cell 6 true 1,.tmp 7],mo_):=by kernel_rfl
def km_:ad_:=(sR [oo 1 (.box 238 (.t 0)),oo 2 (.mv (ci 0))]
(.seq (sR [fA 3 131 1,lA 4 32 3,oo 5 (.bld (rtc rt0) []),oo 6 (.eqa [(32,1)] false (.t 4) (.t 5))]
(cN 6
(sR [oo 2 (.mv (ci 1))]
.ret)
.skip))
(sR [oo 2 (.mv (ci 0))]
.ret)))
theorem rX_:as_ Tryz.prog 178=some (7,[.tmp 2],km_):=by kernel_rfl
def oA_:ad_:=(sR [oo 2 (.box 1 (.t 0)),oo 4 (.new [(.sl 0 true [])]),oo 5 (.mv (ci 0))]
(.seq (sR [lA 8 1 2,om 9 1,kB 10 99 8 9,oo 11 (.un .not (.t 10))]
(cN 11
(sR [oo 12 (.bld [(.sl 0 true [])] []),sO 1 4 12,oo 5 (.mv (ci 10))]
.ret)
.skip))
(.seq (.dreg [(lA 14 1 2,0),(lA 15 1 2,0),(om 16 1,0),(kB 17 58 15 16,6),(oo 18 (.call (cf 204) [(.t 14),(.t 17),(ci 1),(ci 2)]),15),(om 13 18,31),(eX 19 0 13,63),(eX 20 1 13,63),(oo 6 (.new [(.sl 0 true [])]),0),(sO 1 6 19,383),(om 7 20,1023)])
(.seq (sR [om 21 7,oo 22 (.un .not (.t 21))]
(cN 22
(sR [oo 23 (.bld [(.sl 0 true [])] []),sO 1 4 23,oo 5 (.mv (ci 21))]
.ret)
.skip))
(sR [lA 24 1 6,sO 1 4 24,oo 5 (.mv (ci 0))]
.ret)))))
theorem yg_:as_ Tryz.prog 185=some (25,[.cell 4 true 1,.tmp 5],oA_):=by kernel_rfl
def oB_:ad_:=(sR [oo 3 (.box 1 (.t 0)),oo 5 (.box 32 (.t 2)),oo 6 (.mv (ci 0)),oo 7 (.mv (ci 0))]
(sR [lA 11 1 3,om 12 1,kB 13 58 11 12,om 8 13]
(.seq (sR [om 14 8,lN 15 14,bC 16 .eql 15 (ci 0)]
(cN 16
(sR [oo 6 (.mv (ci (-1))),oo 7 (.mv (ci (-1)))]
.ret)
.skip))
(.seq (sR [lA 17 32 5,oo 18 (.bld (rtc rt0) []),oo 19 (.eqa [(32,1)] false (.t 17) (.t 18))]
(cN 19
(.seq (sR [oo 9 (.mv (ci 0))]
(.block 0 (.loop (.seq (sR [om 20 9,om 21 8,lN 22 21,bI 23 .lss 20 22]
(cN 23
.skip
(.exit 0)))
(.seq (.block 1 (.seq (.dreg [(fA 26 0 3,0),(lF 27 1 26,1),(om 28 8,0),(om 29 9,0),(iX 30 1 28 29,12),(lF 31 1 30,28),(iX 32 240 27 31,63),(fA 33 0 32,127),(fA 34 131 33,255),(lA 35 32 34,511),(oo 36 (.bld (rtc rt0) []),0),(oo 37 (.eqa [(32,1)] true (.t 35) (.t 36)),2047)])
(cN 37
(.seq (.dreg [(fA 38 0 3,0),(lF 39 1 38,1),(om 40 8,0),(om 41 9,0),(iX 42 1 40 41,12),(lF 43 1 42,28),(iX 44 240 39 43,63),(fA 45 238 44,127),(lF 46 1 45,255),(om 47 8,0),(om 48 9,0),(iX 49 1 47 48,1536),(lF 50 1 49,3584),(om 6 46,511),(om 7 50,16383)])
.ret)
.skip)))
(.reg [om 24 9,bC 25 .add 24 (ci 1),om 9 25]))))))
(sR [om 51 1,oo 6 (.mv (ci (-1))),om 7 51]
.ret))
.skip))
(.seq (sR [om 52 8,lN 53 52,bC 54 .sub 53 (ci 2),om 10 54]
(.block 2 (.loop (.seq (sR [om 55 10,bC 56 .geq 55 (ci 0)]
(cN 56
.skip
(.exit 2)))
(.seq (.block 3 (.seq (.dreg [(fA 59 0 3,0),(lF 60 1 59,1),(om 61 8,0),(om 62 10,0),(iX 63 1 61 62,12),(lF 64 1 63,28),(iX 65 240 60 64,63),(fA 66 0 65,127),(fA 67 131 66,255),(lA 68 32 67,511),(lA 69 32 5,0),(oo 70 (.eqa [(32,1)] false (.t 68) (.t 69)),2047)])
(cN 70
(.seq (.dreg [(om 71 8,0),(om 72 10,0),(iX 73 1 71 72,3),(lF 74 1 73,7),(om 75 8,0),(om 76 10,0),(bC 77 .add 76 (ci 1),32),(iX 78 1 75 77,112),(lF 79 1 78,240),(om 6 74,15),(om 7 79,1023)])
.ret)
.skip)))
(.reg [om 57 10,bC 58 .sub 57 (ci 1),om 10 58]))))))
(sR [om 80 1,oo 6 (.mv (ci (-1))),om 7 80]
.ret))))))
theorem yh_:as_ Tryz.prog 186=some (81,[.tmp 6,.tmp 7],oB_):=by kernel_rfl
def ij_:ad_:=(sR [oo 3 (.box 1 (.t 0)),oo 6 (.mv (cb false))]
(sR [lA 7 1 3,om 8 2,kB 9 58 7 8,om 10 1,kB 11 181 9 10,om 6 11]
.ret))
theorem pk_:as_ Tryz.prog 187=some (12,[.tmp 6],ij_):=by kernel_rfl
def lA_:ad_:=(sR [oo 2 (.box 1 (.t 0)),oo 4 (.new [(.sl 0 true [])]),oo 5 (.mv (ci 0))]
(.seq (sR [lA 8 1 2,om 9 1,kB 10 99 8 9,oo 11 (.un .not (.t 10))]
(cN 11
(sR [oo 12 (.bld [(.sl 0 true [])] []),sO 1 4 12,oo 5 (.mv (ci 10))]
.ret)
.skip))
(.seq (.dreg [(lA 14 1 2,0),(lA 15 1 2,0),(om 16 1,0),(kB 17 205 15 16,6),(oo 18 (.call (cf 204) [(.t 14),(.t 17),(ci 2),(ci 1)]),15),(om 13 18,31),(eX 19 0 13,63),(eX 20 1 13,63),(oo 6 (.new [(.sl 0 true [])]),0),(sO 1 6 19,383),(om 7 20,1023)])
(.seq (sR [om 21 7,oo 22 (.un .not (.t 21))]
(cN 22
(sR [oo 23 (.bld [(.sl 0 true [])] []),sO 1 4 23,oo 5 (.mv (ci 21))]
.ret)
.skip))
(sR [lA 24 1 6,sO 1 4 24,oo 5 (.mv (ci 0))]
.ret)))))
theorem tI_:as_ Tryz.prog 188=some (25,[.cell 4 true 1,.tmp 5],lA_):=by kernel_rfl
def mm_:ad_:=(sR [oo 2 (.box 45 (.t 0)),oo 4 (.mv (cu 0)),oo 5 (.mv (ci 0))]
(.seq (sR [fA 7 6 2,lF 8 1 7,bC 9 .lss 8 (cu 1),om 10 9,og 11 (.fldA 6 (.t 2)) 10 false,og 12 (.ld false 1 (.t 11)) 10 false,og 13 (.bin .gtr (.t 12) (cu 64)) 10 false,oo 14 (.pick (.t 10) (cb true) (.t 13)),om 15 14,og 16 (.fldA 7 (.t 2)) 15 false,og 17 (.ld false 1 (.t 16)) 15 false,og 18 (.bin .gtr (.t 17) (cu 100)) 15 false,oo 19 (.pick (.t 15) (cb true) (.t 18)),om 20 19,omg 21 1 20 false,og 22 (.bin .gtr (.t 21) (cu 4611686018427387904)) 20 false,oo 23 (.pick (.t 20) (cb true) (.t 22))]
(cN 23
(sR [oo 4 (.mv (cu 0)),oo 5 (.mv (ci 3))]
.ret)
.skip))
(sR [om 24 1,fA 25 6 2,lF 26 1 25,bI 27 .quo 24 26,om 6 27]
(sR [om 28 6,bC 29 .quo 28 (cu 100),fA 30 7 2,lF 31 1 30,bI 32 .mul 29 31,om 33 6,bC 34 .rem 33 (cu 100),fA 35 7 2,lF 36 1 35,bI 37 .mul 34 36,bC 38 .quo 37 (cu 100),bI 39 .add 32 38,om 4 39,oo 5 (.mv (ci 0))]
.ret))))
theorem vu_:as_ Tryz.prog 190=some (40,[.tmp 4,.tmp 5],mm_):=by kernel_rfl
def mn_:ad_:=(sR [oo 3 (.box 1 (.t 0)),oo 4 (.box 2 (.t 1)),oo 6 (.mv (.c (.sl 0 true [])))]
(sR [oo 7 (.mv (.c (.sl 0 true [])))]
(.seq (sR [oo 8 (.mv (ci 0))]
(.block 0 (.loop (.seq (sR [om 10 8,fA 11 0 3,lF 12 1 11,lN 13 12,bI 14 .lss 10 13]
(cN 14
.skip
(.exit 0)))
(.seq (.block 1 (sR [oo 9 (.mv (cu 0))]
(.seq (sR [fA 17 0 3,lF 18 1 17,om 19 8,iX 20 240 18 19,fA 21 239 20,lF 22 1 21,bC 23 .neq 22 (ci 2)]
(cN 23
(.dreg [(lA 24 2 4,0),(om 25 2,0),(fA 26 0 3,0),(lF 27 1 26,4),(om 28 8,0),(iX 29 240 27 28,28),(fA 30 0 29,60),(fA 31 67 30,124),(lA 32 32 31,252),(oo 33 (.bldS 32 1 (rtc rt0) [(0,(.t 32))]),508),(kC 34 206 24 25 33,1023),(om 9 34,2047)])
.skip))
(.reg [om 35 7,om 36 9,oo 37 (.bldS 1 1 [(.int .u64 (0))] [(0,(.t 36))]),oo 38 (.app 1 8 (.t 35) (.t 37)),om 7 38]))))
(.reg [om 15 8,bC 16 .add 15 (ci 1),om 8 16]))))))
(sR [om 39 7,om 6 39]
.ret))))
theorem vv_:as_ Tryz.prog 191=some (40,[.tmp 6],mn_):=by kernel_rfl
def lB_:ad_:=(sR [oo 2 (.box 1 (.t 0)),oo 4 (.mv (.c (.sl 0 true [])))]
(sR [oo 5 (.mv (.c (.sl 0 true [])))]
(.seq (sR [oo 6 (.mv (ci 0))]
(.block 0 (.loop (.seq (sR [om 10 6,fA 11 0 2,lF 12 1 11,lN 13 12,bI 14 .lss 10 13]
(cN 14
.skip
(.exit 0)))
(.seq (.block 1 (sR [oo 7 (.mv (cu 0))]
(sR [lA 17 1 2,om 18 6,kB 19 205 17 18,om 8 19]
(.seq (sR [oo 9 (.mv (ci 0))]
(.block 2 (.loop (.seq (sR [om 20 9,om 21 8,lN 22 21,bI 23 .lss 20 22]
(cN 23
.skip
(.exit 2)))
(.seq (.block 3 (.reg [om 26 7,om 27 1,om 28 8,om 29 9,iX 30 1 28 29,lF 31 1 30,iX 32 1 27 31,lF 33 1 32,bI 34 .add 26 33,om 7 34]))
(.reg [om 24 9,bC 25 .add 24 (ci 1),om 9 25]))))))
(.reg [om 35 5,om 36 7,oo 37 (.bldS 1 1 [(.int .u64 (0))] [(0,(.t 36))]),oo 38 (.app 1 8 (.t 35) (.t 37)),om 5 38])))))
(.reg [om 15 6,bC 16 .add 15 (ci 1),om 6 16]))))))
(sR [om 39 5,om 4 39]
.ret))))
theorem tJ_:as_ Tryz.prog 192=some (40,[.tmp 4],lB_):=by kernel_rfl
def lz_:ad_:=(sR [oo 4 (.box 1 (.t 0)),oo 6 (.box 32 (.t 2)),oo 8 (.mv (.c (.sl 0 true [])))]
(sR [om 11 1,oo 12 (.app 1 8 (.c (.sl 0 true [])) (.t 11)),om 9 12]
(sR [lA 13 1 4,lA 14 32 6,kB 15 57 13 14,om 10 15]
(.seq (sR [om 16 10,bC 17 .geq 16 (ci 0),om 18 17,og 19 (.fldA 0 (.t 4)) 18 true,og 20 (.ld false 1 (.t 19)) 18 true,omg 21 10 18 true,og 22 (.idxS 240 (.t 20) (.t 21)) 18 true,og 23 (.fldA 239 (.t 22)) 18 true,og 24 (.ld false 1 (.t 23)) 18 true,og 25 (.bin .neq (.t 24) (ci 2)) 18 true,oo 26 (.pick (.t 18) (.t 25) (cb false)),om 27 26,og 28 (.ld true 32 (.t 6)) 27 true,og 29 (.bld (rtc rt0) []) 27 true,og 30 (.eqa [(32,1)] true (.t 28) (.t 29)) 27 true,oo 31 (.pick (.t 27) (.t 30) (cb false))]
(cN 31
(.reg [om 32 9,om 33 10,om 34 9,om 35 10,iX 36 1 34 35,lF 37 1 36,om 38 3,bI 39 .add 37 38,iX 40 1 32 33,sO 1 40 39])
.skip))
(sR [om 41 9,om 8 41]
.ret)))))
theorem tH_:as_ Tryz.prog 193=some (42,[.tmp 8],lz_):=by kernel_rfl
def kl_:ad_:=(sR [oo 2 (.box 1 (.t 0)),oo 4 (.mv (.c (.sl 0 true [])))]
(sR [oo 5 (.mv (.c (.sl 0 true [])))]
(.seq (sR [oo 6 (.mv (ci 0))]
(.block 0 (.loop (.seq (sR [om 7 6,fA 8 0 2,lF 9 1 8,lN 10 9,bI 11 .lss 7 10,om 12 11,og 13 (.ld true 1 (.t 2)) 12 true,omg 14 1 12 true,og 15 (.call (cf 99) [(.t 13),(.t 14)]) 12 true,oo 16 (.pick (.t 12) (.t 15) (cb false))]
(cN 16
.skip
(.exit 0)))
(.seq (.block 1 (sR [fA 19 0 2,lF 20 1 19,om 21 6,iX 22 240 20 21,fA 23 238 22,lF 24 1 23,om 25 1,bI 26 .eql 24 25]
(cN 26
(.reg [om 27 5,om 28 6,oo 29 (.bldS 1 1 [(.int .i64 (0))] [(0,(.t 28))]),oo 30 (.app 1 8 (.t 27) (.t 29)),om 5 30])
.skip)))
(.reg [om 17 6,bC 18 .add 17 (ci 1),om 6 18]))))))
(sR [om 31 5,om 4 31]
.ret))))
theorem rW_:as_ Tryz.prog 195=some (32,[.tmp 4],kl_):=by kernel_rfl
def gL_:ad_:=(sR [oo 2 (.box 238 (.t 0)),oo 3 (.box 238 (.t 1)),oo 4 (.mv (cb false))]
(sR [fA 5 131 3,lA 6 32 5,oo 7 (.bld (rtc rt0) []),oo 8 (.eqa [(32,1)] true (.t 6) (.t 7)),om 9 8,og 10 (.fldA 131 (.t 2)) 9 true,og 11 (.ld true 32 (.t 10)) 9 true,og 12 (.bld (rtc rt0) []) 9 true,og 13 (.eqa [(32,1)] false (.t 11) (.t 12)) 9 true,oo 14 (.pick (.t 9) (.t 13) (cb false)),om 4 14]
.ret))
theorem mM_:as_ Tryz.prog 200=some (15,[.tmp 4],gL_):=by kernel_rfl
def kn_:ad_:=(sR [oo 2 (.mv (cb false))]
(sR [om 3 0,bC 4 .geq 3 (ci 0),om 5 4,omg 6 0 5 true,og 7 (.bin .leq (.t 6) (ci 2)) 5 true,oo 8 (.pick (.t 5) (.t 7) (cb false)),om 2 8]
.ret))
theorem rY_:as_ Tryz.prog 202=some (9,[.tmp 2],kn_):=by kernel_rfl
def sX_:ad_:=(sR [oo 4 (.box 1 (.t 0)),oo 8 (.new [(.sl 0 true [])]),oo 9 (.mv (cb false))]
(sR [fA 12 0 4,lF 13 1 12,oo 14 (.app 240 352 (.c (.sl 0 true [])) (.t 13)),oo 15 (.bld [(.sl 0 true [])] [(0,1,(.t 14))]),oo 10 (.new [(.sl 0 true [])]),sO 1 10 15]
(.seq (sR [oo 11 (.mv (ci 0))]
(.block 0 (.loop (.seq (sR [om 16 11,om 17 1,lN 18 17,bI 19 .lss 16 18]
(cN 19
.skip
(.exit 0)))
(.seq (.block 1 (.seq (.seq (.dreg [(fA 22 0 10,0),(lF 23 1 22,1),(om 24 1,0),(om 25 11,0),(iX 26 1 24 25,12),(lF 27 1 26,28),(iX 28 240 23 27,63),(fA 29 239 28,127),(lF 30 1 29,255),(om 31 3,0),(bI 32 .eql 30 31,1023)])
(cN 32
(sR [oo 33 (.bld [(.sl 0 true [])] []),sO 1 8 33,oo 9 (.mv (cb false))]
.ret)
.skip))
(.dreg [(fA 34 0 10,0),(lF 35 1 34,1),(om 36 1,0),(om 37 11,0),(iX 38 1 36 37,12),(lF 39 1 38,28),(om 40 2,0),(iX 41 240 35 39,127),(fA 42 239 41,255),(sO 1 42 40,511)])))
(.reg [om 20 11,bC 21 .add 20 (ci 1),om 11 21]))))))
(sR [lA 43 1 10,sO 1 8 43,oo 9 (.mv (cb true))]
.ret))))
theorem Ec_:as_ Tryz.prog 204=some (44,[.cell 8 true 1,.tmp 9],sX_):=by kernel_rfl
def hw_:ad_:=(sR [oo 2 (.box 1 (.t 0)),oo 4 (.mv (.c (.sl 0 true [])))]
(sR [oo 5 (.mv (.c (.sl 0 true [])))]
(.seq (sR [oo 6 (.mv (ci 0))]
(.block 0 (.loop (.seq (sR [om 7 6,fA 8 0 2,lF 9 1 8,lN 10 9,bI 11 .lss 7 10]
(cN 11
.skip
(.exit 0)))
(.seq (.block 1 (sR [lA 14 1 2,om 15 1,om 16 6,kC 17 187 14 15 16]
(cN 17
(.reg [om 18 5,om 19 6,oo 20 (.bldS 1 1 [(.int .i64 (0))] [(0,(.t 19))]),oo 21 (.app 1 8 (.t 18) (.t 20)),om 5 21])
.skip)))
(.reg [om 12 6,bC 13 .add 12 (ci 1),om 6 13]))))))
(sR [om 22 5,om 4 22]
.ret))))
theorem nX_:as_ Tryz.prog 205=some (23,[.tmp 4],hw_):=by kernel_rfl
def ih_:ad_:=(sR [oo 6 (.mv (cb false))]
(sR [om 10 0,kA 11 7 10,oo 7 (.new (aB_ dG_)),sO 252 7 11]
(sR [om 12 1,bC 13 .and 12 (ci 15),oo 14 (.bld (aI_ dy_) [(0,1,(.t 13))]),oo 8 (.new (aI_ dy_)),sO 446 8 14]
(sR [om 15 2,bC 16 .and 15 (ci 16777215),bC 17 .shr 16 (cu 4),om 9 17]
(.seq (sR [om 18 2,bC 19 .and 18 (ci 1),bC 20 .eql 19 (ci 1)]
(cN 20
(.reg [fA 21 0 7,lA 22 150 21,om 23 9,oo 24 (.call (cf 9) [(.t 22),(ci 9),(.t 23)]),fA 25 1 8,sO 238 25 24])
.skip))
(.seq (sR [om 26 2,bC 27 .and 26 (ci 2),bC 28 .eql 27 (ci 2)]
(cN 28
(.reg [fA 29 0 7,lA 30 150 29,om 31 9,kB 32 11 30 31,fA 33 239 8,sO 67 33 32])
.skip))
(.seq (sR [om 34 2,bC 35 .and 34 (ci 4),bC 36 .eql 35 (ci 4)]
(cN 36
(.reg [lA 37 252 7,om 38 9,kB 39 18 37 38,fA 40 410 8,sO 34 40 39])
.skip))
(.seq (sR [om 41 2,bC 42 .and 41 (ci 8),bC 43 .eql 42 (ci 8)]
(cN 43
(.reg [om 44 9,bC 45 .and 44 (ci 3),om 46 9,bC 47 .shr 46 (cu 2),bC 48 .and 47 (ci 65535),fA 49 444 8,sO 1 49 45,fA 50 445 8,sO 1 50 48])
.skip))
(.seq (.dreg [(lA 51 446 8,0),(kA 52 19 51,1),(lA 53 446 8,0),(kA 54 20 53,7),(bI 55 .eql 52 54,15),(om 56 55,31),(og 57 (.call (cf 21) []) 56 true,63),(oo 58 (.pick (.t 56) (.t 57) (cb false)),127),(om 6 58,255)])
.ret)))))))))
theorem pj_:as_ Tryz.prog 4=some (59,[.tmp 6],ih_):=by kernel_rfl
def jh_:ad_:=(sR [oo 4 (.mv (cb false))]
(sR [om 19 0,kA 20 22 19,om 18 20,eX 21 0 18,eX 22 1 18,oo 5 (.new (bm_ hl_)),sO 45 5 21,om 6 22]
(sR [om 24 6,kA 25 23 24,om 23 25,eX 26 0 23,eX 27 1 23,om 7 26,om 8 27]
(sR [om 29 6,kA 30 24 29,om 28 30,eX 31 0 28,eX 32 1 28,om 9 31,om 10 32]
(.seq (sR [om 33 8,om 34 10,bI 35 .neq 33 34,om 36 35,omg 37 7 36 false,og 38 (.b2s (.t 37)) 36 false,omg 39 9 36 false,og 40 (.b2s (.t 39)) 36 false,og 41 (.eqv 1 true (.t 38) (.t 40)) 36 false,oo 42 (.pick (.t 36) (cb true) (.t 41))]
(cN 42
(sR [oo 4 (.mv (cb false))]
.ret)
.skip))
(.seq (sR [om 43 8,bC 44 .neq 43 (ci 0)]
(cN 44
(sR [oo 45 (.call (cf 21) []),om 4 45]
.ret)
.skip))
(sR [om 47 7,kA 48 25 47,om 46 48,eX 49 0 46,eX 50 1 46,om 11 49,om 12 50]
(sR [om 51 1,bC 52 .and 51 (ci 16777215),om 53 7,lN 54 53,bC 55 .add 54 (ci 1),bI 56 .rem 52 55,om 13 56]
(sR [om 58 7,om 59 13,oo 60 (.sli 1 (.t 58) none (some (.t 59)) none),kA 61 26 60,om 57 61,eX 62 0 57,eX 63 1 57,om 14 62,om 15 63]
(.seq (sR [om 64 12,bC 65 .neq 64 (ci 0),om 66 65,omg 67 11 66 false,omg 68 6 66 false,og 69 (.call (cf 27) [(.t 67),(.t 68)]) 66 false,og 70 (.un .not (.t 69)) 66 false,oo 71 (.pick (.t 66) (cb true) (.t 70)),om 72 71,omg 73 15 72 false,omg 74 13 72 false,og 75 (.bin .gtr (.t 73) (.t 74)) 72 false,oo 76 (.pick (.t 72) (cb true) (.t 75)),om 77 76,omg 78 14 77 false,og 79 (.len false (.t 78)) 77 false,omg 80 6 77 false,og 81 (.len false (.t 80)) 77 false,og 82 (.bin .gtr (.t 79) (.t 81)) 77 false,oo 83 (.pick (.t 77) (cb true) (.t 82)),om 84 83,omg 85 14 84 false,omg 86 6 84 false,omg 87 14 84 false,og 88 (.len false (.t 87)) 84 false,og 89 (.sli 446 (.t 86) none (some (.t 88)) none) 84 false,og 90 (.call (cf 27) [(.t 85),(.t 89)]) 84 false,og 91 (.un .not (.t 90)) 84 false,oo 92 (.pick (.t 84) (cb true) (.t 91))]
(cN 92
(sR [oo 4 (.mv (cb false))]
.ret)
.skip))
(sR [om 94 7,om 95 13,oo 96 (.sli 1 (.t 94) none (some (.t 95)) none),kA 97 28 96,om 93 97,eX 98 0 93,eX 99 1 93,om 16 98,om 17 99]
(sR [om 100 15,om 101 17,bI 102 .eql 100 101,om 103 102,omg 104 14 103 true,omg 105 16 103 true,og 106 (.call (cf 27) [(.t 104),(.t 105)]) 103 true,oo 107 (.pick (.t 103) (.t 106) (cb false)),om 108 107,og 109 (.call (cf 21) []) 108 true,oo 110 (.pick (.t 108) (.t 109) (cb false)),om 4 110]
.ret))))))))))))
theorem qD_:as_ Tryz.prog 5=some (111,[.tmp 4],jh_):=by kernel_rfl
def ht_:ad_:=(sR [oo 6 (.mv (cb false))]
(sR [om 14 0,kA 15 22 14,om 13 15,eX 16 0 13,eX 17 1 13,oo 7 (.new (bm_ hl_)),sO 45 7 16,om 8 17]
(sR [om 19 8,kA 20 24 19,om 18 20,eX 21 0 18,eX 22 1 18,om 9 21,om 10 22]
(.seq (sR [om 23 10,bC 24 .neq 23 (ci 0),om 25 24,omg 26 9 25 false,og 27 (.len false (.t 26)) 25 false,og 28 (.bin .eql (.t 27) (ci 0)) 25 false,oo 29 (.pick (.t 25) (cb true) (.t 28))]
(cN 29
(sR [oo 30 (.call (cf 21) []),om 6 30]
.ret)
.skip))
(sR [om 31 9,oo 32 (.app 1 1 (.c (.sl 0 true [])) (.t 31)),om 11 32]
(sR [om 33 1,bC 34 .and 33 (ci 16777215),om 35 11,lN 36 35,bI 37 .rem 34 36,om 12 37]
(sR [om 38 11,om 39 12,om 40 11,om 41 12,iX 42 1 40 41,lF 43 1 42,om 44 2,oo 45 (.bin .or (.t 44) (.c (.int .u8 (1)))),bI 46 .xor 43 45,iX 47 1 38 39,sO 1 47 46]
(sR [om 48 11,kA 49 29 48,om 50 49,og 51 (.call (cf 21) []) 50 true,oo 52 (.pick (.t 50) (.t 51) (cb false)),om 6 52]
.ret))))))))
theorem nU_:as_ Tryz.prog 6=some (53,[.tmp 6],ht_):=by kernel_rfl
end Go.Proofs.YtipiipgpnkpejaaGreat
