/-
 My texts Kp, Kj, Kq, Kd, joined.
-/
import Derived.Test.YtkgimpdgncakjaaGreatW3
import Derived.Test.YtkgimpdgncakjaaGreatChecked
import Derived.KernelRfl
namespace Go.Proofs.YtkgimpdgncakjaaGreat
open Go Go.FH
def cR_:ad_:=(sR [oo 4 (.mv (ci 0))]
(.seq (sR [om 6 0,lN 7 6,oo 8 (.mv (ci 0))]
(.block 0 (.loop (sR [bI 9 .lss 8 7]
(.seq (cN 9
.skip
(.exit 0))
(.seq (.block 1 (sR [om 10 8,om 5 10]
(sR [om 11 1,om 12 0,om 13 5,iX 14 240 12 13,lA 15 240 14,oo 16 (.call (.t 11) [(.t 15)])]
(cN 16
(sR [om 17 5,om 4 17]
.ret)
.skip))))
(.reg [bC 18 .add 8 (ci 1),om 8 18])))))))
(sR [oo 4 (.mv (ci (-1)))]
.ret)))
theorem eM_:av_ Tryz.prog 151=some (19,[.tmp 4],cR_):=by kernel_rfl
def bJ_:ad_:=(sR [oo 4 (.mv (ci 0))]
(.seq (sR [om 6 0,lN 7 6,oo 8 (.mv (ci 0))]
(.block 0 (.loop (sR [bI 9 .lss 8 7]
(.seq (cN 9
.skip
(.exit 0))
(.seq (.block 1 (sR [om 10 8,om 5 10]
(sR [om 11 1,om 12 0,om 13 5,iX 14 34 12 13,lA 15 34 14,oo 16 (.call (.t 11) [(.t 15)])]
(cN 16
(sR [om 17 5,om 4 17]
.ret)
.skip))))
(.reg [bC 18 .add 8 (ci 1),om 8 18])))))))
(sR [oo 4 (.mv (ci (-1)))]
.ret)))
theorem cJ_:av_ Tryz.prog 183=some (19,[.tmp 4],bJ_):=by kernel_rfl
def cG_:ad_:=(sR [oo 4 (.mv (ci 0))]
(.seq (sR [om 6 0,lN 7 6,oo 8 (.mv (ci 0))]
(.block 0 (.loop (sR [bI 9 .lss 8 7]
(.seq (cN 9
.skip
(.exit 0))
(.seq (.block 1 (sR [om 10 8,om 5 10]
(sR [om 11 1,om 12 0,om 13 5,iX 14 238 12 13,lA 15 238 14,oo 16 (.call (.t 11) [(.t 15)])]
(cN 16
(sR [om 17 5,om 4 17]
.ret)
.skip))))
(.reg [bC 18 .add 8 (ci 1),om 8 18])))))))
(sR [oo 4 (.mv (ci (-1)))]
.ret)))
theorem eo_:av_ Tryz.prog 80=some (19,[.tmp 4],cG_):=by kernel_rfl
def cS_:ad_:=(sR [oo 4 (.mv (ci 0))]
(.seq (sR [om 6 0,lN 7 6,oo 8 (.mv (ci 0))]
(.block 0 (.loop (sR [bI 9 .lss 8 7]
(.seq (cN 9
.skip
(.exit 0))
(.seq (.block 1 (sR [om 10 8,om 5 10]
(sR [om 11 1,om 12 0,om 13 5,iX 14 34 12 13,lA 15 34 14,oo 16 (.call (.t 11) [(.t 15)])]
(cN 16
(sR [om 17 5,om 4 17]
.ret)
.skip))))
(.reg [bC 18 .add 8 (ci 1),om 8 18])))))))
(sR [oo 4 (.mv (ci (-1)))]
.ret)))
theorem eN_:av_ Tryz.prog 191=some (19,[.tmp 4],cS_):=by kernel_rfl
def cx_:ad_:=(sR [oo 4 (.mv (cb false))]
(sR [om 5 0,om 6 1,kB 7 151 5 6,bC 8 .geq 7 (ci 0),om 4 8]
.ret))
theorem ef_:av_ Tryz.prog 137=some (9,[.tmp 4],cx_):=by kernel_rfl
def cn_:ad_:=(sR [oo 4 (.mv (cb false))]
(sR [om 5 0,om 6 1,kB 7 183 5 6,bC 8 .geq 7 (ci 0),om 4 8]
.ret))
theorem dL_:av_ Tryz.prog 180=some (9,[.tmp 4],cn_):=by kernel_rfl
def cy_:ad_:=(sR [oo 4 (.mv (cb false))]
(sR [om 5 0,om 6 1,kB 7 191 5 6,bC 8 .geq 7 (ci 0),om 4 8]
.ret))
theorem eg_:av_ Tryz.prog 135=some (9,[.tmp 4],cy_):=by kernel_rfl
def jy_:ad_:=(sR [oo 2 (.box 1 (.t 0)),oo 3 (.box 32 (.t 1)),oo 4 (.mv (ci 0))]
(sR [fA 5 0 2,lF 6 1 5,oo 7 (.mkf (.func 152) [(.t 3)]),kB 8 151 6 7,om 4 8]
.ret))
theorem qw_:av_ Tryz.prog 82=some (9,[.tmp 4],jy_):=by kernel_rfl
def hU_:ad_:=(sR [oo 2 (.box 240 (.t 0)),oo 3 (.mv (cb false))]
(sR [fA 4 0 2,fA 5 67 4,lA 6 32 5,lA 7 32 1,oo 8 (.eqa [(32,1)] false (.t 6) (.t 7)),om 3 8]
.ret))
theorem on_:av_ Tryz.prog 152=some (9,[.tmp 3],hU_):=by kernel_rfl
def ln_:ad_:=(sR [oo 2 (.box 1 (.t 0)),oo 4 (.mv (cb false))]
(sR [om 5 1,bC 6 .geq 5 (ci 0),om 7 6,omg 8 1 7 true,og 9 (.fldA 0 (.t 2)) 7 true,og 10 (.ld false 1 (.t 9)) 7 true,og 11 (.len false (.t 10)) 7 true,og 12 (.bin .lss (.t 8) (.t 11)) 7 true,oo 13 (.pick (.t 7) (.t 12) (cb false)),om 4 13]
.ret))
theorem tG_:av_ Tryz.prog 185=some (14,[.tmp 4],ln_):=by kernel_rfl
def nv_:ad_:=(sR [oo 3 (.box 1 (.t 0)),oo 6 (.mv (ci 0))]
(.seq (.block 0 (.loop (.seq (sR [lA 7 1 3,om 8 1,kB 9 185 7 8]
(cN 9
.skip
(.exit 0)))
(.block 1 (.seq (sR [fA 10 0 3,lF 11 1 10,om 12 1,iX 13 240 11 12,fA 14 0 13,fA 15 66 14,lF 16 1 15,om 17 2,bI 18 .leq 16 17]
(cN 18
(sR [om 19 1,om 6 19]
.ret)
.skip))
(.reg [fA 20 0 3,lF 21 1 20,om 22 1,iX 23 240 21 22,fA 24 238 23,lF 25 1 24,om 1 25]))))))
(sR [oo 6 (.mv (ci (-1)))]
.ret)))
theorem wn_:av_ Tryz.prog 122=some (26,[.tmp 6],nv_):=by kernel_rfl
def fY_:ad_:=(sR [oo 3 (.box 1 (.t 0)),oo 6 (.mv (cb false))]
(.seq (sR [lA 7 1 3,om 8 1,kB 9 185 7 8,oo 10 (.un .not (.t 9)),om 11 10,og 12 (.ld true 1 (.t 3)) 11 false,omg 13 2 11 false,og 14 (.call (cf 185) [(.t 12),(.t 13)]) 11 false,og 15 (.un .not (.t 14)) 11 false,oo 16 (.pick (.t 11) (cb true) (.t 15))]
(cN 16
(sR [oo 6 (.mv (cb false))]
.ret)
.skip))
(.seq (.block 0 (.loop (.seq (sR [om 17 2,om 18 1,bI 19 .gtr 17 18]
(cN 19
.skip
(.exit 0)))
(.block 1 (.reg [fA 20 0 3,lF 21 1 20,om 22 2,iX 23 240 21 22,fA 24 238 23,lF 25 1 24,om 2 25])))))
(sR [om 26 1,om 27 2,bI 28 .eql 26 27,om 6 28]
.ret))))
theorem lb_:av_ Tryz.prog 182=some (29,[.tmp 6],fY_):=by kernel_rfl
def kA_:ad_:=(sR [oo 2 (.box 238 (.t 0)),oo 4 (.new [(.sl 0 true [])])]
(sR [lA 5 238 2,om 6 1,oo 7 (.bld (aG_ dE_) [(0,238,(.t 5)),(238,1,(ci (-1))),(239,1,(.t 6))]),oo 8 (.bldS 240 1 (aG_ dE_) [(0,(.t 7))]),oo 9 (.bld [(.sl 0 true [])] [(0,1,(.t 8))]),sO 1 4 9]
.ret))
theorem rW_:av_ Tryz.prog 131=some (10,[.cell 4 true 1],kA_):=by kernel_rfl
def kD_:ad_:=(sR [oo 2 (.box 1 (.t 0)),oo 4 (.new [(.sl 0 true [])]),oo 5 (.mv (.c (.sl 0 true []))),oo 6 (.mv (ci 0))]
(.seq (sR [om 10 1,bC 11 .lss 10 (ci 0),om 12 11,omg 13 1 12 false,og 14 (.fldA 0 (.t 2)) 12 false,og 15 (.ld false 1 (.t 14)) 12 false,og 16 (.len false (.t 15)) 12 false,og 17 (.bin .geq (.t 13) (.t 16)) 12 false,oo 18 (.pick (.t 12) (cb true) (.t 17))]
(cN 18
(sR [oo 19 (.bld [(.sl 0 true [])] []),sO 1 4 19,oo 5 (.mv (.c (.sl 0 true []))),oo 6 (.mv (ci 10))]
.ret)
.skip))
(.seq (sR [fA 20 0 2,lF 21 1 20,lN 22 21,oo 23 (.mv (ci 0))]
(.block 0 (.loop (sR [bI 24 .lss 23 22]
(.seq (cN 24
.skip
(.exit 0))
(.seq (.block 1 (sR [om 25 23,iX 26 240 21 23,lA 27 240 26,oo 8 (.new (aG_ dE_)),om 7 25,sO 240 8 27]
(sR [oo 9 (.mv (ci (-1)))]
(.seq (sR [om 28 7,om 29 1,bI 30 .neq 28 29,om 31 30,og 32 (.fldA 238 (.t 8)) 31 true,og 33 (.ld false 1 (.t 32)) 31 true,og 34 (.bin .geq (.t 33) (ci 0)) 31 true,oo 35 (.pick (.t 31) (.t 34) (cb false))]
(cN 35
(.reg [om 36 5,fA 37 238 8,lF 38 1 37,iX 39 1 36 38,lF 40 1 39,om 9 40])
.skip))
(.seq (sR [om 41 7,om 42 1,bI 43 .neq 41 42,om 44 43,omg 45 9 44 true,og 46 (.bin .lss (.t 45) (ci 0)) 44 true,oo 47 (.pick (.t 44) (.t 46) (cb false))]
(cN 47
(sR [om 48 5,oo 49 (.bldS 1 1 [(.int .i64 (0))] [(0,(ci (-1)))]),oo 50 (.app 1 8 (.t 48) (.t 49)),om 5 50]
(.exit 1))
.skip))
(sR [om 51 9,fA 52 238 8,sO 1 52 51]
(sR [om 53 5,fA 54 0 4,lF 55 1 54,lN 56 55,oo 57 (.bldS 1 1 [(.int .i64 (0))] [(0,(.t 56))]),oo 58 (.app 1 8 (.t 53) (.t 57)),om 5 58]
(.reg [fA 59 0 4,lF 60 1 59,lA 61 240 8,oo 62 (.bldS 240 1 (aG_ dE_) [(0,(.t 61))]),oo 63 (.app 240 352 (.t 60) (.t 62)),fA 64 0 4,sO 1 64 63]))))))))
(.reg [bC 65 .add 23 (ci 1),om 23 65])))))))
(sR [lA 66 1 4,om 67 5,sO 1 4 66,om 5 67,oo 6 (.mv (ci 0))]
.ret))))
theorem rZ_:av_ Tryz.prog 116=some (68,[.cell 4 true 1,.tmp 5,.tmp 6],kD_):=by kernel_rfl
def gF_:ad_:=(sR [oo 2 (.mv (cb false))]
(sR [om 3 0,bC 4 .geq 3 (ci 0),om 5 4,omg 6 0 5 true,og 7 (.bin .leq (.t 6) (ci 2)) 5 true,oo 8 (.pick (.t 5) (.t 7) (cb false)),om 2 8]
.ret))
theorem lT_:av_ Tryz.prog 190=some (9,[.tmp 2],gF_):=by kernel_rfl
def tt_:ad_:=(sR [oo 2 (.mv (cu 0)),oo 3 (.mv (ci 0))]
(sR [oo 4 (.mv (cu 0))]
(.seq (sR [oo 5 (.mv (ci 0))]
(.block 0 (.loop (.seq (sR [om 8 5,om 9 0,lN 10 9,bI 11 .lss 8 10]
(cN 11
.skip
(.exit 0)))
(.seq (.block 1 (sR [om 15 4,om 16 0,om 17 5,iX 18 1 16 17,lF 19 1 18,kB 20 193 15 19,om 14 20,eX 21 0 14,eX 22 1 14,om 6 21,om 7 22]
(.seq (sR [om 23 7,bC 24 .neq 23 (ci 0)]
(cN 24
(sR [om 25 7,oo 2 (.mv (cu 0)),om 3 25]
.ret)
.skip))
(.reg [om 26 6,om 4 26]))))
(.reg [om 12 5,bC 13 .add 12 (ci 1),om 5 13]))))))
(sR [om 27 4,om 2 27,oo 3 (.mv (ci 0))]
.ret))))
theorem EC_:av_ Tryz.prog 143=some (28,[.tmp 2,.tmp 3],tt_):=by kernel_rfl
def tr_:ad_:=(sR [oo 4 (.mv (cu 0)),oo 5 (.mv (ci 0))]
(.seq (sR [om 6 0,om 7 1,oo 8 (.bin .sub (cu 18446744073709551615) (.t 7)),bI 9 .gtr 6 8]
(cN 9
(sR [oo 4 (.mv (cu 0)),oo 5 (.mv (ci 4))]
.ret)
.skip))
(sR [om 10 0,om 11 1,bI 12 .add 10 11,om 4 12,oo 5 (.mv (ci 0))]
.ret)))
theorem EA_:av_ Tryz.prog 193=some (13,[.tmp 4,.tmp 5],tr_):=by kernel_rfl
def lE_:ad_:=(sR [oo 4 (.mv (cu 0)),oo 5 (.mv (ci 0))]
(.seq (sR [om 6 1,kA 7 220 6,oo 8 (.un .not (.t 7))]
(cN 8
(sR [oo 4 (.mv (cu 0)),oo 5 (.mv (ci 3))]
.ret)
.skip))
(sR [om 9 0,om 10 1,kB 11 221 9 10,eX 12 0 11,eX 13 1 11,om 4 12,om 5 13]
.ret)))
theorem tY_:av_ Tryz.prog 188=some (14,[.tmp 4,.tmp 5],lE_):=by kernel_rfl
def nI_:ad_:=(sR [oo 2 (.mv (cb false))]
(sR [om 3 0,bC 4 .geq 3 (cu 1),om 5 4,omg 6 0 5 true,og 7 (.bin .leq (.t 6) (cu 64)) 5 true,oo 8 (.pick (.t 5) (.t 7) (cb false)),om 2 8]
.ret))
theorem wB_:av_ Tryz.prog 220=some (9,[.tmp 2],nI_):=by kernel_rfl
def ts_:ad_:=(sR [oo 4 (.mv (cu 0)),oo 5 (.mv (ci 0))]
(.seq (sR [om 6 1,bC 7 .neq 6 (cu 0),om 8 7,omg 9 0 8 true,omg 10 1 8 true,og 11 (.bin .quo (cu 18446744073709551615) (.t 10)) 8 true,og 12 (.bin .gtr (.t 9) (.t 11)) 8 true,oo 13 (.pick (.t 8) (.t 12) (cb false))]
(cN 13
(sR [oo 4 (.mv (cu 0)),oo 5 (.mv (ci 4))]
.ret)
.skip))
(sR [om 14 0,om 15 1,bI 16 .mul 14 15,om 4 16,oo 5 (.mv (ci 0))]
.ret)))
theorem EB_:av_ Tryz.prog 221=some (17,[.tmp 4,.tmp 5],ts_):=by kernel_rfl
def kL_:ad_:=(sR [oo 3 (.box 32 (.t 1)),oo 4 (.mv (cb false))]
(.seq (sR [oo 5 (.mv (ci 0))]
(.block 0 (.loop (.seq (sR [om 6 5,om 7 0,lN 8 7,bI 9 .lss 6 8]
(cN 9
.skip
(.exit 0)))
(.seq (.block 1 (.seq (.dreg [(om 12 0,0),(om 13 5,0),(iX 14 32 12 13,3),(lA 15 32 14,7),(lA 16 32 3,0),(oo 17 (.eqa [(32,1)] false (.t 15) (.t 16)),31)])
(cN 17
(sR [oo 4 (.mv (cb true))]
.ret)
.skip)))
(.reg [om 10 5,bC 11 .add 10 (ci 1),om 5 11]))))))
(sR [oo 4 (.mv (cb false))]
.ret)))
theorem sh_:av_ Tryz.prog 164=some (18,[.tmp 4],kL_):=by kernel_rfl
def lD_:ad_:=(sR [oo 2 (.box 4 (.t 0)),oo 3 (.box 4 (.t 1)),oo 4 (.mv (ci 0))]
(.seq (sR [oo 5 (.mv (ci 3))]
(.block 0 (.loop (.seq (sR [om 6 5,bC 7 .geq 6 (ci 0)]
(cN 7
.skip
(.exit 0)))
(.seq (.block 1 (.seq (.seq (.dreg [(om 10 5,0),(oo 11 (.idxA 4 1 (.t 2) (.t 10)),1),(lF 12 1 11,3),(om 13 5,0),(oo 14 (.idxA 4 1 (.t 3) (.t 13)),8),(lF 15 1 14,24),(bI 16 .lss 12 15,63)])
(cN 16
(sR [oo 4 (.mv (ci (-1)))]
.ret)
.skip))
(.seq (.dreg [(om 17 5,0),(oo 18 (.idxA 4 1 (.t 2) (.t 17)),1),(lF 19 1 18,3),(om 20 5,0),(oo 21 (.idxA 4 1 (.t 3) (.t 20)),8),(lF 22 1 21,24),(bI 23 .gtr 19 22,63)])
(cN 23
(sR [oo 4 (.mv (ci 1))]
.ret)
.skip))))
(.reg [om 8 5,bC 9 .sub 8 (ci 1),om 5 9]))))))
(sR [oo 4 (.mv (ci 0))]
.ret)))
theorem tX_:av_ Tryz.prog 202=some (24,[.tmp 4],lD_):=by kernel_rfl
def ho_:ad_:=(sR [oo 2 (.box 32 (.t 0)),oo 3 (.box 32 (.t 1)),oo 4 (.mv (ci 0))]
(.seq (sR [oo 5 (.mv (ci 0))]
(.block 0 (.loop (.seq (sR [om 6 5,bC 7 .lss 6 (ci 32)]
(cN 7
.skip
(.exit 0)))
(.seq (.block 1 (.seq (.seq (.dreg [(om 10 5,0),(oo 11 (.idxA 32 1 (.t 2) (.t 10)),1),(lF 12 1 11,3),(om 13 5,0),(oo 14 (.idxA 32 1 (.t 3) (.t 13)),8),(lF 15 1 14,24),(bI 16 .lss 12 15,63)])
(cN 16
(sR [oo 4 (.mv (ci (-1)))]
.ret)
.skip))
(.seq (.dreg [(om 17 5,0),(oo 18 (.idxA 32 1 (.t 2) (.t 17)),1),(lF 19 1 18,3),(om 20 5,0),(oo 21 (.idxA 32 1 (.t 3) (.t 20)),8),(lF 22 1 21,24),(bI 23 .gtr 19 22,63)])
(cN 23
(sR [oo 4 (.mv (ci 1))]
.ret)
.skip))))
(.reg [om 8 5,bC 9 .add 8 (ci 1),om 5 9]))))))
(sR [oo 4 (.mv (ci 0))]
.ret)))
theorem mV_:av_ Tryz.prog 144=some (24,[.tmp 4],ho_):=by kernel_rfl
def gL_:ad_:=(sR [oo 2 (.box 34 (.t 0)),oo 4 (.mv (ci 0))]
(.seq (sR [fA 7 33 2,lF 8 1 7,lN 9 8,om 10 1,bI 11 .neq 9 10]
(cN 11
(sR [oo 4 (.mv (ci 2))]
.ret)
.skip))
(sR [fA 13 33 2,lF 14 1 13,kA 15 143 14,om 12 15,eX 16 0 12,eX 17 1 12,om 5 16,om 6 17]
(.seq (sR [om 18 6,bC 19 .neq 18 (ci 0),om 20 19,omg 21 5 20 false,og 22 (.bin .gtr (.t 21) (cu 4611686018427387904)) 20 false,oo 23 (.pick (.t 20) (cb true) (.t 22))]
(cN 23
(sR [oo 4 (.mv (ci 4))]
.ret)
.skip))
(sR [oo 4 (.mv (ci 0))]
.ret)))))
theorem lZ_:av_ Tryz.prog 69=some (24,[.tmp 4],gL_):=by kernel_rfl
def jG_:ad_:=(sR [oo 1 (.box 34 (.t 0)),oo 2 (.new (aT_ fw_))]
(sR [fA 3 33 1,lF 4 1 3,oo 5 (.app 1 8 (.c (.sl 0 true [])) (.t 4)),fA 6 33 1,sO 1 6 5]
(sR [lA 7 34 1,sO 34 2 7]
.ret)))
theorem qE_:av_ Tryz.prog 141=some (8,[.cell 2 true 34],jG_):=by kernel_rfl
def kR_:ad_:=(sR [oo 5 (.box 34 (.t 1)),oo 8 (.mv (.c (.sl 0 true []))),oo 9 (.mv (ci 0))]
(.seq (sR [lA 11 34 5,om 12 2,kB 13 69 11 12,om 10 13]
(sR [om 14 10,bC 15 .neq 14 (ci 0)]
(cN 15
(sR [om 16 0,om 17 10,om 8 16,om 9 17]
.ret)
.skip)))
(.seq (sR [om 18 0,fA 19 0 5,lA 20 33 19,kB 21 68 18 20,bC 22 .geq 21 (ci 0)]
(cN 22
(sR [om 23 0,om 8 23,oo 9 (.mv (ci 9))]
.ret)
.skip))
(.seq (sR [om 24 0,lN 25 24,om 26 3,bI 27 .geq 25 26]
(cN 27
(sR [om 28 0,om 8 28,oo 9 (.mv (ci 11))]
.ret)
.skip))
(sR [om 29 0,lA 30 34 5,kB 31 171 29 30,om 8 31,oo 9 (.mv (ci 0))]
.ret)))))
theorem so_:av_ Tryz.prog 101=some (32,[.tmp 8,.tmp 9],kR_):=by kernel_rfl
def iK_:ad_:=(sR [oo 4 (.mv (.c (.sl 0 true [])))]
(sR [oo 5 (.mv (.c (.sl 0 true [])))]
(.seq (sR [oo 6 (.mv (ci 0))]
(.block 0 (.loop (.seq (sR [om 7 6,om 8 0,lN 9 8,bI 10 .lss 7 9]
(cN 10
.skip
(.exit 0)))
(.seq (.block 1 (sR [om 13 0,om 14 6,iX 15 34 13 14,fA 16 0 15,fA 17 0 16,lF 18 1 17,om 19 1,bI 20 .geq 18 19]
(cN 20
(.reg [om 21 5,om 22 0,om 23 6,iX 24 34 22 23,lA 25 34 24,oo 26 (.bldS 34 1 (aT_ fw_) [(0,(.t 25))]),oo 27 (.app 34 64 (.t 21) (.t 26)),om 5 27])
.skip)))
(.reg [om 11 6,bC 12 .add 11 (ci 1),om 6 12]))))))
(sR [om 28 5,om 4 28]
.ret))))
theorem pG_:av_ Tryz.prog 124=some (29,[.tmp 4],iK_):=by kernel_rfl
def rs_:ad_:=(sR [oo 6 (.box 32 (.t 2)),oo 8 (.mv (.c (.sl 0 true []))),oo 9 (.mv (ci 0))]
(sR [om 14 0,oo 15 (.app 34 48 (.c (.sl 0 true [])) (.t 14)),om 10 15]
(sR [oo 11 (.mv (ci 0))]
(.seq (sR [oo 12 (.mv (ci 0))]
(.block 0 (.loop (.seq (sR [om 16 12,om 17 3,lN 18 17,bI 19 .lss 16 18]
(cN 19
.skip
(.exit 0)))
(.seq (.block 1 (sR [om 22 10,om 23 3,om 24 12,iX 25 1 23 24,lF 26 1 25,iX 27 34 22 26,lA 28 34 27,oo 13 (.new (aZ_ eh_)),sO 34 13 28]
(sR [fA 29 0 13,lF 30 1 29,oo 31 (.un .not (.t 30)),om 32 31,og 33 (.fldA 1 (.t 13)) 32 false,og 34 (.ld false 1 (.t 33)) 32 false,omg 35 1 32 false,og 36 (.bin .lss (.t 34) (.t 35)) 32 false,oo 37 (.pick (.t 32) (cb true) (.t 36))]
(cN 37
(.seq (.dreg [(om 38 10,0),(om 39 3,0),(om 40 12,0),(iX 41 1 39 40,6),(lF 42 1 41,14),(om 43 1,0),(lA 44 32 6,0),(oo 45 (.bld (aZ_ eh_) [(0,1,(cb true)),(1,1,(.t 43)),(2,32,(.t 44))]),96),(iX 46 34 38 42,255),(sO 34 46 45,511)])
(.reg [om 47 11,bC 48 .add 47 (ci 1),om 11 48]))
.skip))))
(.reg [om 20 12,bC 21 .add 20 (ci 1),om 12 21]))))))
(sR [om 49 10,om 50 11,om 8 49,om 9 50]
.ret)))))
theorem BQ_:av_ Tryz.prog 129=some (51,[.tmp 8,.tmp 9],rs_):=by kernel_rfl
def nP_:ad_:=(sR [oo 4 (.mv (.c (.sl 0 true []))),oo 5 (.mv (ci 0))]
(sR [om 8 0,oo 9 (.app 1 8 (.c (.sl 0 true [])) (.t 8)),om 6 9]
(.seq (sR [oo 7 (.mv (ci 0))]
(.block 0 (.loop (.seq (sR [om 10 7,om 11 1,lN 12 11,bI 13 .lss 10 12]
(cN 13
.skip
(.exit 0)))
(.seq (.block 1 (.reg [om 16 6,om 17 1,om 18 7,iX 19 1 17 18,lF 20 1 19,kB 21 91 16 20,om 6 21]))
(.reg [om 14 7,bC 15 .add 14 (ci 1),om 7 15]))))))
(sR [om 22 6,om 23 6,lN 24 23,om 25 0,lN 26 25,bI 27 .sub 24 26,om 4 22,om 5 27]
.ret))))
theorem wJ_:av_ Tryz.prog 95=some (28,[.tmp 4,.tmp 5],nP_):=by kernel_rfl
def jH_:ad_:=(sR [oo 3 (.box 33 (.t 1)),oo 4 (.mv (ci 0))]
(.seq (sR [oo 5 (.mv (ci 0))]
(.block 0 (.loop (.seq (sR [om 6 5,om 7 0,lN 8 7,bI 9 .lss 6 8]
(cN 9
.skip
(.exit 0)))
(.seq (.block 1 (.seq (.dreg [(om 12 0,0),(om 13 5,0),(iX 14 34 12 13,3),(fA 15 0 14,7),(lA 16 33 15,15),(lA 17 33 3,0),(oo 18 (.eqa [(33,1)] false (.t 16) (.t 17)),63)])
(cN 18
(sR [om 19 5,om 4 19]
.ret)
.skip)))
(.reg [om 10 5,bC 11 .add 10 (ci 1),om 5 11]))))))
(sR [oo 4 (.mv (ci (-1)))]
.ret)))
theorem qF_:av_ Tryz.prog 68=some (20,[.tmp 4],jH_):=by kernel_rfl
def bO_:ad_:=(sR [oo 3 (.box 34 (.t 1)),oo 4 (.mv (.c (.sl 0 true [])))]
(sR [oo 5 (.mv (ci 0))]
(.seq (.block 0 (.loop (.seq (.seq (.dreg [(om 6 5,0),(om 7 0,0),(lN 8 7,2),(bI 9 .lss 6 8,7),(om 10 9,15),(omg 11 0 10 true,31),(omg 12 5 10 true,31),(og 13 (.idxS 34 (.t 11) (.t 12)) 10 true,127),(og 14 (.fldA 0 (.t 13)) 10 true,255),(og 15 (.ld true 33 (.t 14)) 10 true,511),(og 16 (.fldA 0 (.t 3)) 10 true,31),(og 17 (.ld true 33 (.t 16)) 10 true,1055),(og 18 (.call (cf 71) [(.t 15),(.t 17)]) 10 true,4095),(og 19 (.bin .lss (.t 18) (ci 0)) 10 true,8191),(oo 20 (.pick (.t 10) (.t 19) (cb false)),16383)])
(cN 20
.skip
(.exit 0)))
(.block 1 (.reg [om 21 5,bC 22 .add 21 (ci 1),om 5 22])))))
(.seq (.dreg [(om 23 0,0),(om 24 5,0),(oo 25 (.sli 34 (.t 23) none (some (.t 24)) none),3),(oo 26 (.app 34 64 (.c (.sl 0 true [])) (.t 25)),7),(lA 27 34 3,0),(kA 28 141 27,31),(oo 29 (.bldS 34 1 (aT_ fw_) [(0,(.t 28))]),63),(oo 30 (.app 34 64 (.t 26) (.t 29)),127),(om 31 0,0),(om 32 5,0),(oo 33 (.sli 34 (.t 31) (some (.t 32)) none none),768),(oo 34 (.app 34 64 (.t 30) (.t 33)),2047),(om 4 34,4095)])
.ret))))
theorem sm_:av_ Tryz.prog 171=some (35,[.tmp 4],bO_):=by kernel_rfl
def eK_:ad_:=(sR [oo 2 (.box 33 (.t 0)),oo 3 (.box 33 (.t 1)),oo 4 (.mv (ci 0))]
(.seq (sR [fA 5 0 2,lF 6 1 5,fA 7 0 3,lF 8 1 7,bI 9 .neq 6 8]
(cN 9
(.seq (sR [fA 10 0 2,lF 11 1 10,fA 12 0 3,lF 13 1 12,bI 14 .lss 11 13]
(cN 14
(sR [oo 4 (.mv (ci (-1)))]
.ret)
.skip))
(sR [oo 4 (.mv (ci 1))]
.ret))
.skip))
(sR [fA 15 1 2,lA 16 32 15,fA 17 1 3,lA 18 32 17,kB 19 144 16 18,om 4 19]
.ret)))
theorem iE_:av_ Tryz.prog 71=some (20,[.tmp 4],eK_):=by kernel_rfl
def nQ_:ad_:=(sR [oo 3 (.box 2 (.t 0)),oo 6 (.mv (cu 0))]
(sR [oo 7 (.mv (cu 0))]
(.seq (sR [oo 8 (.mv (ci 0))]
(.block 0 (.loop (.seq (sR [om 9 8,om 10 1,lN 11 10,bI 12 .lss 9 11,om 13 12,omg 14 8 13 true,og 15 (.fldA 0 (.t 3)) 13 true,og 16 (.ld false 1 (.t 15)) 13 true,og 17 (.len false (.t 16)) 13 true,og 18 (.bin .lss (.t 14) (.t 17)) 13 true,oo 19 (.pick (.t 13) (.t 18) (cb false))]
(cN 19
.skip
(.exit 0)))
(.seq (.block 1 (sR [fA 22 0 3,lF 23 1 22,om 24 8,iX 25 34 23 24,fA 26 0 25,lF 27 1 26,om 28 27,og 29 (.fldA 1 (.t 3)) 28 true,og 30 (.ld false 1 (.t 29)) 28 true,omg 31 8 28 true,og 32 (.call (cf 27) [(.t 30),(.t 31)]) 28 true,og 33 (.un .not (.t 32)) 28 true,oo 34 (.pick (.t 28) (.t 33) (cb false)),om 35 34,omg 36 2 35 true,og 37 (.fldA 0 (.t 3)) 35 true,og 38 (.ld false 1 (.t 37)) 35 true,omg 39 8 35 true,og 40 (.idxS 34 (.t 38) (.t 39)) 35 true,og 41 (.fldA 2 (.t 40)) 35 true,og 42 (.ld true 32 (.t 41)) 35 true,og 43 (.call (cf 164) [(.t 36),(.t 42)]) 35 true,oo 44 (.pick (.t 35) (.t 43) (cb false))]
(cN 44
(.reg [om 45 7,om 46 1,om 47 8,iX 48 1 46 47,lF 49 1 48,bI 50 .add 45 49,om 7 50])
.skip)))
(.reg [om 20 8,bC 21 .add 20 (ci 1),om 8 21]))))))
(sR [om 51 7,om 6 51]
.ret))))
theorem wK_:av_ Tryz.prog 92=some (52,[.tmp 6],nQ_):=by kernel_rfl
def pe_:ad_:=(sR [oo 2 (.box 1 (.t 0)),oo 3 (.box 32 (.t 1)),oo 4 (.mv (ci 0))]
(.seq (sR [oo 5 (.mv (ci 0))]
(.block 0 (.loop (.seq (sR [om 6 5,fA 7 0 2,lF 8 1 7,lN 9 8,bI 10 .lss 6 9]
(cN 10
.skip
(.exit 0)))
(.seq (.block 1 (.seq (.dreg [(fA 13 0 2,0),(lF 14 1 13,1),(om 15 5,0),(iX 16 240 14 15,7),(fA 17 0 16,15),(fA 18 67 17,31),(lA 19 32 18,63),(lA 20 32 3,0),(oo 21 (.eqa [(32,1)] false (.t 19) (.t 20)),255)])
(cN 21
(sR [om 22 5,om 4 22]
.ret)
.skip)))
(.reg [om 11 5,bC 12 .add 11 (ci 1),om 5 12]))))))
(sR [oo 4 (.mv (ci (-1)))]
.ret)))
theorem zG_:av_ Tryz.prog 23=some (23,[.tmp 4],pe_):=by kernel_rfl
def fF_:ad_:=(sR [oo 2 (.box 1 (.t 0)),oo 4 (.mv (.c (.sl 0 true [])))]
(.seq (sR [lA 5 1 2,om 6 1,kB 7 187 5 6,oo 8 (.un .not (.t 7))]
(cN 8
(sR [oo 4 (.mv (.c (.sl 0 true [])))]
.ret)
.skip))
(.seq (sR [om 9 1,bC 10 .eql 9 (ci 0)]
(cN 10
(sR [oo 11 (.bldS 1 1 [(.int .i64 (0))] [(0,(ci 0))]),om 4 11]
.ret)
.skip))
(.seq (.dreg [(lA 12 1 2,0),(fA 13 0 2,0),(lF 14 1 13,2),(om 15 1,0),(iX 16 240 14 15,14),(fA 17 238 16,30),(lF 18 1 17,62),(kB 19 189 12 18,127),(om 20 1,0),(oo 21 (.bldS 1 1 [(.int .i64 (0))] [(0,(.t 20))]),256),(oo 22 (.app 1 8 (.t 19) (.t 21)),1023),(om 4 22,2047)])
.ret))))
theorem hB_:av_ Tryz.prog 189=some (23,[.tmp 4],fF_):=by kernel_rfl
def tp_:ad_:=(sR [oo 2 (.box 1 (.t 0)),oo 4 (.mv (cb false))]
(sR [om 5 1,bC 6 .geq 5 (ci 0),om 7 6,omg 8 1 7 true,og 9 (.fldA 0 (.t 2)) 7 true,og 10 (.ld false 1 (.t 9)) 7 true,og 11 (.len false (.t 10)) 7 true,og 12 (.bin .lss (.t 8) (.t 11)) 7 true,oo 13 (.pick (.t 7) (.t 12) (cb false)),om 4 13]
.ret))
theorem Ey_:av_ Tryz.prog 187=some (14,[.tmp 4],tp_):=by kernel_rfl
def to_:ad_:=(sR [oo 3 (.box 1 (.t 0)),oo 6 (.mv (ci 0))]
(sR [oo 7 (.mv (ci (-1)))]
(sR [lA 10 1 3,om 11 1,kB 12 189 10 11,om 8 12]
(.seq (sR [oo 9 (.mv (ci 0))]
(.block 0 (.loop (.seq (sR [om 13 9,om 14 8,lN 15 14,bI 16 .lss 13 15]
(cN 16
.skip
(.exit 0)))
(.seq (.block 1 (.seq (.dreg [(fA 19 0 3,0),(lF 20 1 19,1),(om 21 8,0),(om 22 9,0),(iX 23 1 21 22,12),(lF 24 1 23,28),(iX 25 240 20 24,63),(fA 26 0 25,127),(fA 27 66 26,255),(lF 28 1 27,511),(om 29 2,0),(bI 30 .leq 28 29,2047)])
(cN 30
(.reg [om 31 8,om 32 9,iX 33 1 31 32,lF 34 1 33,om 7 34])
.skip)))
(.reg [om 17 9,bC 18 .add 17 (ci 1),om 9 18]))))))
(sR [om 35 7,om 6 35]
.ret)))))
theorem Ex_:av_ Tryz.prog 128=some (36,[.tmp 6],to_):=by kernel_rfl
def rn_:ad_:=(sR [oo 2 (.box 238 (.t 0)),oo 4 (.new [(.sl 0 true [])])]
(sR [lA 5 238 2,om 6 1,oo 7 (.bld (aG_ dE_) [(0,238,(.t 5)),(238,1,(ci (-1))),(239,1,(.t 6))]),oo 8 (.bldS 240 1 (aG_ dE_) [(0,(.t 7))]),oo 9 (.bld [(.sl 0 true [])] [(0,1,(.t 8))]),sO 1 4 9]
.ret))
theorem BL_:av_ Tryz.prog 140=some (10,[.cell 4 true 1],rn_):=by kernel_rfl
def nz_:ad_:=(sR [oo 4 (.box 1 (.t 0)),oo 6 (.box 34 (.t 2)),oo 8 (.new [(.sl 0 true [])]),oo 9 (.mv (ci 0))]
(.seq (sR [lA 15 1 4,om 16 1,kB 17 187 15 16,oo 18 (.un .not (.t 17))]
(cN 18
(sR [oo 19 (.bld [(.sl 0 true [])] []),sO 1 8 19,oo 9 (.mv (ci 10))]
.ret)
.skip))
(.seq (sR [fA 20 1 6,lF 21 1 20]
(.block 0 (sR [bC 24 .eql 21 (ci 1),om 23 24]
(cN 23
(sR [lA 25 1 4,om 26 1,kB 27 268 25 26,eX 28 0 27,eX 29 1 27,sO 1 8 28,om 9 29]
.ret)
(.seq (sR [bC 31 .eql 21 (ci 3),om 30 31]
(cN 30
.skip
(.reg [bC 32 .eql 21 (ci 4),om 30 32])))
(cN 30
(sR [lA 33 1 4,sO 1 8 33,oo 9 (.mv (ci 0))]
.ret)
(sR [bC 35 .eql 21 (ci 2),om 34 35]
(cN 34
.skip
(sR [oo 22 (.bld [(.sl 0 true [])] []),sO 1 8 22,oo 9 (.mv (ci 2))]
.ret)))))))))
(sR [lA 37 1 4,om 38 1,fA 39 2 6,lA 40 32 39,kC 41 269 37 38 40,om 36 41,eX 42 0 36,eX 43 1 36,om 10 42,om 11 43]
(.seq (sR [oo 12 (.mv (ci 0))]
(.block 1 (.loop (.seq (sR [om 44 12,om 45 3,lN 46 45,bI 47 .lss 44 46]
(cN 47
.skip
(.exit 1)))
(.seq (.block 2 (.seq (.dreg [(lA 50 1 4,0),(om 51 11,0),(om 52 3,0),(om 53 12,0),(iX 54 1 52 53,12),(lF 55 1 54,28),(kC 56 186 50 51 55,63)])
(cN 56
(sR [oo 57 (.bld [(.sl 0 true [])] []),sO 1 8 57,oo 9 (.mv (ci 21))]
.ret)
.skip)))
(.reg [om 48 12,bC 49 .add 48 (ci 1),om 12 49]))))))
(.seq (sR [om 58 10,bC 59 .geq 58 (ci 0)]
(cN 59
(sR [lA 61 1 4,om 62 10,kB 63 268 61 62,om 60 63,eX 64 0 60,eX 65 1 60,oo 13 (.new [(.sl 0 true [])]),sO 1 13 64,om 14 65]
(.seq (sR [om 66 14,bC 67 .neq 66 (ci 0)]
(cN 67
(sR [oo 68 (.bld [(.sl 0 true [])] []),om 69 14,sO 1 8 68,om 9 69]
.ret)
.skip))
(.reg [lA 70 1 13,sO 1 4 70])))
.skip))
(sR [lA 71 1 4,om 72 11,kB 73 270 71 72,eX 74 0 73,eX 75 1 73,sO 1 8 74,om 9 75]
.ret)))))))
theorem wr_:av_ Tryz.prog 250=some (76,[.cell 8 true 1,.tmp 9],nz_):=by kernel_rfl
def nA_:ad_:=(sR [oo 2 (.box 1 (.t 0)),oo 4 (.new [(.sl 0 true [])]),oo 5 (.mv (.c (.sl 0 true []))),oo 6 (.mv (ci 0))]
(.seq (sR [lA 11 1 2,om 12 1,kB 13 187 11 12,oo 14 (.un .not (.t 13))]
(cN 14
(sR [oo 15 (.bld [(.sl 0 true [])] []),sO 1 4 15,oo 5 (.mv (.c (.sl 0 true []))),oo 6 (.mv (ci 10))]
.ret)
.skip))
(sR [oo 7 (.new [(.sl 0 true [])])]
(sR [oo 8 (.mv (.c (.sl 0 true [])))]
(.seq (sR [oo 9 (.mv (ci 0))]
(.block 0 (.loop (.seq (sR [om 16 9,fA 17 0 2,lF 18 1 17,lN 19 18,bI 20 .lss 16 19]
(cN 20
.skip
(.exit 0)))
(.seq (.block 1 (.seq (sR [lA 23 1 2,om 24 1,om 25 9,kC 26 186 23 24 25,oo 27 (.un .not (.t 26))]
(cN 27
(sR [om 28 8,oo 29 (.bldS 1 1 [(.int .i64 (0))] [(0,(ci (-1)))]),oo 30 (.app 1 8 (.t 28) (.t 29)),om 8 30]
(.exit 1))
.skip))
(sR [fA 31 0 2,lF 32 1 31,om 33 9,iX 34 240 32 33,lA 35 240 34,oo 10 (.new (aG_ dE_)),sO 240 10 35]
(.seq (sR [om 36 9,om 37 1,bI 38 .eql 36 37]
(cN 38
(.reg [fA 39 238 10,on (.sto 1 (.t 39) (ci (-1)))])
(.reg [om 40 8,fA 41 238 10,lF 42 1 41,iX 43 1 40 42,lF 44 1 43,fA 45 238 10,sO 1 45 44])))
(sR [om 46 8,fA 47 0 7,lF 48 1 47,lN 49 48,oo 50 (.bldS 1 1 [(.int .i64 (0))] [(0,(.t 49))]),oo 51 (.app 1 8 (.t 46) (.t 50)),om 8 51]
(.reg [fA 52 0 7,lF 53 1 52,lA 54 240 10,oo 55 (.bldS 240 1 (aG_ dE_) [(0,(.t 54))]),oo 56 (.app 240 352 (.t 53) (.t 55)),fA 57 0 7,sO 1 57 56]))))))
(.reg [om 21 9,bC 22 .add 21 (ci 1),om 9 22]))))))
(sR [lA 58 1 7,om 59 8,sO 1 4 58,om 5 59,oo 6 (.mv (ci 0))]
.ret))))))
theorem ws_:av_ Tryz.prog 125=some (60,[.cell 4 true 1,.tmp 5,.tmp 6],nA_):=by kernel_rfl
def pf_:ad_:=(sR [oo 3 (.box 4 (.t 0)),oo 4 (.box 238 (.t 1)),oo 5 (.box 238 (.t 2)),oo 6 (.mv (cb false))]
(.seq (.block 0 (sR [fA 8 131 5,lA 9 32 8,oo 10 (.bld (rtc rt0) []),oo 11 (.eqa [(32,1)] false (.t 9) (.t 10)),om 7 11]
(cN 7
(sR [fA 12 131 4,lA 13 32 12,oo 14 (.bld (rtc rt0) []),oo 15 (.eqa [(32,1)] false (.t 13) (.t 14)),om 6 15]
.ret)
(sR [lA 17 238 4,lA 18 238 5,kB 19 201 17 18,om 16 19]
(cN 16
(sR [fA 20 167 5,lA 21 4 20,lA 22 4 3,kB 23 202 21 22,bC 24 .lss 23 (ci 0),om 25 24,og 26 (.fldA 163 (.t 5)) 25 true,og 27 (.ld true 4 (.t 26)) 25 true,og 28 (.ld true 4 (.t 3)) 25 true,og 29 (.call (cf 202) [(.t 27),(.t 28)]) 25 true,og 30 (.bin .geq (.t 29) (ci 0)) 25 true,oo 31 (.pick (.t 25) (.t 30) (cb false)),om 6 31]
.ret)
.skip)))))
(sR [oo 6 (.mv (cb true))]
.ret)))
theorem zH_:av_ Tryz.prog 155=some (32,[.tmp 6],pf_):=by kernel_rfl
def lx_:ad_:=(sR [oo 3 (.box 1 (.t 0)),oo 4 (.box 238 (.t 1)),oo 6 (.new [(.sl 0 true [])]),oo 7 (.mv (ci 0))]
(.seq (sR [om 9 2,kA 10 192 9,oo 11 (.un .not (.t 10))]
(cN 11
(sR [oo 12 (.bld [(.sl 0 true [])] []),sO 1 6 12,oo 7 (.mv (ci 2))]
.ret)
.skip))
(.seq (sR [lA 13 1 3,fA 14 67 4,lA 15 32 14,kB 16 23 13 15,bC 17 .geq 16 (ci 0)]
(cN 17
(sR [oo 18 (.bld [(.sl 0 true [])] []),sO 1 6 18,oo 7 (.mv (ci 9))]
.ret)
.skip))
(sR [lA 19 1 3,fA 20 99 4,lA 21 32 20,kB 22 23 19 21,om 8 22]
(.seq (sR [om 23 8,bC 24 .lss 23 (ci 0)]
(cN 24
(sR [oo 25 (.bld [(.sl 0 true [])] []),sO 1 6 25,oo 7 (.mv (ci 10))]
.ret)
.skip))
(.seq (.seq (.dreg [(fA 26 66 4,0),(lF 27 1 26,1),(fA 28 0 3,0),(lF 29 1 28,4),(om 30 8,0),(iX 31 240 29 30,28),(fA 32 0 31,60),(fA 33 66 32,124),(lF 34 1 33,252),(bI 35 .leq 27 34,511)])
(cN 35
(sR [oo 36 (.bld [(.sl 0 true [])] []),sO 1 6 36,oo 7 (.mv (ci 14))]
.ret)
.skip))
(.seq (sR [fA 37 0 3,lF 38 1 37,lN 39 38,bC 40 .geq 39 (ci 4096)]
(cN 40
(sR [oo 41 (.bld [(.sl 0 true [])] []),sO 1 6 41,oo 7 (.mv (ci 11))]
.ret)
.skip))
(.seq (.dreg [(fA 42 0 3,0),(lF 43 1 42,1),(oo 44 (.app 240 352 (.c (.sl 0 true [])) (.t 43)),3),(lA 45 238 4,0),(om 46 8,0),(om 47 2,0),(oo 48 (.bld (aG_ dE_) [(0,238,(.t 45)),(238,1,(.t 46)),(239,1,(.t 47))]),56),(oo 49 (.bldS 240 1 (aG_ dE_) [(0,(.t 48))]),120),(oo 50 (.app 240 352 (.t 44) (.t 49)),255),(oo 51 (.bld [(.sl 0 true [])] [(0,1,(.t 50))]),511),(sO 1 6 51,1023),(oo 7 (.mv (ci 0)),2047)])
.ret))))))))
theorem tQ_:av_ Tryz.prog 156=some (52,[.cell 6 true 1,.tmp 7],lx_):=by kernel_rfl
def jA_:ad_:=(sR [oo 1 (.box 238 (.t 0)),oo 2 (.mv (ci 0))]
(.seq (sR [fA 3 131 1,lA 4 32 3,oo 5 (.bld (rtc rt0) []),oo 6 (.eqa [(32,1)] false (.t 4) (.t 5))]
(cN 6
(sR [oo 2 (.mv (ci 1))]
.ret)
.skip))
(sR [oo 2 (.mv (ci 0))]
.ret)))
theorem qy_:av_ Tryz.prog 157=some (7,[.tmp 2],jA_):=by kernel_rfl
def nB_:ad_:=(sR [oo 2 (.box 1 (.t 0)),oo 4 (.new [(.sl 0 true [])]),oo 5 (.mv (ci 0))]
(.seq (sR [lA 8 1 2,om 9 1,kB 10 187 8 9,oo 11 (.un .not (.t 10))]
(cN 11
(sR [oo 12 (.bld [(.sl 0 true [])] []),sO 1 4 12,oo 5 (.mv (ci 10))]
.ret)
.skip))
(.seq (.dreg [(lA 14 1 2,0),(lA 15 1 2,0),(om 16 1,0),(kB 17 189 15 16,6),(oo 18 (.call (cf 278) [(.t 14),(.t 17),(ci 1),(ci 2)]),15),(om 13 18,31),(eX 19 0 13,63),(eX 20 1 13,63),(oo 6 (.new [(.sl 0 true [])]),0),(sO 1 6 19,383),(om 7 20,1023)])
(.seq (sR [om 21 7,oo 22 (.un .not (.t 21))]
(cN 22
(sR [oo 23 (.bld [(.sl 0 true [])] []),sO 1 4 23,oo 5 (.mv (ci 21))]
.ret)
.skip))
(sR [lA 24 1 6,sO 1 4 24,oo 5 (.mv (ci 0))]
.ret)))))
theorem wt_:av_ Tryz.prog 268=some (25,[.cell 4 true 1,.tmp 5],nB_):=by kernel_rfl
def nC_:ad_:=(sR [oo 3 (.box 1 (.t 0)),oo 5 (.box 32 (.t 2)),oo 6 (.mv (ci 0)),oo 7 (.mv (ci 0))]
(sR [lA 11 1 3,om 12 1,kB 13 189 11 12,om 8 13]
(.seq (sR [om 14 8,lN 15 14,bC 16 .eql 15 (ci 0)]
(cN 16
(sR [oo 6 (.mv (ci (-1))),oo 7 (.mv (ci (-1)))]
.ret)
.skip))
(.seq (sR [lA 17 32 5,oo 18 (.bld (rtc rt0) []),oo 19 (.eqa [(32,1)] false (.t 17) (.t 18))]
(cN 19
(.seq (sR [oo 9 (.mv (ci 0))]
(.block 0 (.loop (.seq (sR [om 20 9,om 21 8,lN 22 21,bI 23 .lss 20 22]
(cN 23
.skip
(.exit 0)))
(.seq (.block 1 (.seq (.dreg [(fA 26 0 3,0),(lF 27 1 26,1),(om 28 8,0),(om 29 9,0),(iX 30 1 28 29,12),(lF 31 1 30,28),(iX 32 240 27 31,63),(fA 33 0 32,127),(fA 34 131 33,255),(lA 35 32 34,511),(oo 36 (.bld (rtc rt0) []),0),(oo 37 (.eqa [(32,1)] true (.t 35) (.t 36)),2047)])
(cN 37
(.seq (.dreg [(fA 38 0 3,0),(lF 39 1 38,1),(om 40 8,0),(om 41 9,0),(iX 42 1 40 41,12),(lF 43 1 42,28),(iX 44 240 39 43,63),(fA 45 238 44,127),(lF 46 1 45,255),(om 47 8,0),(om 48 9,0),(iX 49 1 47 48,1536),(lF 50 1 49,3584),(om 6 46,511),(om 7 50,16383)])
.ret)
.skip)))
(.reg [om 24 9,bC 25 .add 24 (ci 1),om 9 25]))))))
(sR [om 51 1,oo 6 (.mv (ci (-1))),om 7 51]
.ret))
.skip))
(.seq (sR [om 52 8,lN 53 52,bC 54 .sub 53 (ci 2),om 10 54]
(.block 2 (.loop (.seq (sR [om 55 10,bC 56 .geq 55 (ci 0)]
(cN 56
.skip
(.exit 2)))
(.seq (.block 3 (.seq (.dreg [(fA 59 0 3,0),(lF 60 1 59,1),(om 61 8,0),(om 62 10,0),(iX 63 1 61 62,12),(lF 64 1 63,28),(iX 65 240 60 64,63),(fA 66 0 65,127),(fA 67 131 66,255),(lA 68 32 67,511),(lA 69 32 5,0),(oo 70 (.eqa [(32,1)] false (.t 68) (.t 69)),2047)])
(cN 70
(.seq (.dreg [(om 71 8,0),(om 72 10,0),(iX 73 1 71 72,3),(lF 74 1 73,7),(om 75 8,0),(om 76 10,0),(bC 77 .add 76 (ci 1),32),(iX 78 1 75 77,112),(lF 79 1 78,240),(om 6 74,15),(om 7 79,1023)])
.ret)
.skip)))
(.reg [om 57 10,bC 58 .sub 57 (ci 1),om 10 58]))))))
(sR [om 80 1,oo 6 (.mv (ci (-1))),om 7 80]
.ret))))))
theorem wu_:av_ Tryz.prog 269=some (81,[.tmp 6,.tmp 7],nC_):=by kernel_rfl
def hY_:ad_:=(sR [oo 3 (.box 1 (.t 0)),oo 6 (.mv (cb false))]
(sR [lA 7 1 3,om 8 2,kB 9 189 7 8,om 10 1,kB 11 27 9 10,om 6 11]
.ret))
theorem or_:av_ Tryz.prog 186=some (12,[.tmp 6],hY_):=by kernel_rfl
def kF_:ad_:=(sR [oo 2 (.box 1 (.t 0)),oo 4 (.new [(.sl 0 true [])]),oo 5 (.mv (ci 0))]
(.seq (sR [lA 8 1 2,om 9 1,kB 10 187 8 9,oo 11 (.un .not (.t 10))]
(cN 11
(sR [oo 12 (.bld [(.sl 0 true [])] []),sO 1 4 12,oo 5 (.mv (ci 10))]
.ret)
.skip))
(.seq (.dreg [(lA 14 1 2,0),(lA 15 1 2,0),(om 16 1,0),(kB 17 279 15 16,6),(oo 18 (.call (cf 278) [(.t 14),(.t 17),(ci 2),(ci 1)]),15),(om 13 18,31),(eX 19 0 13,63),(eX 20 1 13,63),(oo 6 (.new [(.sl 0 true [])]),0),(sO 1 6 19,383),(om 7 20,1023)])
(.seq (sR [om 21 7,oo 22 (.un .not (.t 21))]
(cN 22
(sR [oo 23 (.bld [(.sl 0 true [])] []),sO 1 4 23,oo 5 (.mv (ci 21))]
.ret)
.skip))
(sR [lA 24 1 6,sO 1 4 24,oo 5 (.mv (ci 0))]
.ret)))))
theorem sb_:av_ Tryz.prog 270=some (25,[.cell 4 true 1,.tmp 5],kF_):=by kernel_rfl
def lv_:ad_:=(sR [oo 2 (.box 45 (.t 0)),oo 4 (.mv (cu 0)),oo 5 (.mv (ci 0))]
(.seq (sR [fA 7 6 2,lF 8 1 7,bC 9 .lss 8 (cu 1),om 10 9,og 11 (.fldA 6 (.t 2)) 10 false,og 12 (.ld false 1 (.t 11)) 10 false,og 13 (.bin .gtr (.t 12) (cu 64)) 10 false,oo 14 (.pick (.t 10) (cb true) (.t 13)),om 15 14,og 16 (.fldA 7 (.t 2)) 15 false,og 17 (.ld false 1 (.t 16)) 15 false,og 18 (.bin .gtr (.t 17) (cu 100)) 15 false,oo 19 (.pick (.t 15) (cb true) (.t 18)),om 20 19,omg 21 1 20 false,og 22 (.bin .gtr (.t 21) (cu 4611686018427387904)) 20 false,oo 23 (.pick (.t 20) (cb true) (.t 22))]
(cN 23
(sR [oo 4 (.mv (cu 0)),oo 5 (.mv (ci 3))]
.ret)
.skip))
(sR [om 24 1,fA 25 6 2,lF 26 1 25,bI 27 .quo 24 26,om 6 27]
(sR [om 28 6,bC 29 .quo 28 (cu 100),fA 30 7 2,lF 31 1 30,bI 32 .mul 29 31,om 33 6,bC 34 .rem 33 (cu 100),fA 35 7 2,lF 36 1 35,bI 37 .mul 34 36,bC 38 .quo 37 (cu 100),bI 39 .add 32 38,om 4 39,oo 5 (.mv (ci 0))]
.ret))))
theorem tO_:av_ Tryz.prog 272=some (40,[.tmp 4,.tmp 5],lv_):=by kernel_rfl
def lw_:ad_:=(sR [oo 3 (.box 1 (.t 0)),oo 4 (.box 2 (.t 1)),oo 6 (.mv (.c (.sl 0 true [])))]
(sR [oo 7 (.mv (.c (.sl 0 true [])))]
(.seq (sR [oo 8 (.mv (ci 0))]
(.block 0 (.loop (.seq (sR [om 10 8,fA 11 0 3,lF 12 1 11,lN 13 12,bI 14 .lss 10 13]
(cN 14
.skip
(.exit 0)))
(.seq (.block 1 (sR [oo 9 (.mv (cu 0))]
(.seq (sR [fA 17 0 3,lF 18 1 17,om 19 8,iX 20 240 18 19,fA 21 239 20,lF 22 1 21,bC 23 .neq 22 (ci 2)]
(cN 23
(.dreg [(lA 24 2 4,0),(om 25 2,0),(fA 26 0 3,0),(lF 27 1 26,4),(om 28 8,0),(iX 29 240 27 28,28),(fA 30 0 29,60),(fA 31 67 30,124),(lA 32 32 31,252),(oo 33 (.bldS 32 1 (rtc rt0) [(0,(.t 32))]),508),(kC 34 92 24 25 33,1023),(om 9 34,2047)])
.skip))
(.reg [om 35 7,om 36 9,oo 37 (.bldS 1 1 [(.int .u64 (0))] [(0,(.t 36))]),oo 38 (.app 1 8 (.t 35) (.t 37)),om 7 38]))))
(.reg [om 15 8,bC 16 .add 15 (ci 1),om 8 16]))))))
(sR [om 39 7,om 6 39]
.ret))))
theorem tP_:av_ Tryz.prog 28=some (40,[.tmp 6],lw_):=by kernel_rfl
def kG_:ad_:=(sR [oo 2 (.box 1 (.t 0)),oo 4 (.mv (.c (.sl 0 true [])))]
(sR [oo 5 (.mv (.c (.sl 0 true [])))]
(.seq (sR [oo 6 (.mv (ci 0))]
(.block 0 (.loop (.seq (sR [om 10 6,fA 11 0 2,lF 12 1 11,lN 13 12,bI 14 .lss 10 13]
(cN 14
.skip
(.exit 0)))
(.seq (.block 1 (sR [oo 7 (.mv (cu 0))]
(sR [lA 17 1 2,om 18 6,kB 19 279 17 18,om 8 19]
(.seq (sR [oo 9 (.mv (ci 0))]
(.block 2 (.loop (.seq (sR [om 20 9,om 21 8,lN 22 21,bI 23 .lss 20 22]
(cN 23
.skip
(.exit 2)))
(.seq (.block 3 (.reg [om 26 7,om 27 1,om 28 8,om 29 9,iX 30 1 28 29,lF 31 1 30,iX 32 1 27 31,lF 33 1 32,bI 34 .add 26 33,om 7 34]))
(.reg [om 24 9,bC 25 .add 24 (ci 1),om 9 25]))))))
(.reg [om 35 5,om 36 7,oo 37 (.bldS 1 1 [(.int .u64 (0))] [(0,(.t 36))]),oo 38 (.app 1 8 (.t 35) (.t 37)),om 5 38])))))
(.reg [om 15 6,bC 16 .add 15 (ci 1),om 6 16]))))))
(sR [om 39 5,om 4 39]
.ret))))
theorem sc_:av_ Tryz.prog 273=some (40,[.tmp 4],kG_):=by kernel_rfl
def kE_:ad_:=(sR [oo 4 (.box 1 (.t 0)),oo 6 (.box 32 (.t 2)),oo 8 (.mv (.c (.sl 0 true [])))]
(sR [om 11 1,oo 12 (.app 1 8 (.c (.sl 0 true [])) (.t 11)),om 9 12]
(sR [lA 13 1 4,lA 14 32 6,kB 15 23 13 14,om 10 15]
(.seq (sR [om 16 10,bC 17 .geq 16 (ci 0),om 18 17,og 19 (.fldA 0 (.t 4)) 18 true,og 20 (.ld false 1 (.t 19)) 18 true,omg 21 10 18 true,og 22 (.idxS 240 (.t 20) (.t 21)) 18 true,og 23 (.fldA 239 (.t 22)) 18 true,og 24 (.ld false 1 (.t 23)) 18 true,og 25 (.bin .neq (.t 24) (ci 2)) 18 true,oo 26 (.pick (.t 18) (.t 25) (cb false)),om 27 26,og 28 (.ld true 32 (.t 6)) 27 true,og 29 (.bld (rtc rt0) []) 27 true,og 30 (.eqa [(32,1)] true (.t 28) (.t 29)) 27 true,oo 31 (.pick (.t 27) (.t 30) (cb false))]
(cN 31
(.reg [om 32 9,om 33 10,om 34 9,om 35 10,iX 36 1 34 35,lF 37 1 36,om 38 3,bI 39 .add 37 38,iX 40 1 32 33,sO 1 40 39])
.skip))
(sR [om 41 9,om 8 41]
.ret)))))
theorem sa_:av_ Tryz.prog 274=some (42,[.tmp 8],kE_):=by kernel_rfl
def jz_:ad_:=(sR [oo 2 (.box 1 (.t 0)),oo 4 (.mv (.c (.sl 0 true [])))]
(sR [oo 5 (.mv (.c (.sl 0 true [])))]
(.seq (sR [oo 6 (.mv (ci 0))]
(.block 0 (.loop (.seq (sR [om 7 6,fA 8 0 2,lF 9 1 8,lN 10 9,bI 11 .lss 7 10,om 12 11,og 13 (.ld true 1 (.t 2)) 12 true,omg 14 1 12 true,og 15 (.call (cf 187) [(.t 13),(.t 14)]) 12 true,oo 16 (.pick (.t 12) (.t 15) (cb false))]
(cN 16
.skip
(.exit 0)))
(.seq (.block 1 (sR [fA 19 0 2,lF 20 1 19,om 21 6,iX 22 240 20 21,fA 23 238 22,lF 24 1 23,om 25 1,bI 26 .eql 24 25]
(cN 26
(.reg [om 27 5,om 28 6,oo 29 (.bldS 1 1 [(.int .i64 (0))] [(0,(.t 28))]),oo 30 (.app 1 8 (.t 27) (.t 29)),om 5 30])
.skip)))
(.reg [om 17 6,bC 18 .add 17 (ci 1),om 6 18]))))))
(sR [om 31 5,om 4 31]
.ret))))
theorem qx_:av_ Tryz.prog 276=some (32,[.tmp 4],jz_):=by kernel_rfl
def gI_:ad_:=(sR [oo 2 (.box 238 (.t 0)),oo 3 (.box 238 (.t 1)),oo 4 (.mv (cb false))]
(sR [fA 5 131 3,lA 6 32 5,oo 7 (.bld (rtc rt0) []),oo 8 (.eqa [(32,1)] true (.t 6) (.t 7)),om 9 8,og 10 (.fldA 131 (.t 2)) 9 true,og 11 (.ld true 32 (.t 10)) 9 true,og 12 (.bld (rtc rt0) []) 9 true,og 13 (.eqa [(32,1)] false (.t 11) (.t 12)) 9 true,oo 14 (.pick (.t 9) (.t 13) (cb false)),om 4 14]
.ret))
theorem lW_:av_ Tryz.prog 201=some (15,[.tmp 4],gI_):=by kernel_rfl
def jB_:ad_:=(sR [oo 2 (.mv (cb false))]
(sR [om 3 0,bC 4 .geq 3 (ci 0),om 5 4,omg 6 0 5 true,og 7 (.bin .leq (.t 6) (ci 2)) 5 true,oo 8 (.pick (.t 5) (.t 7) (cb false)),om 2 8]
.ret))
theorem qz_:av_ Tryz.prog 192=some (9,[.tmp 2],jB_):=by kernel_rfl
def ro_:ad_:=(sR [oo 4 (.box 1 (.t 0)),oo 8 (.new [(.sl 0 true [])]),oo 9 (.mv (cb false))]
(sR [fA 12 0 4,lF 13 1 12,oo 14 (.app 240 352 (.c (.sl 0 true [])) (.t 13)),oo 15 (.bld [(.sl 0 true [])] [(0,1,(.t 14))]),oo 10 (.new [(.sl 0 true [])]),sO 1 10 15]
(.seq (sR [oo 11 (.mv (ci 0))]
(.block 0 (.loop (.seq (sR [om 16 11,om 17 1,lN 18 17,bI 19 .lss 16 18]
(cN 19
.skip
(.exit 0)))
(.seq (.block 1 (.seq (.seq (.dreg [(fA 22 0 10,0),(lF 23 1 22,1),(om 24 1,0),(om 25 11,0),(iX 26 1 24 25,12),(lF 27 1 26,28),(iX 28 240 23 27,63),(fA 29 239 28,127),(lF 30 1 29,255),(om 31 3,0),(bI 32 .eql 30 31,1023)])
(cN 32
(sR [oo 33 (.bld [(.sl 0 true [])] []),sO 1 8 33,oo 9 (.mv (cb false))]
.ret)
.skip))
(.dreg [(fA 34 0 10,0),(lF 35 1 34,1),(om 36 1,0),(om 37 11,0),(iX 38 1 36 37,12),(lF 39 1 38,28),(om 40 2,0),(iX 41 240 35 39,127),(fA 42 239 41,255),(sO 1 42 40,511)])))
(.reg [om 20 11,bC 21 .add 20 (ci 1),om 11 21]))))))
(sR [lA 43 1 10,sO 1 8 43,oo 9 (.mv (cb true))]
.ret))))
theorem BM_:av_ Tryz.prog 278=some (44,[.cell 8 true 1,.tmp 9],ro_):=by kernel_rfl
def hn_:ad_:=(sR [oo 2 (.box 1 (.t 0)),oo 4 (.mv (.c (.sl 0 true [])))]
(sR [oo 5 (.mv (.c (.sl 0 true [])))]
(.seq (sR [oo 6 (.mv (ci 0))]
(.block 0 (.loop (.seq (sR [om 7 6,fA 8 0 2,lF 9 1 8,lN 10 9,bI 11 .lss 7 10]
(cN 11
.skip
(.exit 0)))
(.seq (.block 1 (sR [lA 14 1 2,om 15 1,om 16 6,kC 17 186 14 15 16]
(cN 17
(.reg [om 18 5,om 19 6,oo 20 (.bldS 1 1 [(.int .i64 (0))] [(0,(.t 19))]),oo 21 (.app 1 8 (.t 18) (.t 20)),om 5 21])
.skip)))
(.reg [om 12 6,bC 13 .add 12 (ci 1),om 6 13]))))))
(sR [om 22 5,om 4 22]
.ret))))
theorem mU_:av_ Tryz.prog 279=some (23,[.tmp 4],hn_):=by kernel_rfl
def bC_:ad_:=(sR [oo 4 (.mv (.c (.sl 0 true [])))]
(sR [om 8 0,om 9 1,kB 10 183 8 9,om 5 10]
(.seq (sR [om 11 5,bC 12 .eql 11 (ci (-1))]
(cN 12
(sR [om 13 0,om 4 13]
.ret)
.skip))
(.seq (sR [om 14 5,bC 15 .add 14 (ci 1),om 6 15]
(.block 0 (.loop (.seq (sR [om 16 6,om 17 0,lN 18 17,bI 19 .lss 16 18]
(cN 19
.skip
(.exit 0)))
(.seq (.block 1 (sR [om 22 0,om 23 6,iX 24 34 22 23,lA 25 34 24,oo 7 (.new (aT_ fw_)),sO 34 7 25]
(sR [om 26 1,lA 27 34 7,oo 28 (.call (.t 26) [(.t 27)]),oo 29 (.un .not (.t 28))]
(cN 29
(sR [om 30 0,om 31 5,lA 32 34 7,iX 33 34 30 31,sO 34 33 32]
(.reg [om 34 5,bC 35 .add 34 (ci 1),om 5 35]))
.skip))))
(.reg [om 20 6,bC 21 .add 20 (ci 1),om 6 21]))))))
(sR [om 36 0,om 37 5,oo 38 (.slx 34 (.t 36) (some (.t 37)) none none),on (.clr 34 (aT_ fw_) (.t 38))]
(sR [om 39 0,om 40 5,oo 41 (.slx 34 (.t 39) none (some (.t 40)) none),om 4 41]
.ret))))))
theorem cA_:av_ Tryz.prog 114=some (42,[.tmp 4],bC_):=by kernel_rfl
def bB_:ad_:=(sR [oo 4 (.mv (.c (.sl 0 true [])))]
(sR [om 8 0,om 9 1,kB 10 80 8 9,om 5 10]
(.seq (sR [om 11 5,bC 12 .eql 11 (ci (-1))]
(cN 12
(sR [om 13 0,om 4 13]
.ret)
.skip))
(.seq (sR [om 14 5,bC 15 .add 14 (ci 1),om 6 15]
(.block 0 (.loop (.seq (sR [om 16 6,om 17 0,lN 18 17,bI 19 .lss 16 18]
(cN 19
.skip
(.exit 0)))
(.seq (.block 1 (sR [om 22 0,om 23 6,iX 24 238 22 23,lA 25 238 24,oo 7 (.new (ap_ bR_)),sO 238 7 25]
(sR [om 26 1,lA 27 238 7,oo 28 (.call (.t 26) [(.t 27)]),oo 29 (.un .not (.t 28))]
(cN 29
(sR [om 30 0,om 31 5,lA 32 238 7,iX 33 238 30 31,sO 238 33 32]
(.reg [om 34 5,bC 35 .add 34 (ci 1),om 5 35]))
.skip))))
(.reg [om 20 6,bC 21 .add 20 (ci 1),om 6 21]))))))
(sR [om 36 0,om 37 5,oo 38 (.slx 238 (.t 36) (some (.t 37)) none none),on (.clr 238 (ap_ bR_) (.t 38))]
(sR [om 39 0,om 40 5,oo 41 (.slx 238 (.t 39) none (some (.t 40)) none),om 4 41]
.ret))))))
theorem cz_:av_ Tryz.prog 118=some (42,[.tmp 4],bB_):=by kernel_rfl
def hV_:ad_:=(sR [oo 2 (.box 150 (.t 0)),oo 3 (.box 33 (.t 1)),oo 4 (.mv (ci 0)),oo 5 (.mv (cb false))]
(sR [fA 9 115 2,lA 10 1 9,fA 11 1 3,lA 12 32 11,kB 13 82 10 12,om 6 13]
(.seq (sR [om 14 6,bC 15 .lss 14 (ci 0),om 16 15,og 17 (.fldA 115 (.t 2)) 16 false,og 18 (.fldA 0 (.t 17)) 16 false,og 19 (.ld false 1 (.t 18)) 16 false,omg 20 6 16 false,og 21 (.idxS 240 (.t 19) (.t 20)) 16 false,og 22 (.fldA 239 (.t 21)) 16 false,og 23 (.ld false 1 (.t 22)) 16 false,og 24 (.bin .eql (.t 23) (ci 2)) 16 false,oo 25 (.pick (.t 16) (cb true) (.t 24))]
(cN 25
(sR [oo 4 (.mv (ci (-1))),oo 5 (.mv (cb false))]
.ret)
.skip))
(sR [fA 27 0 3,lF 28 1 27,fA 29 0 2,fA 30 6 29,lF 31 1 30,kB 32 117 28 31,om 26 32,eX 33 0 26,eX 34 1 26,om 7 33,om 8 34]
(.seq (.dreg [(om 35 6,0),(om 36 8,0),(bC 37 .eql 36 (ci 0),2),(om 38 37,6),(og 39 (.fldA 115 (.t 2)) 38 true,14),(og 40 (.fldA 0 (.t 39)) 38 true,30),(og 41 (.ld false 1 (.t 40)) 38 true,62),(omg 42 6 38 true,14),(og 43 (.idxS 240 (.t 41) (.t 42)) 38 true,254),(og 44 (.fldA 0 (.t 43)) 38 true,510),(og 45 (.fldA 66 (.t 44)) 38 true,1022),(og 46 (.ld false 1 (.t 45)) 38 true,2046),(omg 47 7 38 true,14),(og 48 (.bin .leq (.t 46) (.t 47)) 38 true,8190),(oo 49 (.pick (.t 38) (.t 48) (cb false)),16382),(om 4 35,15),(om 5 49,65535)])
.ret)))))
theorem oo_:av_ Tryz.prog 179=some (50,[.tmp 4,.tmp 5],hV_):=by kernel_rfl
def aQ_:ad_:=(sR [oo 3 (.box 150 (.t 0)),oo 4 (.box 33 (.t 1)),oo 5 (.box 33 (.t 2)),oo 6 (.new (cpC cp0)),oo 7 (.new (cpC cp0)),oo 8 (.mv (cb false))]
(.seq (.dreg [(fA 16 47 3,0),(fA 17 0 16,1),(lA 18 33 17,3),(fA 19 47 3,0),(fA 20 33 19,8),(lA 21 33 20,24),(sO 33 6 18,7),(sO 33 7 21,127)])
(.seq (sR [fA 22 0 4,lF 23 1 22,fA 24 0 6,lF 25 1 24,bI 26 .gtr 23 25]
(cN 26
(.reg [lA 27 33 4,sO 33 6 27])
.skip))
(.seq (sR [fA 28 0 5,lF 29 1 28,fA 30 0 7,lF 31 1 30,bI 32 .gtr 29 31]
(cN 32
(.reg [lA 33 33 5,sO 33 7 33])
.skip))
(sR [lA 35 150 3,lA 36 33 7,kB 37 179 35 36,om 34 37,eX 38 0 34,eX 39 1 34,om 9 38,om 10 39]
(sR [lA 41 150 3,lA 42 33 6,kB 43 179 41 42,om 40 43,eX 44 0 40,eX 45 1 40,om 11 44,om 12 45]
(sR [fA 46 149 3,lF 47 1 46,oo 48 (.mkf (.func 181) [(.t 6)]),kB 49 180 47 48,om 13 49]
(sR [fA 51 116 3,lF 52 1 51,fA 53 0 3,fA 54 6 53,lF 55 1 54,kB 56 121 52 55,om 50 56,eX 57 0 50,eX 58 1 50,om 14 57,om 15 58]
(.seq (sR [om 59 10,oo 60 (.un .not (.t 59)),om 61 60,omg 62 12 61 false,og 63 (.un .not (.t 62)) 61 false,oo 64 (.pick (.t 61) (cb true) (.t 63)),om 65 64,og 66 (.fldA 115 (.t 3)) 65 false,og 67 (.ld true 1 (.t 66)) 65 false,omg 68 9 65 false,omg 69 11 65 false,og 70 (.call (cf 182) [(.t 67),(.t 68),(.t 69)]) 65 false,og 71 (.un .not (.t 70)) 65 false,oo 72 (.pick (.t 65) (cb true) (.t 71)),om 73 72,og 74 (.fldA 0 (.t 7)) 73 false,og 75 (.ld false 1 (.t 74)) 73 false,og 76 (.fldA 0 (.t 6)) 73 false,og 77 (.ld false 1 (.t 76)) 73 false,og 78 (.bin .gtr (.t 75) (.t 77)) 73 false,oo 79 (.pick (.t 73) (cb true) (.t 78)),om 80 79,og 81 (.fldA 0 (.t 6)) 80 false,og 82 (.ld false 1 (.t 81)) 80 false,omg 83 14 80 false,og 84 (.bin .gtr (.t 82) (.t 83)) 80 false,oo 85 (.pick (.t 80) (cb true) (.t 84)),om 86 85,omg 87 13 86 false,og 88 (.un .not (.t 87)) 86 false,oo 89 (.pick (.t 86) (cb true) (.t 88))]
(cN 89
(sR [oo 90 (.bld (cpC cp0) []),oo 91 (.bld (cpC cp0) []),sO 33 6 90,sO 33 7 91,oo 8 (.mv (cb false))]
.ret)
.skip))
(.seq (.dreg [(lA 92 33 6,0),(lA 93 33 7,0),(sO 33 6 92,1),(sO 33 7 93,7),(oo 8 (.mv (cb true)),15)])
.ret))))))))))
theorem jM_:av_ Tryz.prog 113=some (94,[.cell 6 true 33,.cell 7 true 33,.tmp 8],aQ_):=by kernel_rfl
def eJ_:ad_:=(sR [oo 2 (.box 34 (.t 0)),oo 3 (.mv (cb false))]
(sR [fA 4 0 2,lA 5 33 4,lA 6 33 1,oo 7 (.eqa [(33,1)] false (.t 5) (.t 6)),om 3 7]
.ret))
theorem iD_:av_ Tryz.prog 181=some (8,[.tmp 3],eJ_):=by kernel_rfl
def dn_:ad_:=(sR [oo 3 (.box 150 (.t 0)),oo 4 (.box 33 (.t 1)),oo 5 (.box 33 (.t 2)),oo 6 (.new (ai_ bI_))]
(sR [lA 13 150 3,kA 14 38 13,oo 7 (.new (ai_ bI_)),sO 150 7 14]
(sR [lA 16 150 3,lA 17 33 4,lA 18 33 5,kC 19 113 16 17 18,om 15 19,eX 20 0 15,eX 21 1 15,eX 22 2 15,oo 8 (.new (cpC cp0)),oo 9 (.new (cpC cp0)),sO 33 8 20,sO 33 9 21,om 10 22]
(.seq (sR [om 23 10,oo 24 (.un .not (.t 23))]
(cN 24
(sR [lA 25 150 7,sO 150 6 25]
.ret)
.skip))
(.seq (.dreg [(lA 26 33 8,0),(lA 27 33 9,0),(fA 28 47 7,1),(fA 29 0 28,5),(sO 33 29 26,13),(fA 30 47 7,31),(fA 31 33 30,63),(sO 33 31 27,127)])
(sR [fA 32 149 7,lF 33 1 32,oo 34 (.mkf (.func 115) [(.t 8)]),kB 35 114 33 34,fA 36 149 7,sO 1 36 35]
(.seq (sR [lA 37 33 9,fA 38 47 3,fA 39 33 38,lA 40 33 39,oo 41 (.eqa [(33,1)] false (.t 37) (.t 40))]
(cN 41
(sR [lA 42 150 7,sO 150 6 42]
.ret)
.skip))
(.seq (.dreg [(fA 44 115 3,0),(lA 45 1 44,1),(fA 46 115 3,0),(lA 47 1 46,4),(fA 48 1 9,0),(lA 49 32 48,16),(kB 50 82 47 49,60),(kB 51 116 45 50,127),(om 43 51,255),(eX 52 0 43,511),(eX 53 1 43,511),(eX 54 2 43,511),(fA 55 115 7,1023),(sO 1 55 52,5119)])
(.seq (sR [fA 56 115 7,lA 57 1 56,fA 58 117 7,lA 59 32 58,kB 60 82 57 59,bC 61 .lss 60 (ci 0)]
(cN 61
(.reg [oo 62 (.bld (rtc rt0) []),fA 63 117 7,sO 32 63 62])
.skip))
(sR [fA 65 0 9,lF 66 1 65,fA 67 0 3,fA 68 6 67,lF 69 1 68,kB 70 117 66 69,om 64 70,eX 71 0 64,eX 72 1 64,oo 11 (.new [(.int .u64 (0))]),sO 1 11 71,om 12 72]
(sR [fA 73 113 7,fA 74 1 73,lF 75 1 74,oo 76 (.mkf (.func 119) [(.t 11)]),kB 77 118 75 76,fA 78 113 7,fA 79 1 78,sO 1 79 77]
(sR [lA 80 150 7,sO 150 6 80]
.ret))))))))))))
theorem en_:av_ Tryz.prog 41=some (81,[.cell 6 true 150],dn_):=by kernel_rfl
def fC_:ad_:=(sR [oo 2 (.box 34 (.t 0)),oo 3 (.mv (cb false))]
(sR [fA 4 0 2,fA 5 0 4,lF 6 1 5,fA 7 0 1,lF 8 1 7,bI 9 .lss 6 8,om 3 9]
.ret))
theorem kh_:av_ Tryz.prog 115=some (10,[.tmp 3],fC_):=by kernel_rfl
def fD_:ad_:=(sR [oo 2 (.box 238 (.t 0)),oo 3 (.mv (cb false))]
(sR [fA 4 66 2,lF 5 1 4,lF 6 1 1,bI 7 .leq 5 6,om 3 7]
.ret))
theorem ki_:av_ Tryz.prog 119=some (8,[.tmp 3],fD_):=by kernel_rfl
def fZ_:ad_:=(sR [oo 1 (.box 150 (.t 0)),oo 2 (.new (cg_ ks_))]
(sR [oo 3 (.new (cg_ ks_))]
(sR [oo 4 (.mv (cb false))]
(.seq (sR [fA 7 115 1,fA 8 0 7,lF 9 1 8,lN 10 9,oo 11 (.mv (ci 0))]
(.block 0 (.loop (sR [bI 12 .lss 11 10]
(.seq (cN 12
.skip
(.exit 0))
(.seq (.block 1 (sR [iX 13 240 9 11,lA 14 240 13,oo 6 (.new (aG_ dE_)),sO 240 6 14]
(.seq (sR [fA 15 239 6,lF 16 1 15,bC 17 .eql 16 (ci 2)]
(cN 17
(.exit 1)
.skip))
(.seq (sR [om 18 4,oo 19 (.un .not (.t 18)),om 20 19,og 21 (.fldA 0 (.t 6)) 20 false,og 22 (.fldA 0 (.t 21)) 20 false,og 23 (.fldA 0 (.t 22)) 20 false,og 24 (.fldA 0 (.t 23)) 20 false,og 25 (.ld false 1 (.t 24)) 20 false,og 26 (.fldA 0 (.t 3)) 20 false,og 27 (.fldA 0 (.t 26)) 20 false,og 28 (.ld false 1 (.t 27)) 20 false,og 29 (.bin .gtr (.t 25) (.t 28)) 20 false,oo 30 (.pick (.t 20) (cb true) (.t 29))]
(cN 30
(.reg [fA 31 0 6,fA 32 0 31,fA 33 0 32,lA 34 33 33,fA 35 0 3,sO 33 35 34])
.skip))
(.seq (sR [om 36 4,oo 37 (.un .not (.t 36)),om 38 37,og 39 (.fldA 0 (.t 6)) 38 false,og 40 (.fldA 0 (.t 39)) 38 false,og 41 (.fldA 33 (.t 40)) 38 false,og 42 (.fldA 0 (.t 41)) 38 false,og 43 (.ld false 1 (.t 42)) 38 false,og 44 (.fldA 33 (.t 3)) 38 false,og 45 (.fldA 0 (.t 44)) 38 false,og 46 (.ld false 1 (.t 45)) 38 false,og 47 (.bin .gtr (.t 43) (.t 46)) 38 false,oo 48 (.pick (.t 38) (cb true) (.t 47))]
(cN 48
(.reg [fA 49 0 6,fA 50 0 49,fA 51 33 50,lA 52 33 51,fA 53 33 3,sO 33 53 52])
.skip))
(.reg [oo 4 (.mv (cb true))]))))))
(.reg [bC 54 .add 11 (ci 1),om 11 54])))))))
(sR [lA 55 66 3,sO 66 2 55]
.ret)))))
theorem lc_:av_ Tryz.prog 40=some (56,[.cell 2 true 66],fZ_):=by kernel_rfl
def ky_:ad_:=(sR [oo 2 (.box 150 (.t 0)),oo 3 (.box 67 (.t 1)),oo 4 (.mv (cb false)),oo 5 (.mv (ci 0))]
(.seq (sR [fA 15 66 3,lF 16 1 15,fA 17 0 2,fA 18 44 17,lF 19 1 18,lN 20 19,kB 21 120 16 20,om 6 21]
(sR [om 22 6,bC 23 .neq 22 (ci 0)]
(cN 23
(sR [om 24 6,oo 4 (.mv (cb false)),om 5 24]
.ret)
.skip)))
(sR [fA 26 0 3,lF 27 1 26,fA 28 0 2,fA 29 6 28,lF 30 1 29,kB 31 121 27 30,om 25 31,eX 32 0 25,eX 33 1 25,om 7 32,om 8 33]
(sR [fA 35 116 2,lF 36 1 35,fA 37 0 2,fA 38 6 37,lF 39 1 38,kB 40 121 36 39,om 34 40,eX 41 0 34,eX 42 1 34,om 9 41,om 10 42]
(.seq (sR [fA 43 33 3,fA 44 0 43,lF 45 1 44,om 46 7,bI 47 .neq 45 46,om 48 47,omg 49 7 48 false,omg 50 9 48 false,og 51 (.bin .gtr (.t 49) (.t 50)) 48 false,oo 52 (.pick (.t 48) (cb true) (.t 51)),om 53 52,omg 54 9 53 false,omg 55 7 53 false,og 56 (.bin .sub (.t 54) (.t 55)) 53 false,og 57 (.bin .gtr (.t 56) (cu 1)) 53 false,oo 58 (.pick (.t 53) (cb true) (.t 57))]
(cN 58
(sR [oo 4 (.mv (cb false)),oo 5 (.mv (ci 18))]
.ret)
.skip))
(.seq (.dreg [(fA 59 115 2,0),(lA 60 1 59,1),(fA 61 1 3,0),(lA 62 32 61,4),(kB 63 82 60 62,15),(fA 64 115 2,0),(lA 65 1 64,32),(fA 66 33 3,0),(fA 67 1 66,128),(lA 68 32 67,384),(kB 69 82 65 68,1023),(om 11 63,2047),(om 12 69,4095)])
(.seq (sR [om 70 11,bC 71 .lss 70 (ci 0),om 72 71,omg 73 12 72 false,og 74 (.bin .lss (.t 73) (ci 0)) 72 false,oo 75 (.pick (.t 72) (cb true) (.t 74))]
(cN 75
(sR [oo 4 (.mv (cb false)),oo 5 (.mv (ci 10))]
.ret)
.skip))
(.seq (.seq (.dreg [(fA 76 115 2,0),(fA 77 0 76,1),(lF 78 1 77,3),(om 79 11,0),(iX 80 240 78 79,15),(fA 81 0 80,31),(fA 82 66 81,63),(lF 83 1 82,127),(fA 84 0 3,0),(lF 85 1 84,256),(bI 86 .gtr 83 85,1023)])
(cN 86
(sR [oo 4 (.mv (cb false)),oo 5 (.mv (ci 14))]
.ret)
.skip))
(sR [om 88 7,fA 89 0 2,fA 90 6 89,lF 91 1 90,kB 92 117 88 91,om 87 92,eX 93 0 87,eX 94 1 87,om 13 93,om 14 94]
(.seq (sR [fA 95 115 2,lA 96 1 95,om 97 11,om 98 13,kC 99 122 96 97 98,om 100 12,bI 101 .neq 99 100]
(cN 101
(sR [oo 4 (.mv (cb false)),oo 5 (.mv (ci 19))]
.ret)
.skip))
(sR [fA 102 0 3,lF 103 1 102,fA 104 116 2,lF 105 1 104,bI 106 .geq 103 105,om 4 106,oo 5 (.mv (ci 0))]
.ret)))))))))))
theorem rU_:av_ Tryz.prog 42=some (107,[.tmp 4,.tmp 5],ky_):=by kernel_rfl
def lp_:ad_:=(sR [oo 2 (.box 150 (.t 0)),oo 3 (.box 67 (.t 1)),oo 4 (.new (ai_ bI_))]
(sR [lA 10 150 2,kA 11 38 10,oo 5 (.new (ai_ bI_)),sO 150 5 11]
(sR [fA 12 33 3,fA 13 0 12,lF 14 1 13,fA 15 1 3,lA 16 32 15,oo 17 (.bld (aZ_ eh_) [(0,1,(cb true)),(1,1,(.t 14)),(2,32,(.t 16))]),oo 6 (.new (aZ_ eh_)),sO 34 6 17]
(.seq (sR [fA 18 66 3,lF 19 1 18,lN 20 19,oo 21 (.mv (ci 0))]
(.block 0 (.loop (sR [bI 22 .lss 21 20]
(.seq (cN 22
.skip
(.exit 0))
(.seq (.block 1 (sR [iX 23 1 19 21,lF 24 1 23,om 8 24]
(sR [fA 25 45 5,fA 26 0 25,lF 27 1 26,om 28 8,iX 29 34 27 28,lA 30 34 29,oo 9 (.new (aZ_ eh_)),sO 34 9 30]
(sR [fA 31 0 9,lF 32 1 31,oo 33 (.un .not (.t 32)),om 34 33,og 35 (.fldA 1 (.t 9)) 34 false,og 36 (.ld false 1 (.t 35)) 34 false,og 37 (.fldA 1 (.t 6)) 34 false,og 38 (.ld false 1 (.t 37)) 34 false,og 39 (.bin .lss (.t 36) (.t 38)) 34 false,oo 40 (.pick (.t 34) (cb true) (.t 39))]
(cN 40
(.reg [fA 41 45 5,fA 42 0 41,lF 43 1 42,om 44 8,lA 45 34 6,iX 46 34 43 44,sO 34 46 45])
.skip)))))
(.reg [bC 47 .add 21 (ci 1),om 21 47])))))))
(sR [lA 48 150 5,sO 150 4 48]
.ret)))))
theorem tI_:av_ Tryz.prog 43=some (49,[.cell 4 true 150],lp_):=by kernel_rfl
def iJ_:ad_:=(sR [oo 1 (.box 446 (.t 0)),oo 2 (.mv (ci 0))]
(.seq (sR [fA 6 0 1,lF 7 1 6,bC 8 .lss 7 (ci 1),om 9 8,og 10 (.fldA 0 (.t 1)) 9 false,og 11 (.ld false 1 (.t 10)) 9 false,og 12 (.bin .gtr (.t 11) (ci 8)) 9 false,oo 13 (.pick (.t 9) (cb true) (.t 12))]
(cN 13
(sR [oo 2 (.mv (ci 2))]
.ret)
.skip))
(.seq (sR [lA 15 446 1,kA 16 213 15,om 14 16,eX 17 0 14,eX 18 1 14,om 3 17,om 4 18]
(sR [om 19 4,bC 20 .neq 19 (ci 0)]
(cN 20
(sR [om 21 4,om 2 21]
.ret)
.skip)))
(sR [fA 22 0 1,lF 23 1 22,oo 24 (.bld (bq_ sE_) [(0,1,(.t 23))]),oo 5 (.new (bq_ sE_)),sO 446 5 24]
(.seq (sR [fA 25 0 1,lF 26 1 25]
(.block 0 (sR [bC 28 .eql 26 (ci 2),om 27 28]
(cN 27
(.reg [fA 29 1 1,lA 30 238 29,fA 31 1 5,sO 238 31 30])
(sR [bC 33 .eql 26 (ci 3),om 32 33]
(cN 32
(.reg [fA 34 239 1,lA 35 67 34,fA 36 239 5,sO 67 36 35])
(sR [bC 38 .eql 26 (ci 4),om 37 38]
(cN 37
(.reg [fA 39 306 1,lA 40 70 39,fA 41 306 5,sO 70 41 40])
(sR [bC 43 .eql 26 (ci 5),om 42 43]
(cN 42
(.reg [fA 44 376 1,lA 45 34 44,fA 46 376 5,sO 34 46 45])
(sR [bC 48 .eql 26 (ci 6),om 47 48]
(cN 47
(.reg [fA 49 410 1,lA 50 34 49,fA 51 410 5,sO 34 51 50])
(sR [bC 53 .eql 26 (ci 8),om 52 53]
(cN 52
(.dreg [(fA 54 444 1,0),(lF 55 1 54,1),(fA 56 445 1,0),(lF 57 1 56,4),(fA 58 444 5,3),(sO 1 58 55,19),(fA 59 445 5,63),(sO 1 59 57,127)])
.skip))))))))))))))
(.seq (sR [lA 60 446 1,lA 61 446 5,kB 62 214 60 61,oo 63 (.un .not (.t 62))]
(cN 63
(sR [oo 2 (.mv (ci 2))]
.ret)
.skip))
(sR [oo 2 (.mv (ci 0))]
.ret)))))))
theorem pE_:av_ Tryz.prog 174=some (64,[.tmp 2],iJ_):=by kernel_rfl
def ps_:ad_:=(sR [oo 1 (.box 446 (.t 0)),oo 2 (.mv (.c (.sl 0 true []))),oo 3 (.mv (ci 0))]
(.seq (sR [fA 4 0 1,lF 5 1 4]
(.block 0 (sR [bC 7 .eql 5 (ci 2),om 6 7]
(cN 6
(sR [fA 8 1 1,lA 9 238 8,oo 10 (.call (cf 238) [(.c (.sl 0 true [])),(.t 9)]),om 2 10,oo 3 (.mv (ci 0))]
.ret)
(sR [bC 12 .eql 5 (ci 3),om 11 12]
(cN 11
(sR [fA 13 239 1,lA 14 67 13,kA 15 239 14,eX 16 0 15,eX 17 1 15,om 2 16,om 3 17]
.ret)
(sR [bC 19 .eql 5 (ci 4),om 18 19]
(cN 18
(sR [fA 20 306 1,lA 21 70 20,kA 22 240 21,eX 23 0 22,eX 24 1 22,om 2 23,om 3 24]
.ret)
(sR [bC 26 .eql 5 (ci 5),om 25 26]
(cN 25
(sR [fA 27 376 1,lA 28 34 27,kA 29 241 28,eX 30 0 29,eX 31 1 29,om 2 30,om 3 31]
.ret)
(sR [bC 33 .eql 5 (ci 6),om 32 33]
(cN 32
(sR [fA 34 410 1,lA 35 34 34,kA 36 242 35,eX 37 0 36,eX 38 1 36,om 2 37,om 3 38]
.ret)
(sR [bC 40 .eql 5 (ci 8),om 39 40]
(cN 39
(.seq (sR [fA 41 444 1,lF 42 1 41,bC 43 .lss 42 (ci 0),om 44 43,og 45 (.fldA 444 (.t 1)) 44 false,og 46 (.ld false 1 (.t 45)) 44 false,og 47 (.bin .gtr (.t 46) (ci 32768)) 44 false,oo 48 (.pick (.t 44) (cb true) (.t 47)),om 49 48,og 50 (.fldA 445 (.t 1)) 49 false,og 51 (.ld false 1 (.t 50)) 49 false,og 52 (.bin .lss (.t 51) (ci 0)) 49 false,oo 53 (.pick (.t 49) (cb true) (.t 52)),om 54 53,og 55 (.fldA 445 (.t 1)) 54 false,og 56 (.ld false 1 (.t 55)) 54 false,og 57 (.bin .gtr (.t 56) (ci 32768)) 54 false,oo 58 (.pick (.t 54) (cb true) (.t 57))]
(cN 58
(sR [oo 2 (.mv (.c (.sl 0 true []))),oo 3 (.mv (ci 3))]
.ret)
.skip))
(.seq (.dreg [(fA 59 444 1,0),(lF 60 1 59,1),(oo 61 (.cvt .u64 (.t 60)),3),(oo 62 (.call (cf 243) [(.c (.sl 0 true [])),(.t 61)]),7),(fA 63 445 1,0),(lF 64 1 63,16),(oo 65 (.cvt .u64 (.t 64)),48),(kB 66 243 62 65,127),(om 2 66,255),(oo 3 (.mv (ci 0)),511)])
.ret))
.skip))))))))))))))
(sR [oo 2 (.mv (.c (.sl 0 true []))),oo 3 (.mv (ci 0))]
.ret)))
theorem zV_:av_ Tryz.prog 213=some (67,[.tmp 2,.tmp 3],ps_):=by kernel_rfl
def nN_:ad_:=(sR [oo 2 (.box 446 (.t 0)),oo 3 (.box 446 (.t 1)),oo 4 (.mv (cb false))]
(sR [fA 5 0 2,lF 6 1 5,fA 7 0 3,lF 8 1 7,bI 9 .eql 6 8,om 10 9,og 11 (.fldA 1 (.t 2)) 10 true,og 12 (.ld true 238 (.t 11)) 10 true,og 13 (.fldA 1 (.t 3)) 10 true,og 14 (.ld true 238 (.t 13)) 10 true,og 15 (.eqa [(237,1),(1,0)] false (.t 12) (.t 14)) 10 true,oo 16 (.pick (.t 10) (.t 15) (cb false)),om 17 16,og 18 (.fldA 239 (.t 2)) 17 true,og 19 (.ld true 67 (.t 18)) 17 true,og 20 (.fldA 239 (.t 3)) 17 true,og 21 (.ld true 67 (.t 20)) 17 true,og 22 (.call (cf 53) [(.t 19),(.t 21)]) 17 true,oo 23 (.pick (.t 17) (.t 22) (cb false)),om 24 23,og 25 (.fldA 306 (.t 2)) 24 true,og 26 (.ld true 70 (.t 25)) 24 true,og 27 (.fldA 306 (.t 3)) 24 true,og 28 (.ld true 70 (.t 27)) 24 true,og 29 (.call (cf 244) [(.t 26),(.t 28)]) 24 true,oo 30 (.pick (.t 24) (.t 29) (cb false)),om 31 30,og 32 (.fldA 376 (.t 2)) 31 true,og 33 (.ld true 34 (.t 32)) 31 true,og 34 (.fldA 376 (.t 3)) 31 true,og 35 (.ld true 34 (.t 34)) 31 true,og 36 (.call (cf 130) [(.t 33),(.t 35)]) 31 true,oo 37 (.pick (.t 31) (.t 36) (cb false)),om 38 37,og 39 (.fldA 410 (.t 2)) 38 true,og 40 (.ld true 34 (.t 39)) 38 true,og 41 (.fldA 410 (.t 3)) 38 true,og 42 (.ld true 34 (.t 41)) 38 true,og 43 (.eqa [(34,1)] false (.t 40) (.t 42)) 38 true,oo 44 (.pick (.t 38) (.t 43) (cb false)),om 45 44,og 46 (.fldA 444 (.t 2)) 45 true,og 47 (.ld false 1 (.t 46)) 45 true,og 48 (.fldA 444 (.t 3)) 45 true,og 49 (.ld false 1 (.t 48)) 45 true,og 50 (.bin .eql (.t 47) (.t 49)) 45 true,oo 51 (.pick (.t 45) (.t 50) (cb false)),om 52 51,og 53 (.fldA 445 (.t 2)) 52 true,og 54 (.ld false 1 (.t 53)) 52 true,og 55 (.fldA 445 (.t 3)) 52 true,og 56 (.ld false 1 (.t 55)) 52 true,og 57 (.bin .eql (.t 54) (.t 56)) 52 true,oo 58 (.pick (.t 52) (.t 57) (cb false)),om 4 58]
.ret))
theorem wH_:av_ Tryz.prog 214=some (59,[.tmp 4],nN_):=by kernel_rfl
end Go.Proofs.YtkgimpdgncakjaaGreat
