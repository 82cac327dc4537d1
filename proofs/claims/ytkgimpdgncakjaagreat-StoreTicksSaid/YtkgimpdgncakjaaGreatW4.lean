/-
 My texts Kn, Ko, Ka, Kb, Kc, Ki, joined.
-/
import Derived.Test.YtkgimpdgncakjaaGreatW3
import Derived.Test.YtkgimpdgncakjaaGreatChecked
import Derived.KernelRfl
namespace Go.Proofs.YtkgimpdgncakjaaGreat
open Go Go.FH
def pu_:ad_:=(sR [oo 2 (.mv (cb false))]
(sR [om 3 0,bC 4 .geq 3 (cu 1),om 5 4,omg 6 0 5 true,og 7 (.bin .leq (.t 6) (cu 64)) 5 true,oo 8 (.pick (.t 5) (.t 7) (cb false)),om 2 8]
.ret))
theorem zX_:av_ Tryz.prog 112=some (9,[.tmp 2],pu_):=by kernel_rfl
def kT_:ad_:=(sR [oo 4 (.mv (cu 0)),oo 5 (.mv (ci 0))]
(.seq (sR [om 6 1,kA 7 112 6,oo 8 (.un .not (.t 7))]
(cN 8
(sR [oo 4 (.mv (cu 0)),oo 5 (.mv (ci 3))]
.ret)
.skip))
(sR [om 9 0,om 10 1,bI 11 .quo 9 10,om 4 11,oo 5 (.mv (ci 0))]
.ret)))
theorem sq_:av_ Tryz.prog 121=some (12,[.tmp 4,.tmp 5],kT_):=by kernel_rfl
def iH_:ad_:=(sR [oo 4 (.mv (cu 0)),oo 5 (.mv (cu 0))]
(sR [om 14 0,bC 15 .and 14 (cu 4294967295),om 6 15]
(sR [om 16 0,bC 17 .shr 16 (cu 32),om 7 17]
(sR [om 18 1,bC 19 .and 18 (cu 4294967295),om 8 19]
(sR [om 20 1,bC 21 .shr 20 (cu 32),om 9 21]
(sR [om 22 6,om 23 8,bI 24 .mul 22 23,om 10 24]
(sR [om 25 7,om 26 8,bI 27 .mul 25 26,om 28 10,bC 29 .shr 28 (cu 32),bI 30 .add 27 29,om 11 30]
(sR [om 31 11,bC 32 .and 31 (cu 4294967295),om 12 32]
(sR [om 33 11,bC 34 .shr 33 (cu 32),om 13 34]
(sR [om 35 12,om 36 6,om 37 9,bI 38 .mul 36 37,bI 39 .add 35 38,om 12 39]
(sR [om 40 7,om 41 9,bI 42 .mul 40 41,om 43 13,bI 44 .add 42 43,om 45 12,bC 46 .shr 45 (cu 32),bI 47 .add 44 46,om 4 47]
(sR [om 48 0,om 49 1,bI 50 .mul 48 49,om 5 50]
.ret))))))))))))
theorem pA_:av_ Tryz.prog 219=some (51,[.tmp 4,.tmp 5],iH_):=by kernel_rfl
def ru_:ad_:=(sR [oo 4 (.mv (cu 0)),oo 5 (.mv (ci 0))]
(.seq (sR [om 9 0,om 10 1,kB 11 219 9 10,om 8 11,eX 12 0 8,eX 13 1 8,om 6 12,om 7 13]
(sR [om 14 6,bC 15 .eql 14 (cu 0)]
(cN 15
(sR [om 16 7,om 4 16,oo 5 (.mv (ci 0))]
.ret)
.skip)))
(sR [oo 4 (.mv (cu 0)),oo 5 (.mv (ci 4))]
.ret)))
theorem BS_:av_ Tryz.prog 184=some (17,[.tmp 4,.tmp 5],ru_):=by kernel_rfl
def kV_:ad_:=(sR [oo 4 (.mv (cu 0)),oo 5 (.mv (ci 0))]
(.seq (sR [om 6 1,kA 7 112 6,oo 8 (.un .not (.t 7))]
(cN 8
(sR [oo 4 (.mv (cu 0)),oo 5 (.mv (ci 3))]
.ret)
.skip))
(sR [om 9 0,om 10 1,kB 11 184 9 10,eX 12 0 11,eX 13 1 11,om 4 12,om 5 13]
.ret)))
theorem ss_:av_ Tryz.prog 117=some (14,[.tmp 4,.tmp 5],kV_):=by kernel_rfl
def kU_:ad_:=(sR [oo 4 (.mv (cb false))]
(sR [om 5 1,kA 6 112 5,om 7 6,omg 8 0 7 true,omg 9 1 7 true,og 10 (.bin .rem (.t 8) (.t 9)) 7 true,og 11 (.bin .eql (.t 10) (cu 0)) 7 true,oo 12 (.pick (.t 7) (.t 11) (cb false)),om 4 12]
.ret))
theorem sr_:av_ Tryz.prog 39=some (13,[.tmp 4],kU_):=by kernel_rfl
def lJ_:ad_:=(sR [oo 1 (.box 32 (.t 0)),oo 2 (.mv (cb false))]
(sR [lA 3 32 1,oo 4 (.bld (rtc rt0) []),oo 5 (.eqa [(32,1)] false (.t 3) (.t 4)),om 2 5]
.ret))
theorem ua_:av_ Tryz.prog 78=some (6,[.tmp 2],lJ_):=by kernel_rfl
def kB_:ad_:=(sR [oo 4 (.mv (ci 0))]
(sR [om 5 0,om 6 1,oo 7 (.cmb (.t 5) (.t 6)),om 4 7]
.ret))
theorem rX_:av_ Tryz.prog 234=some (8,[.tmp 4],kB_):=by kernel_rfl
def kS_:ad_:=(sR [oo 2 (.box 32 (.t 0)),oo 3 (.box 32 (.t 1)),oo 4 (.mv (ci 0))]
(.seq (.dreg [(oo 5 (.sliA 1 32 (.t 2) none none),0),(oo 6 (.sliA 1 32 (.t 3) none none),0),(kB 7 234 5 6,3),(om 4 7,7)])
.ret))
theorem sp_:av_ Tryz.prog 210=some (8,[.tmp 4],kS_):=by kernel_rfl
def hW_:ad_:=(sR [oo 2 (.mv (cb false))]
(sR [om 3 0,om 4 0,bI 5 .neq 3 4,om 2 5]
.ret))
theorem op_:av_ Tryz.prog 233=some (6,[.tmp 2],hW_):=by kernel_rfl
def gG_:ad_:=(sR [oo 4 (.mv (ci 0))]
(sR [om 7 0,kA 8 233 7,om 5 8]
(sR [om 9 1,kA 10 233 9,om 6 10]
(.seq (sR [om 11 5]
(cN 11
(.seq (sR [om 12 6]
(cN 12
(sR [oo 4 (.mv (ci 0))]
.ret)
.skip))
(sR [oo 4 (.mv (ci (-1)))]
.ret))
.skip))
(.seq (sR [om 13 6]
(cN 13
(sR [oo 4 (.mv (ci 1))]
.ret)
.skip))
(.seq (sR [om 14 0,om 15 1,bI 16 .lss 14 15]
(cN 16
(sR [oo 4 (.mv (ci (-1)))]
.ret)
.skip))
(.seq (sR [om 17 0,om 18 1,bI 19 .gtr 17 18]
(cN 19
(sR [oo 4 (.mv (ci 1))]
.ret)
.skip))
(sR [oo 4 (.mv (ci 0))]
.ret))))))))
theorem lU_:av_ Tryz.prog 209=some (20,[.tmp 4],gG_):=by kernel_rfl
def pd_:ad_:=(sR [oo 2 (.mv (ci 0))]
(sR [oo 3 (.mv (ci 0))]
(.seq (sR [om 6 0,lN 7 6,oo 8 (.mv (ci 0))]
(.block 0 (.loop (sR [bI 9 .lss 8 7]
(.seq (cN 9
.skip
(.exit 0))
(.seq (.block 1 (sR [iX 10 1 6 8,lF 11 1 10,om 5 11]
(sR [om 12 5,om 13 3,bI 14 .neq 12 13]
(cN 14
(sR [om 15 5,om 2 15]
.ret)
.skip))))
(.reg [bC 16 .add 8 (ci 1),om 8 16])))))))
(sR [om 17 3,om 2 17]
.ret))))
theorem zF_:av_ Tryz.prog 208=some (18,[.tmp 2],pd_):=by kernel_rfl
def hm_:ad_:=(sR [oo 2 (.box 33 (.t 0)),oo 3 (.box 33 (.t 1)),oo 4 (.mv (ci 0))]
(.seq (.dreg [(fA 5 0 2,0),(lF 6 1 5,1),(fA 7 0 3,0),(lF 8 1 7,4),(kB 9 209 6 8,15),(fA 10 1 2,0),(lA 11 32 10,32),(fA 12 1 3,0),(lA 13 32 12,128),(kB 14 210 11 13,511),(oo 15 (.bldS 1 2 [(.int .i64 (0))] [(0,(.t 9)),(1,(.t 14))]),1023),(kA 16 208 15,2047),(om 4 16,4095)])
.ret))
theorem mT_:av_ Tryz.prog 168=some (17,[.tmp 4],hm_):=by kernel_rfl
def lu_:ad_:=(sR [oo 2 (.box 34 (.t 0)),oo 3 (.box 34 (.t 1)),oo 4 (.mv (ci 0))]
(sR [fA 5 0 2,lA 6 33 5,fA 7 0 3,lA 8 33 7,kB 9 168 6 8,om 4 9]
.ret))
theorem tN_:av_ Tryz.prog 98=some (10,[.tmp 4],lu_):=by kernel_rfl
def lo_:ad_:=(sR [oo 2 (.mv (cu 0)),oo 3 (.mv (cb false))]
(sR [oo 4 (.mv (cu 0))]
(.seq (sR [om 7 0,lN 8 7,oo 9 (.mv (ci 0))]
(.block 0 (.loop (sR [bI 10 .lss 9 8]
(.seq (cN 10
.skip
(.exit 0))
(.seq (.block 1 (sR [iX 11 1 7 9,lF 12 1 11,om 6 12]
(.seq (sR [om 13 6,om 14 4,oo 15 (.bin .sub (cu 4611686018427387904) (.t 14)),bI 16 .gtr 13 15]
(cN 16
(sR [oo 2 (.mv (cu 0)),oo 3 (.mv (cb false))]
.ret)
.skip))
(.reg [om 17 4,om 18 6,bI 19 .add 17 18,om 4 19]))))
(.reg [bC 20 .add 9 (ci 1),om 9 20])))))))
(sR [om 21 4,om 2 21,oo 3 (.mv (cb true))]
.ret))))
theorem tH_:av_ Tryz.prog 167=some (22,[.tmp 2,.tmp 3],lo_):=by kernel_rfl
def eV_:ad_:=(sR [oo 2 (.box 34 (.t 0)),oo 4 (.mv (ci 0))]
(.seq (sR [fA 7 33 2,lF 8 1 7,lN 9 8,om 10 1,bI 11 .neq 9 10]
(cN 11
(sR [oo 4 (.mv (ci 2))]
.ret)
.skip))
(.seq (sR [fA 13 33 2,lF 14 1 13,kA 15 167 14,om 12 15,eX 16 0 12,eX 17 1 12,om 5 16,om 6 17]
(sR [om 18 6,oo 19 (.un .not (.t 18))]
(cN 19
(sR [oo 4 (.mv (ci 4))]
.ret)
.skip)))
(sR [oo 4 (.mv (ci 0))]
.ret))))
theorem jg_:av_ Tryz.prog 96=some (20,[.tmp 4],eV_):=by kernel_rfl
def dK_:ad_:=(sR [oo 2 (.mv (.c (.sl 0 true [])))]
(.seq (sR [om 3 0,oo 4 (.isn false (.t 3))]
(cN 4
(sR [oo 2 (.mv (.c (.sl 0 true [])))]
.ret)
.skip))
(sR [oo 5 (.bldS 1 0 [(.int .u64 (0))] []),om 6 0,oo 7 (.app 1 8 (.t 5) (.t 6)),om 2 7]
.ret)))
theorem hf_:av_ Tryz.prog 106=some (8,[.tmp 2],dK_):=by kernel_rfl
def fJ_:ad_:=(sR [oo 2 (.mv (.c (.sl 0 true [])))]
(.seq (sR [om 3 0,oo 4 (.isn false (.t 3))]
(cN 4
(sR [oo 2 (.mv (.c (.sl 0 true [])))]
.ret)
.skip))
(sR [oo 5 (.bldS 1 0 [(.int .i64 (0))] []),om 6 0,oo 7 (.app 1 8 (.t 5) (.t 6)),om 2 7]
.ret)))
theorem kl_:av_ Tryz.prog 165=some (8,[.tmp 2],fJ_):=by kernel_rfl
def dp_:ad_:=(sR [oo 2 (.mv (.c (.sl 0 true [])))]
(.seq (sR [om 3 0,oo 4 (.isn false (.t 3))]
(cN 4
(sR [oo 2 (.mv (.c (.sl 0 true [])))]
.ret)
.skip))
(sR [oo 5 (.bldS 34 0 (aZ_ eh_) []),om 6 0,oo 7 (.app 34 48 (.t 5) (.t 6)),om 2 7]
.ret)))
theorem fO_:av_ Tryz.prog 176=some (8,[.tmp 2],dp_):=by kernel_rfl
def do_:ad_:=(sR [oo 2 (.mv (.c (.sl 0 true [])))]
(.seq (sR [om 3 0,oo 4 (.isn false (.t 3))]
(cN 4
(sR [oo 2 (.mv (.c (.sl 0 true [])))]
.ret)
.skip))
(sR [oo 5 (.bldS 240 0 (aG_ dE_) []),om 6 0,oo 7 (.app 240 352 (.t 5) (.t 6)),om 2 7]
.ret)))
theorem fN_:av_ Tryz.prog 177=some (8,[.tmp 2],do_):=by kernel_rfl
def dc_:ad_:=(sR [oo 2 (.mv (.c (.sl 0 true [])))]
(.seq (sR [om 3 0,oo 4 (.isn false (.t 3))]
(cN 4
(sR [oo 2 (.mv (.c (.sl 0 true [])))]
.ret)
.skip))
(sR [oo 5 (.bldS 238 0 (ap_ bR_) []),om 6 0,oo 7 (.app 238 336 (.t 5) (.t 6)),om 2 7]
.ret)))
theorem fg_:av_ Tryz.prog 109=some (8,[.tmp 2],dc_):=by kernel_rfl
def ls_:ad_:=(sR [oo 1 (.box 34 (.t 0)),oo 2 (.new (aT_ fw_))]
(sR [fA 3 33 1,lF 4 1 3,kA 5 106 4,fA 6 33 1,sO 1 6 5]
(sR [lA 7 34 1,sO 34 2 7]
.ret)))
theorem tL_:av_ Tryz.prog 100=some (8,[.cell 2 true 34],ls_):=by kernel_rfl
def gH_:ad_:=(sR [oo 1 (.box 67 (.t 0)),oo 2 (.new (aY_ jw_))]
(sR [fA 3 66 1,lF 4 1 3,kA 5 165 4,fA 6 66 1,sO 1 6 5]
(sR [lA 7 67 1,sO 67 2 7]
.ret)))
theorem lV_:av_ Tryz.prog 93=some (8,[.cell 2 true 67],gH_):=by kernel_rfl
def fp_:ad_:=(sR [oo 4 (.mv (.c (.sl 0 true [])))]
(sR [oo 5 (.mv (.c (.sl 0 true [])))]
(.seq (sR [om 8 0,lN 9 8,oo 10 (.mv (ci 0))]
(.block 0 (.loop (sR [bI 11 .lss 10 9]
(.seq (cN 11
.skip
(.exit 0))
(.seq (.block 1 (sR [iX 12 34 8 10,lA 13 34 12,oo 7 (.new (aT_ fw_)),sO 34 7 13]
(.reg [om 14 5,om 15 1,lA 16 34 7,oo 17 (.call (.t 15) [(.t 16)]),oo 18 (.bldS 34 1 (aT_ fw_) [(0,(.t 17))]),oo 19 (.app 34 64 (.t 14) (.t 18)),om 5 19])))
(.reg [bC 20 .add 10 (ci 1),om 10 20])))))))
(sR [om 21 5,om 4 21]
.ret))))
theorem jN_:av_ Tryz.prog 178=some (22,[.tmp 4],fp_):=by kernel_rfl
def dA_:ad_:=(sR [oo 4 (.mv (.c (.sl 0 true [])))]
(sR [oo 5 (.mv (.c (.sl 0 true [])))]
(.seq (sR [om 8 0,lN 9 8,oo 10 (.mv (ci 0))]
(.block 0 (.loop (sR [bI 11 .lss 10 9]
(.seq (cN 11
.skip
(.exit 0))
(.seq (.block 1 (sR [iX 12 67 8 10,lA 13 67 12,oo 7 (.new (aY_ jw_)),sO 67 7 13]
(.reg [om 14 5,om 15 1,lA 16 67 7,oo 17 (.call (.t 15) [(.t 16)]),oo 18 (.bldS 67 1 (aY_ jw_) [(0,(.t 17))]),oo 19 (.app 67 104 (.t 14) (.t 18)),om 5 19])))
(.reg [bC 20 .add 10 (ci 1),om 10 20])))))))
(sR [om 21 5,om 4 21]
.ret))))
theorem gQ_:av_ Tryz.prog 108=some (22,[.tmp 4],dA_):=by kernel_rfl
def kC_:ad_:=(sR [oo 2 (.mv (.c (.sl 0 true [])))]
(sR [om 3 0,oo 4 (.call (cf 178) [(.t 3),(cf 100)]),om 2 4]
.ret))
theorem rY_:av_ Tryz.prog 111=some (5,[.tmp 2],kC_):=by kernel_rfl
def nx_:ad_:=(sR [oo 1 (.box 1 (.t 0)),oo 2 (.new [(.sl 0 true [])])]
(sR [fA 3 0 1,lF 4 1 3,kA 5 177 4,oo 6 (.bld [(.sl 0 true [])] [(0,1,(.t 5))]),sO 1 2 6]
.ret))
theorem wp_:av_ Tryz.prog 110=some (7,[.cell 2 true 1],nx_):=by kernel_rfl
def lt_:ad_:=(sR [oo 1 (.box 2 (.t 0)),oo 2 (.new [(.sl 0 true []),(.sl 0 true [])])]
(.seq (.dreg [(fA 3 0 1,0),(lF 4 1 3,1),(kA 5 176 4,3),(fA 6 1 1,0),(lF 7 1 6,8),(kA 8 165 7,31),(oo 9 (.bld [(.sl 0 true []),(.sl 0 true [])] [(0,1,(.t 5)),(1,1,(.t 8))]),63),(sO 2 2 9,127)])
.ret))
theorem tM_:av_ Tryz.prog 107=some (10,[.cell 2 true 2],lt_):=by kernel_rfl
def lr_:ad_:=(sR [oo 1 (.box 150 (.t 0)),oo 2 (.new (ai_ bI_))]
(sR [fA 3 0 1,fA 4 44 3,lF 5 1 4,kA 6 106 5,fA 7 0 1,fA 8 44 7,sO 1 8 6]
(sR [fA 9 45 1,lA 10 2 9,kA 11 107 10,fA 12 45 1,sO 2 12 11]
(sR [fA 13 113 1,fA 14 0 13,lF 15 1 14,oo 16 (.call (cf 108) [(.t 15),(cf 93)]),fA 17 113 1,fA 18 0 17,sO 1 18 16]
(sR [fA 19 113 1,fA 20 1 19,lF 21 1 20,kA 22 109 21,fA 23 113 1,fA 24 1 23,sO 1 24 22]
(sR [fA 25 115 1,lA 26 1 25,kA 27 110 26,fA 28 115 1,sO 1 28 27]
(sR [fA 29 149 1,lF 30 1 29,kA 31 111 30,fA 32 149 1,sO 1 32 31]
(sR [lA 33 150 1,sO 150 2 33]
.ret))))))))
theorem tK_:av_ Tryz.prog 38=some (34,[.cell 2 true 150],lr_):=by kernel_rfl
def lH_:ad_:=(sR [oo 4 (.mv (.c (.sl 0 true [])))]
(.seq (.block 0 (.loop (.seq (sR [om 5 1,bC 6 .gtr 5 (cu 127)]
(cN 6
.skip
(.exit 0)))
(.block 1 (sR [om 7 0,om 8 1,bC 9 .and 8 (cu 127),oo 10 (.cvt .u8 (.t 9)),oo 11 (.bin .or (.t 10) (.c (.int .u8 (128)))),oo 12 (.bldS 1 1 [(.int .u8 (0))] [(0,(.t 11))]),oo 13 (.app 1 1 (.t 7) (.t 12)),om 0 13]
(.reg [om 14 1,bC 15 .shr 14 (cu 7),om 1 15]))))))
(sR [om 16 0,om 17 1,oo 18 (.cvt .u8 (.t 17)),oo 19 (.bldS 1 1 [(.int .u8 (0))] [(0,(.t 18))]),oo 20 (.app 1 1 (.t 16) (.t 19)),om 4 20]
.ret)))
theorem rz_:av_ Tryz.prog 243=some (21,[.tmp 4],lH_):=by kernel_rfl
def gJ_:ad_:=(sR [oo 4 (.mv (.c (.sl 0 true [])))]
(.seq (sR [om 5 1]
(cN 5
(sR [om 6 0,oo 7 (.bldS 1 1 [(.int .u8 (0))] [(0,(.c (.int .u8 (1))))]),oo 8 (.app 1 1 (.t 6) (.t 7)),om 4 8]
.ret)
.skip))
(sR [om 9 0,oo 10 (.bldS 1 1 [(.int .u8 (0))] [(0,(.c (.int .u8 (0))))]),oo 11 (.app 1 1 (.t 9) (.t 10)),om 4 11]
.ret)))
theorem iQ_:av_ Tryz.prog 263=some (12,[.tmp 4],gJ_):=by kernel_rfl
def lG_:ad_:=(sR [oo 3 (.box 32 (.t 1)),oo 4 (.mv (.c (.sl 0 true [])))]
(sR [om 5 0,oo 6 (.sliA 1 32 (.t 3) none none),oo 7 (.app 1 1 (.t 5) (.t 6)),om 4 7]
.ret))
theorem ry_:av_ Tryz.prog 260=some (8,[.tmp 4],lG_):=by kernel_rfl
def lI_:ad_:=(sR [oo 3 (.box 4 (.t 1)),oo 4 (.mv (.c (.sl 0 true [])))]
(sR [lA 6 4 3,kA 7 277 6,oo 5 (.new (rtc rt0)),sO 32 5 7]
(sR [om 8 0,oo 9 (.sliA 1 32 (.t 5) none none),oo 10 (.app 1 1 (.t 8) (.t 9)),om 4 10]
.ret)))
theorem rA_:av_ Tryz.prog 261=some (11,[.tmp 4],lI_):=by kernel_rfl
def fH_:ad_:=(sR [oo 3 (.box 33 (.t 1)),oo 4 (.mv (.c (.sl 0 true [])))]
(.seq (.dreg [(om 5 0,0),(fA 6 0 3,0),(lF 7 1 6,2),(kB 8 243 5 7,7),(fA 9 1 3,0),(lA 10 32 9,16),(kB 11 260 8 10,63),(om 4 11,127)])
.ret))
theorem iR_:av_ Tryz.prog 262=some (12,[.tmp 4],fH_):=by kernel_rfl
def lF_:ad_:=(sR [oo 1 (.box 4 (.t 0)),oo 2 (.new (rtc rt0))]
(sR [oo 3 (.new (rtc rt0))]
(.seq (sR [oo 4 (.mv (ci 0))]
(.block 0 (.loop (.seq (sR [om 5 4,bC 6 .lss 5 (ci 32)]
(cN 6
.skip
(.exit 0)))
(.seq (.block 1 (.reg [om 9 4,oo 10 (.bin .sub (ci 31) (.t 9)),om 11 4,bC 12 .quo 11 (ci 8),oo 13 (.idxA 4 1 (.t 1) (.t 12)),lF 14 1 13,om 15 4,bC 16 .rem 15 (ci 8),oo 17 (.bin .mul (ci 8) (.t 16)),oo 18 (.cvt .u64 (.t 17)),bI 19 .shr 14 18,oo 20 (.cvt .u8 (.t 19)),oo 21 (.idxA 32 1 (.t 3) (.t 10)),sO 1 21 20]))
(.reg [om 7 4,bC 8 .add 7 (ci 1),om 4 8]))))))
(sR [lA 22 32 3,sO 32 2 22]
.ret))))
theorem tZ_:av_ Tryz.prog 277=some (23,[.cell 2 true 32],lF_):=by kernel_rfl
def fE_:ad_:=(sR [oo 4 (.mv (ci 0))]
(.seq (sR [om 7 0,lN 8 7,bC 9 .eql 8 (ci 0)]
(cN 9
(sR [oo 4 (.mv (ci 2))]
.ret)
.skip))
(.seq (sR [om 10 0,lN 11 10,oo 12 (.mv (ci 0))]
(.block 0 (.loop (sR [bI 13 .lss 12 11]
(.seq (cN 13
.skip
(.exit 0))
(.seq (.block 1 (sR [om 14 12,iX 15 1 10 12,lF 16 1 15,om 5 14,om 6 16]
(.seq (sR [om 17 6,bC 18 .lss 17 (ci 0),om 19 18,omg 20 6 19 false,omg 21 1 19 false,og 22 (.bin .geq (.t 20) (.t 21)) 19 false,oo 23 (.pick (.t 19) (cb true) (.t 22))]
(cN 23
(sR [oo 4 (.mv (ci 3))]
.ret)
.skip))
(sR [om 24 5,bC 25 .gtr 24 (ci 0),om 26 25,omg 27 6 26 true,omg 28 0 26 true,omg 29 5 26 true,og 30 (.bin .sub (.t 29) (ci 1)) 26 true,og 31 (.idxS 1 (.t 28) (.t 30)) 26 true,og 32 (.ld false 1 (.t 31)) 26 true,og 33 (.bin .leq (.t 27) (.t 32)) 26 true,oo 34 (.pick (.t 26) (.t 33) (cb false))]
(cN 34
(sR [oo 4 (.mv (ci 8))]
.ret)
.skip)))))
(.reg [bC 35 .add 12 (ci 1),om 12 35])))))))
(sR [oo 4 (.mv (ci 0))]
.ret))))
theorem kj_:av_ Tryz.prog 120=some (36,[.tmp 4],fE_):=by kernel_rfl
def hq_:ad_:=(sR [oo 4 (.mv (ci 0))]
(.seq (sR [om 6 0,lN 7 6,bC 8 .eql 7 (ci 0)]
(cN 8
(sR [oo 4 (.mv (ci 2))]
.ret)
.skip))
(.seq (sR [oo 5 (.mv (ci 0))]
(.block 0 (.loop (.seq (sR [om 9 5,om 10 0,lN 11 10,bI 12 .lss 9 11]
(cN 12
.skip
(.exit 0)))
(.seq (.block 1 (.seq (sR [om 15 0,om 16 5,iX 17 1 15 16,lF 18 1 17,bC 19 .lss 18 (ci 0),om 20 19,omg 21 0 20 false,omg 22 5 20 false,og 23 (.idxS 1 (.t 21) (.t 22)) 20 false,og 24 (.ld false 1 (.t 23)) 20 false,omg 25 1 20 false,og 26 (.bin .geq (.t 24) (.t 25)) 20 false,oo 27 (.pick (.t 20) (cb true) (.t 26))]
(cN 27
(sR [oo 4 (.mv (ci 3))]
.ret)
.skip))
(.seq (.dreg [(om 28 5,0),(bC 29 .gtr 28 (ci 0),1),(om 30 29,3),(omg 31 0 30 true,7),(omg 32 5 30 true,7),(og 33 (.idxS 1 (.t 31) (.t 32)) 30 true,31),(og 34 (.ld false 1 (.t 33)) 30 true,63),(omg 35 0 30 true,7),(omg 36 5 30 true,7),(og 37 (.bin .sub (.t 36) (ci 1)) 30 true,263),(og 38 (.idxS 1 (.t 35) (.t 37)) 30 true,903),(og 39 (.ld false 1 (.t 38)) 30 true,1927),(og 40 (.bin .leq (.t 34) (.t 39)) 30 true,4095),(oo 41 (.pick (.t 30) (.t 40) (cb false)),8191)])
(cN 41
(sR [oo 4 (.mv (ci 8))]
.ret)
.skip))))
(.reg [om 13 5,bC 14 .add 13 (ci 1),om 5 14]))))))
(sR [oo 4 (.mv (ci 0))]
.ret))))
theorem mX_:av_ Tryz.prog 127=some (42,[.tmp 4],hq_):=by kernel_rfl
def eW_:ad_:=(sR [oo 1 (.box 67 (.t 0)),oo 2 (.mv (.c (.sl 0 true []))),oo 3 (.mv (ci 0))]
(.seq (sR [fA 5 66 1,lF 6 1 5,oo 7 (.call (cf 127) [(.t 6),(ci 1024)]),om 4 7]
(sR [om 8 4,bC 9 .neq 8 (ci 0)]
(cN 9
(sR [om 10 4,oo 2 (.mv (.c (.sl 0 true []))),om 3 10]
.ret)
.skip)))
(.seq (.dreg [(fA 11 0 1,0),(lF 12 1 11,1),(oo 13 (.call (cf 243) [(.c (.sl 0 true [])),(.t 12)]),3),(fA 14 1 1,0),(lA 15 32 14,8),(kB 16 260 13 15,31),(fA 17 33 1,0),(lA 18 33 17,64),(kB 19 262 16 18,255),(fA 20 66 1,0),(lF 21 1 20,512),(kB 22 264 19 21,2047),(om 2 22,4095),(oo 3 (.mv (ci 0)),8191)])
.ret)))
theorem ji_:av_ Tryz.prog 239=some (23,[.tmp 2,.tmp 3],eW_):=by kernel_rfl
def fI_:ad_:=(sR [oo 2 (.box 67 (.t 0)),oo 3 (.box 67 (.t 1)),oo 4 (.mv (cb false))]
(sR [fA 5 0 2,lF 6 1 5,fA 7 0 3,lF 8 1 7,bI 9 .eql 6 8,om 10 9,og 11 (.fldA 1 (.t 2)) 10 true,og 12 (.ld true 32 (.t 11)) 10 true,og 13 (.fldA 1 (.t 3)) 10 true,og 14 (.ld true 32 (.t 13)) 10 true,og 15 (.eqa [(32,1)] false (.t 12) (.t 14)) 10 true,oo 16 (.pick (.t 10) (.t 15) (cb false)),om 17 16,og 18 (.fldA 33 (.t 2)) 17 true,og 19 (.ld true 33 (.t 18)) 17 true,og 20 (.fldA 33 (.t 3)) 17 true,og 21 (.ld true 33 (.t 20)) 17 true,og 22 (.eqa [(33,1)] false (.t 19) (.t 21)) 17 true,oo 23 (.pick (.t 17) (.t 22) (cb false)),om 24 23,og 25 (.fldA 66 (.t 2)) 24 true,og 26 (.ld false 1 (.t 25)) 24 true,og 27 (.fldA 66 (.t 3)) 24 true,og 28 (.ld false 1 (.t 27)) 24 true,og 29 (.call (cf 50) [(.t 26),(.t 28)]) 24 true,oo 30 (.pick (.t 24) (.t 29) (cb false)),om 4 30]
.ret))
theorem kk_:av_ Tryz.prog 53=some (31,[.tmp 4],fI_):=by kernel_rfl
def ga_:ad_:=(sR [oo 1 (.box 70 (.t 0)),oo 2 (.mv (.c (.sl 0 true []))),oo 3 (.mv (ci 0))]
(.seq (sR [fA 6 0 1,fA 7 34 6,lF 8 1 7,oo 9 (.call (cf 127) [(.t 8),(ci 1024)]),om 4 9]
(sR [om 10 4,bC 11 .neq 10 (ci 0)]
(cN 11
(sR [om 12 4,oo 2 (.mv (.c (.sl 0 true []))),om 3 12]
.ret)
.skip)))
(.seq (sR [fA 13 35 1,fA 14 34 13,lF 15 1 14,oo 16 (.call (cf 127) [(.t 15),(ci 1024)]),om 5 16]
(sR [om 17 5,bC 18 .neq 17 (ci 0)]
(cN 18
(sR [om 19 5,oo 2 (.mv (.c (.sl 0 true []))),om 3 19]
.ret)
.skip)))
(.seq (.dreg [(fA 20 0 1,0),(lA 21 35 20,1),(oo 22 (.call (cf 265) [(.c (.sl 0 true [])),(.t 21)]),3),(fA 23 35 1,0),(lA 24 35 23,8),(kB 25 265 22 24,31),(om 2 25,63),(oo 3 (.mv (ci 0)),127)])
.ret))))
theorem ld_:av_ Tryz.prog 240=some (26,[.tmp 2,.tmp 3],ga_):=by kernel_rfl
def hp_:ad_:=(sR [oo 2 (.box 70 (.t 0)),oo 3 (.box 70 (.t 1)),oo 4 (.mv (cb false))]
(sR [fA 5 0 2,lA 6 35 5,fA 7 0 3,lA 8 35 7,kB 9 266 6 8,om 10 9,og 11 (.fldA 35 (.t 2)) 10 true,og 12 (.ld true 35 (.t 11)) 10 true,og 13 (.fldA 35 (.t 3)) 10 true,og 14 (.ld true 35 (.t 13)) 10 true,og 15 (.call (cf 266) [(.t 12),(.t 14)]) 10 true,oo 16 (.pick (.t 10) (.t 15) (cb false)),om 4 16]
.ret))
theorem mW_:av_ Tryz.prog 244=some (17,[.tmp 4],hp_):=by kernel_rfl
def id_:ad_:=(sR [oo 1 (.box 34 (.t 0)),oo 2 (.mv (.c (.sl 0 true []))),oo 3 (.mv (ci 0))]
(.seq (sR [fA 6 33 1,lF 7 1 6,lN 8 7,bC 9 .gtr 8 (ci 1024)]
(cN 9
(sR [oo 2 (.mv (.c (.sl 0 true []))),oo 3 (.mv (ci 3))]
.ret)
.skip))
(.seq (.dreg [(fA 10 0 1,0),(fA 11 0 10,1),(lF 12 1 11,3),(oo 13 (.call (cf 243) [(.c (.sl 0 true [])),(.t 12)]),7),(fA 14 0 1,0),(fA 15 1 14,16),(lA 16 32 15,48),(kB 17 260 13 16,127),(fA 18 33 1,0),(lF 19 1 18,256),(lN 20 19,768),(oo 21 (.cvt .u64 (.t 20)),1792),(kB 22 243 17 21,4095),(om 4 22,8191)])
(.seq (sR [oo 5 (.mv (ci 0))]
(.block 0 (.loop (.seq (sR [om 23 5,fA 24 33 1,lF 25 1 24,lN 26 25,bI 27 .lss 23 26]
(cN 27
.skip
(.exit 0)))
(.seq (.block 1 (.reg [om 30 4,fA 31 33 1,lF 32 1 31,om 33 5,iX 34 1 32 33,lF 35 1 34,kB 36 243 30 35,om 4 36]))
(.reg [om 28 5,bC 29 .add 28 (ci 1),om 5 29]))))))
(sR [om 37 4,om 2 37,oo 3 (.mv (ci 0))]
.ret)))))
theorem ov_:av_ Tryz.prog 241=some (38,[.tmp 2,.tmp 3],id_):=by kernel_rfl
def gK_:ad_:=(sR [oo 1 (.box 34 (.t 0)),oo 2 (.mv (.c (.sl 0 true []))),oo 3 (.mv (ci 0))]
(.seq (sR [fA 4 1 1,lF 5 1 4,bC 6 .lss 5 (ci 1),om 7 6,og 8 (.fldA 1 (.t 1)) 7 false,og 9 (.ld false 1 (.t 8)) 7 false,og 10 (.bin .gtr (.t 9) (ci 4)) 7 false,oo 11 (.pick (.t 7) (cb true) (.t 10))]
(cN 11
(sR [oo 2 (.mv (.c (.sl 0 true []))),oo 3 (.mv (ci 3))]
.ret)
.skip))
(.seq (.dreg [(fA 12 0 1,0),(fA 13 0 12,1),(lF 14 1 13,3),(oo 15 (.call (cf 243) [(.c (.sl 0 true [])),(.t 14)]),7),(fA 16 1 1,0),(lF 17 1 16,16),(oo 18 (.cvt .u64 (.t 17)),48),(kB 19 243 15 18,127),(fA 20 2 1,0),(lA 21 32 20,256),(kB 22 260 19 21,1023),(om 2 22,2047),(oo 3 (.mv (ci 0)),4095)])
.ret)))
theorem lY_:av_ Tryz.prog 242=some (23,[.tmp 2,.tmp 3],gK_):=by kernel_rfl
def jF_:ad_:=(sR [oo 2 (.box 34 (.t 0)),oo 3 (.box 34 (.t 1)),oo 4 (.mv (cb false))]
(sR [fA 5 0 2,lA 6 33 5,fA 7 0 3,lA 8 33 7,oo 9 (.eqa [(33,1)] false (.t 6) (.t 8)),om 10 9,og 11 (.fldA 33 (.t 2)) 10 true,og 12 (.ld false 1 (.t 11)) 10 true,og 13 (.fldA 33 (.t 3)) 10 true,og 14 (.ld false 1 (.t 13)) 10 true,og 15 (.call (cf 48) [(.t 12),(.t 14)]) 10 true,oo 16 (.pick (.t 10) (.t 15) (cb false)),om 4 16]
.ret))
theorem qD_:av_ Tryz.prog 130=some (17,[.tmp 4],jF_):=by kernel_rfl
def pr_:ad_:=(sR [oo 3 (.box 238 (.t 1)),oo 4 (.mv (.c (.sl 0 true [])))]
(.seq (.dreg [(om 5 0,0),(fA 6 66 3,0),(lF 7 1 6,2),(kB 8 243 5 7,7),(fA 9 67 3,0),(lA 10 32 9,16),(kB 11 260 8 10,63),(fA 12 99 3,0),(lA 13 32 12,128),(kB 14 260 11 13,511),(fA 15 131 3,0),(lA 16 32 15,1024),(kB 17 260 14 16,4095),(om 0 17,8191)])
(.seq (.dreg [(om 18 0,0),(fA 19 163 3,0),(lA 20 4 19,2),(kB 21 261 18 20,7),(fA 22 167 3,0),(lA 23 4 22,16),(kB 24 261 21 23,63),(om 0 24,127)])
(.seq (.dreg [(om 25 0,0),(fA 26 171 3,0),(lA 27 33 26,2),(kB 28 262 25 27,7),(fA 29 204 3,0),(lA 30 33 29,16),(kB 31 262 28 30,63),(om 0 31,127)])
(.seq (.dreg [(om 32 0,0),(fA 33 0 3,0),(fA 34 0 33,2),(lA 35 33 34,6),(kB 36 262 32 35,15),(fA 37 0 3,0),(fA 38 33 37,32),(lA 39 33 38,96),(kB 40 262 36 39,255),(fA 41 237 3,0),(lF 42 1 41,512),(kB 43 263 40 42,2047),(om 4 43,4095)])
.ret)))))
theorem zU_:av_ Tryz.prog 238=some (44,[.tmp 4],pr_):=by kernel_rfl
def rr_:ad_:=(sR [oo 4 (.mv (.c (.sl 0 true [])))]
(sR [om 6 0,om 7 1,lN 8 7,oo 9 (.cvt .u64 (.t 8)),kB 10 243 6 9,om 0 10]
(.seq (sR [oo 5 (.mv (ci 0))]
(.block 0 (.loop (.seq (sR [om 11 5,om 12 1,lN 13 12,bI 14 .lss 11 13]
(cN 14
.skip
(.exit 0)))
(.seq (.block 1 (sR [om 17 5,bC 18 .eql 17 (ci 0)]
(cN 18
(.reg [om 19 0,om 20 1,oo 21 (.idxS 1 (.t 20) (ci 0)),lF 22 1 21,oo 23 (.cvt .u64 (.t 22)),kB 24 243 19 23,om 0 24])
(.dreg [(om 25 0,0),(om 26 1,0),(om 27 5,0),(iX 28 1 26 27,6),(lF 29 1 28,14),(om 30 1,0),(om 31 5,0),(bC 32 .sub 31 (ci 1),64),(iX 33 1 30 32,224),(lF 34 1 33,480),(bI 35 .sub 29 34,1022),(bC 36 .sub 35 (ci 1),2046),(oo 37 (.cvt .u64 (.t 36)),4094),(kB 38 243 25 37,8191),(om 0 38,16383)]))))
(.reg [om 15 5,bC 16 .add 15 (ci 1),om 5 16]))))))
(sR [om 39 0,om 4 39]
.ret))))
theorem BP_:av_ Tryz.prog 264=some (40,[.tmp 4],rr_):=by kernel_rfl
def kP_:ad_:=(sR [oo 4 (.mv (cb false))]
(.seq (sR [om 6 0,lN 7 6,om 8 1,lN 9 8,bI 10 .neq 7 9]
(cN 10
(sR [oo 4 (.mv (cb false))]
.ret)
.skip))
(.seq (sR [oo 5 (.mv (ci 0))]
(.block 0 (.loop (.seq (sR [om 11 5,om 12 0,lN 13 12,bI 14 .lss 11 13]
(cN 14
.skip
(.exit 0)))
(.seq (.block 1 (.seq (.dreg [(om 17 0,0),(om 18 5,0),(iX 19 1 17 18,3),(lF 20 1 19,7),(om 21 1,0),(om 22 5,0),(iX 23 1 21 22,48),(lF 24 1 23,112),(bI 25 .neq 20 24,255)])
(cN 25
(sR [oo 4 (.mv (cb false))]
.ret)
.skip)))
(.reg [om 15 5,bC 16 .add 15 (ci 1),om 5 16]))))))
(sR [oo 4 (.mv (cb true))]
.ret))))
theorem sl_:av_ Tryz.prog 50=some (26,[.tmp 4],kP_):=by kernel_rfl
def kd_:ad_:=(sR [oo 3 (.box 35 (.t 1)),oo 4 (.mv (.c (.sl 0 true [])))]
(.seq (.dreg [(om 5 0,0),(fA 6 0 3,0),(lF 7 1 6,2),(kB 8 243 5 7,7),(fA 9 1 3,0),(lF 10 1 9,16),(kB 11 243 8 10,63),(fA 12 2 3,0),(lA 13 32 12,128),(kB 14 260 11 13,511),(fA 15 34 3,0),(lF 16 1 15,1024),(kB 17 264 14 16,4095),(om 4 17,8191)])
.ret))
theorem pF_:av_ Tryz.prog 265=some (18,[.tmp 4],kd_):=by kernel_rfl
def jE_:ad_:=(sR [oo 2 (.box 35 (.t 0)),oo 3 (.box 35 (.t 1)),oo 4 (.mv (cb false))]
(sR [fA 5 0 2,lF 6 1 5,fA 7 0 3,lF 8 1 7,bI 9 .eql 6 8,om 10 9,og 11 (.fldA 1 (.t 2)) 10 true,og 12 (.ld false 1 (.t 11)) 10 true,og 13 (.fldA 1 (.t 3)) 10 true,og 14 (.ld false 1 (.t 13)) 10 true,og 15 (.bin .eql (.t 12) (.t 14)) 10 true,oo 16 (.pick (.t 10) (.t 15) (cb false)),om 17 16,og 18 (.fldA 2 (.t 2)) 17 true,og 19 (.ld true 32 (.t 18)) 17 true,og 20 (.fldA 2 (.t 3)) 17 true,og 21 (.ld true 32 (.t 20)) 17 true,og 22 (.eqa [(32,1)] false (.t 19) (.t 21)) 17 true,oo 23 (.pick (.t 17) (.t 22) (cb false)),om 24 23,og 25 (.fldA 34 (.t 2)) 24 true,og 26 (.ld false 1 (.t 25)) 24 true,og 27 (.fldA 34 (.t 3)) 24 true,og 28 (.ld false 1 (.t 27)) 24 true,og 29 (.call (cf 50) [(.t 26),(.t 28)]) 24 true,oo 30 (.pick (.t 24) (.t 29) (cb false)),om 4 30]
.ret))
theorem qC_:av_ Tryz.prog 266=some (31,[.tmp 4],jE_):=by kernel_rfl
def ie_:ad_:=(sR [oo 4 (.mv (cb false))]
(.seq (sR [om 6 0,lN 7 6,om 8 1,lN 9 8,bI 10 .neq 7 9]
(cN 10
(sR [oo 4 (.mv (cb false))]
.ret)
.skip))
(.seq (sR [oo 5 (.mv (ci 0))]
(.block 0 (.loop (.seq (sR [om 11 5,om 12 0,lN 13 12,bI 14 .lss 11 13]
(cN 14
.skip
(.exit 0)))
(.seq (.block 1 (.seq (.dreg [(om 17 0,0),(om 18 5,0),(iX 19 1 17 18,3),(lF 20 1 19,7),(om 21 1,0),(om 22 5,0),(iX 23 1 21 22,48),(lF 24 1 23,112),(bI 25 .neq 20 24,255)])
(cN 25
(sR [oo 4 (.mv (cb false))]
.ret)
.skip)))
(.reg [om 15 5,bC 16 .add 15 (ci 1),om 5 16]))))))
(sR [oo 4 (.mv (cb true))]
.ret))))
theorem ow_:av_ Tryz.prog 48=some (26,[.tmp 4],ie_):=by kernel_rfl
def fq_:ad_:=(sR [oo 2 (.box 70 (.t 0)),oo 4 (.mv (ci 0))]
(.seq (sR [fA 7 0 2,fA 8 34 7,lF 9 1 8,om 10 1,kB 11 127 9 10,om 5 11]
(sR [om 12 5,bC 13 .neq 12 (ci 0)]
(cN 13
(sR [om 14 5,om 4 14]
.ret)
.skip)))
(.seq (sR [fA 15 35 2,fA 16 34 15,lF 17 1 16,om 18 1,kB 19 127 17 18,om 6 19]
(sR [om 20 6,bC 21 .neq 20 (ci 0)]
(cN 21
(sR [om 22 6,om 4 22]
.ret)
.skip)))
(.seq (sR [fA 23 0 2,fA 24 0 23,lF 25 1 24,fA 26 0 2,fA 27 1 26,lF 28 1 27,bI 29 .gtr 25 28,om 30 29,og 31 (.fldA 35 (.t 2)) 30 false,og 32 (.fldA 0 (.t 31)) 30 false,og 33 (.ld false 1 (.t 32)) 30 false,og 34 (.fldA 35 (.t 2)) 30 false,og 35 (.fldA 1 (.t 34)) 30 false,og 36 (.ld false 1 (.t 35)) 30 false,og 37 (.bin .gtr (.t 33) (.t 36)) 30 false,oo 38 (.pick (.t 30) (cb true) (.t 37))]
(cN 38
(sR [oo 4 (.mv (ci 2))]
.ret)
.skip))
(.seq (sR [fA 39 0 2,lA 40 35 39,fA 41 35 2,lA 42 35 41,kB 43 166 40 42,oo 44 (.un .not (.t 43)),om 45 44,og 46 (.ld true 70 (.t 2)) 45 false,og 47 (.call (cf 26) [(.t 46)]) 45 false,og 48 (.len false (.t 47)) 45 false,og 49 (.bin .eql (.t 48) (ci 0)) 45 false,oo 50 (.pick (.t 45) (cb true) (.t 49))]
(cN 50
(sR [oo 4 (.mv (ci 20))]
.ret)
.skip))
(sR [oo 4 (.mv (ci 0))]
.ret))))))
theorem jO_:av_ Tryz.prog 94=some (51,[.tmp 4],fq_):=by kernel_rfl
def kQ_:ad_:=(sR [oo 1 (.box 70 (.t 0)),oo 2 (.mv (.c (.sl 0 true [])))]
(sR [oo 3 (.mv (.c (.sl 0 true [])))]
(.seq (sR [oo 4 (.mv (ci 0))]
(.block 0 (.loop (.seq (sR [om 5 4,fA 6 0 1,fA 7 34 6,lF 8 1 7,lN 9 8,bI 10 .lss 5 9]
(cN 10
.skip
(.exit 0)))
(.seq (.block 1 (.seq (.dreg [(fA 13 35 1,0),(fA 14 34 13,1),(lF 15 1 14,3),(fA 16 0 1,0),(fA 17 34 16,8),(lF 18 1 17,24),(om 19 4,0),(iX 20 1 18 19,120),(lF 21 1 20,248),(kB 22 27 15 21,511)])
(cN 22
(.reg [om 23 3,fA 24 0 1,fA 25 34 24,lF 26 1 25,om 27 4,iX 28 1 26 27,lF 29 1 28,kB 30 91 23 29,om 3 30])
.skip)))
(.reg [om 11 4,bC 12 .add 11 (ci 1),om 4 12]))))))
(sR [om 31 3,om 2 31]
.ret))))
theorem sn_:av_ Tryz.prog 26=some (32,[.tmp 2],kQ_):=by kernel_rfl
def az_:ad_:=(sR [oo 2 (.box 35 (.t 0)),oo 3 (.box 35 (.t 1)),oo 4 (.mv (cb false))]
(sR [fA 8 1 2,lF 9 1 8,fA 10 1 3,lF 11 1 10,bI 12 .eql 9 11,om 13 12,og 14 (.fldA 0 (.t 2)) 13 true,og 15 (.ld false 1 (.t 14)) 13 true,og 16 (.fldA 0 (.t 3)) 13 true,og 17 (.ld false 1 (.t 16)) 13 true,og 18 (.bin .neq (.t 15) (.t 17)) 13 true,omg 19 18 13 true,og 20 (.fldA 2 (.t 2)) 19 false,og 21 (.ld true 32 (.t 20)) 19 false,og 22 (.fldA 2 (.t 3)) 19 false,og 23 (.ld true 32 (.t 22)) 19 false,og 24 (.eqa [(32,1)] true (.t 21) (.t 23)) 19 false,og 25 (.pick (.t 19) (cb true) (.t 24)) 13 true,oo 26 (.pick (.t 13) (.t 25) (cb false)),om 5 26]
(sR [fA 27 0 2,lF 28 1 27,fA 29 0 3,lF 30 1 29,bI 31 .lss 28 30,om 32 31,og 33 (.fldA 1 (.t 2)) 32 true,og 34 (.ld false 1 (.t 33)) 32 true,og 35 (.fldA 1 (.t 3)) 32 true,og 36 (.ld false 1 (.t 35)) 32 true,og 37 (.bin .gtr (.t 34) (.t 36)) 32 true,oo 38 (.pick (.t 32) (.t 37) (cb false)),om 6 38]
(sR [fA 39 0 3,lF 40 1 39,fA 41 0 2,lF 42 1 41,bI 43 .lss 40 42,om 44 43,og 45 (.fldA 1 (.t 3)) 44 true,og 46 (.ld false 1 (.t 45)) 44 true,og 47 (.fldA 1 (.t 2)) 44 true,og 48 (.ld false 1 (.t 47)) 44 true,og 49 (.bin .gtr (.t 46) (.t 48)) 44 true,oo 50 (.pick (.t 44) (.t 49) (cb false)),om 7 50]
(sR [om 51 5,om 52 51,omg 53 6 52 false,oo 54 (.pick (.t 52) (cb true) (.t 53)),om 55 54,omg 56 7 55 false,oo 57 (.pick (.t 55) (cb true) (.t 56)),om 4 57]
.ret)))))
theorem qH_:av_ Tryz.prog 166=some (58,[.tmp 4],az_):=by kernel_rfl
def nO_:ad_:=(sR [oo 4 (.mv (.c (.sl 0 true [])))]
(sR [oo 5 (.mv (ci 0))]
(.seq (.block 0 (.loop (.seq (sR [om 6 5,om 7 0,lN 8 7,bI 9 .lss 6 8,om 10 9,omg 11 0 10 true,omg 12 5 10 true,og 13 (.idxS 1 (.t 11) (.t 12)) 10 true,og 14 (.ld false 1 (.t 13)) 10 true,omg 15 1 10 true,og 16 (.bin .lss (.t 14) (.t 15)) 10 true,oo 17 (.pick (.t 10) (.t 16) (cb false))]
(cN 17
.skip
(.exit 0)))
(.block 1 (.reg [om 18 5,bC 19 .add 18 (ci 1),om 5 19])))))
(.seq (sR [om 20 5,om 21 0,lN 22 21,bI 23 .lss 20 22,om 24 23,omg 25 0 24 true,omg 26 5 24 true,og 27 (.idxS 1 (.t 25) (.t 26)) 24 true,og 28 (.ld false 1 (.t 27)) 24 true,omg 29 1 24 true,og 30 (.bin .eql (.t 28) (.t 29)) 24 true,oo 31 (.pick (.t 24) (.t 30) (cb false))]
(cN 31
(sR [om 32 0,om 4 32]
.ret)
.skip))
(.seq (.dreg [(om 33 0,0),(om 34 5,0),(oo 35 (.sli 1 (.t 33) none (some (.t 34)) none),3),(oo 36 (.app 1 8 (.c (.sl 0 true [])) (.t 35)),7),(om 37 1,0),(oo 38 (.bldS 1 1 [(.int .i64 (0))] [(0,(.t 37))]),16),(oo 39 (.app 1 8 (.t 36) (.t 38)),63),(om 40 0,0),(om 41 5,0),(oo 42 (.sli 1 (.t 40) (some (.t 41)) none none),384),(oo 43 (.app 1 8 (.t 39) (.t 42)),1023),(om 4 43,2047)])
.ret)))))
theorem wI_:av_ Tryz.prog 91=some (44,[.tmp 4],nO_):=by kernel_rfl
def tu_:ad_:=(sR [oo 4 (.mv (cb false))]
(.seq (sR [oo 5 (.mv (ci 0))]
(.block 0 (.loop (.seq (sR [om 6 5,om 7 0,lN 8 7,bI 9 .lss 6 8]
(cN 9
.skip
(.exit 0)))
(.seq (.block 1 (sR [om 12 0,om 13 5,iX 14 1 12 13,lF 15 1 14,om 16 1,bI 17 .eql 15 16]
(cN 17
(sR [oo 4 (.mv (cb true))]
.ret)
.skip)))
(.reg [om 10 5,bC 11 .add 10 (ci 1),om 5 11]))))))
(sR [oo 4 (.mv (cb false))]
.ret)))
theorem ED_:av_ Tryz.prog 27=some (18,[.tmp 4],tu_):=by kernel_rfl
def kz_:ad_:=(sR [oo 4 (.new (bZ_ sF_))]
(sR [oo 6 (.call (cf 16) [(ci 2)]),om 7 0,om 8 1,kB 9 65 7 8,oo 10 (.bld (bz_ KA_) [(0,1,(cu 1)),(1,1,(cu 5)),(2,32,(.t 6)),(34,1,(.t 9))]),oo 11 (.call (cf 16) [(ci 2)]),om 12 0,om 13 1,bC 14 .shr 13 (cu 6),kB 15 65 12 14,oo 16 (.bld (bz_ KA_) [(0,1,(cu 2)),(1,1,(cu 4)),(2,32,(.t 11)),(34,1,(.t 15))]),oo 17 (.bld (bZ_ sF_) [(0,35,(.t 10)),(35,35,(.t 16))]),oo 5 (.new (bZ_ sF_)),sO 70 5 17]
(.seq (sR [om 18 1,bC 19 .shr 18 (cu 12),bC 20 .rem 19 (ci 8)]
(.block 0 (sR [bC 22 .eql 20 (ci 0),om 21 22]
(cN 21
(.reg [fA 23 35 5,lA 24 35 23,fA 25 0 5,lA 26 35 25,fA 27 0 5,sO 35 27 24,fA 28 35 5,sO 35 28 26])
(sR [bC 30 .eql 20 (ci 1),om 29 30]
(cN 29
(.reg [fA 31 35 5,fA 32 1 31,on (.sto 1 (.t 32) (cu 5))])
(sR [bC 34 .eql 20 (ci 2),om 33 34]
(cN 33
(.reg [fA 35 0 5,lA 36 35 35,fA 37 35 5,sO 35 37 36])
(sR [bC 39 .eql 20 (ci 3),om 38 39]
(cN 38
(.reg [fA 40 35 5,fA 41 0 40,on (.sto 1 (.t 41) (cu 6))])
(sR [bC 43 .eql 20 (ci 4),om 42 43]
(cN 42
(.reg [oo 44 (.call (cf 16) [(ci 3)]),fA 45 35 5,fA 46 1 45,on (.sto 1 (.t 46) (cu 5)),fA 47 35 5,fA 48 0 47,on (.sto 1 (.t 48) (cu 1)),fA 49 35 5,fA 50 2 49,sO 32 50 44])
.skip))))))))))))
(sR [lA 51 70 5,sO 70 4 51]
.ret))))
theorem rV_:av_ Tryz.prog 24=some (52,[.cell 4 true 70],kz_):=by kernel_rfl
def bW_:ad_:=(sR [oo 4 (.mv (.c (.sl 0 true [])))]
(sR [oo 5 (.mv (.c (.sl 0 true [])))]
(.seq (sR [oo 6 (.mv (ci 0))]
(.block 0 (.loop (.seq (sR [om 7 6,om 8 0,bI 9 .lss 7 8]
(cN 9
.skip
(.exit 0)))
(.seq (.block 1 (sR [om 12 1,om 13 6,oo 14 (.cvt .u64 (.t 13)),bI 15 .shr 12 14,bC 16 .and 15 (ci 1),bC 17 .eql 16 (ci 1)]
(cN 17
(.reg [om 18 5,om 19 6,oo 20 (.bldS 1 1 [(.int .i64 (0))] [(0,(.t 19))]),oo 21 (.app 1 8 (.t 18) (.t 20)),om 5 21])
.skip)))
(.reg [om 10 6,bC 11 .add 10 (ci 1),om 6 11]))))))
(.seq (sR [om 22 5,lN 23 22,bC 24 .eql 23 (ci 0),om 25 24,omg 26 0 25 true,og 27 (.bin .gtr (.t 26) (ci 0)) 25 true,oo 28 (.pick (.t 25) (.t 27) (cb false))]
(cN 28
(.reg [oo 29 (.bldS 1 1 [(.int .i64 (0))] [(0,(ci 0))]),om 5 29])
.skip))
(sR [om 30 5,om 4 30]
.ret)))))
theorem lR_:av_ Tryz.prog 65=some (31,[.tmp 4],bW_):=by kernel_rfl
def rl_:ad_:=(sR [oo 2 (.new (rtc rt0))]
(sR [om 3 0,oo 4 (.cvt .u8 (.t 3)),om 5 0,bC 6 .shr 5 (cu 8),oo 7 (.cvt .u8 (.t 6)),om 8 0,bC 9 .mul 8 (ci 7),oo 10 (.cvt .u8 (.t 9)),oo 11 (.bld (rtc rt0) [(0,1,(.t 4)),(1,1,(.t 7)),(31,1,(.t 10))]),sO 32 2 11]
.ret))
theorem BJ_:av_ Tryz.prog 16=some (12,[.cell 2 true 32],rl_):=by kernel_rfl
end Go.Proofs.YtkgimpdgncakjaaGreat
