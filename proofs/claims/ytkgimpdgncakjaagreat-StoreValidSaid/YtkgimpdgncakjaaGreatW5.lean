/-
 My texts Kj, Kd, Kp, Kq, joined.
-/
import Derived.Test.YtkgimpdgncakjaaGreatW3
import Derived.Test.YtkgimpdgncakjaaGreatChecked
import Derived.KernelRfl
namespace Go.Proofs.YtkgimpdgncakjaaGreat
open Go Go.FH
set_option maxRecDepth 100000
set_option maxHeartbeats 200000
def uz_:ad_:=nfO (P:=Tryz.prog) 143
theorem Gd_:as_ Tryz.prog 143=some (28,[.tmp 2,.tmp 3],uz_):=by kernel_rfl
def ux_:ad_:=nfO (P:=Tryz.prog) 193
theorem Gb_:as_ Tryz.prog 193=some (13,[.tmp 4,.tmp 5],ux_):=by kernel_rfl
def mo_:ad_:=nfO (P:=Tryz.prog) 188
theorem vd_:as_ Tryz.prog 188=some (14,[.tmp 4,.tmp 5],mo_):=by kernel_rfl
def oC_:ad_:=nfO (P:=Tryz.prog) 220
theorem xG_:as_ Tryz.prog 220=some (9,[.tmp 2],oC_):=by kernel_rfl
def uy_:ad_:=nfO (P:=Tryz.prog) 221
theorem Gc_:as_ Tryz.prog 221=some (17,[.tmp 4,.tmp 5],uy_):=by kernel_rfl
def lq_:ad_:=nfO (P:=Tryz.prog) 164
theorem ti_:as_ Tryz.prog 164=some (18,[.tmp 4],lq_):=by kernel_rfl
def mn_:ad_:=nfO (P:=Tryz.prog) 202
theorem vc_:as_ Tryz.prog 202=some (24,[.tmp 4],mn_):=by kernel_rfl
def hO_:ad_:=nfO (P:=Tryz.prog) 144
theorem nN_:as_ Tryz.prog 144=some (24,[.tmp 4],hO_):=by kernel_rfl
def hm_:ad_:=nfO (P:=Tryz.prog) 69
theorem mI_:as_ Tryz.prog 69=some (24,[.tmp 4],hm_):=by kernel_rfl
def kl_:ad_:=nfO (P:=Tryz.prog) 141
theorem rH_:as_ Tryz.prog 141=some (8,[.cell 2 true 34],kl_):=by kernel_rfl
def lw_:ad_:=nfO (P:=Tryz.prog) 101
theorem tp_:as_ Tryz.prog 101=some (32,[.tmp 8,.tmp 9],lw_):=by kernel_rfl
def jp_:ad_:=nfO (P:=Tryz.prog) 124
theorem qz_:as_ Tryz.prog 124=some (29,[.tmp 4],jp_):=by kernel_rfl
def sr_:ad_:=nfO (P:=Tryz.prog) 129
theorem Dx_:as_ Tryz.prog 129=some (51,[.tmp 8,.tmp 9],sr_):=by kernel_rfl
def oJ_:ad_:=nfO (P:=Tryz.prog) 95
theorem xO_:as_ Tryz.prog 95=some (28,[.tmp 4,.tmp 5],oJ_):=by kernel_rfl
def km_:ad_:=(sR [wZ 3 33 1,wR 4 0]
(.seq (sR [wR 5 0]
(.block 0 (.loop (.seq (sR [om 6 5,om 7 0,lN 8 7,bI 9 .lss 6 8]
(cN 9
.skip
(.exit 0)))
(.seq (.block 1 (.seq (.dreg [(om 12 0,0),(om 13 5,0),(iX 14 34 12 13,3),(fA 15 0 14,7),(lA 16 33 15,15),(lA 17 33 3,0),(oo 18 (.eqa [(33,1)] false (.t 16) (.t 17)),63)])
(cN 18
(sR [om 19 5,om 4 19]
.ret)
.skip)))
(.reg [om 10 5,bC 11 .add 10 (ci 1),om 5 11]))))))
(sR [wR 4 (-1)]
.ret)))
theorem rI_:as_ Tryz.prog 68=some (20,[.tmp 4],km_):=by kernel_rfl
def cc_:ad_:=nfO (P:=Tryz.prog) 171
theorem tn_:as_ Tryz.prog 171=some (35,[.tmp 4],cc_):=by kernel_rfl
def eZ_:ad_:=nfO (P:=Tryz.prog) 71
theorem jh_:as_ Tryz.prog 71=some (20,[.tmp 4],eZ_):=by kernel_rfl
def oK_:ad_:=nfO (P:=Tryz.prog) 92
theorem xP_:as_ Tryz.prog 92=some (52,[.tmp 6],oK_):=by kernel_rfl
def qa_:ad_:=nfO (P:=Tryz.prog) 23
theorem Be_:as_ Tryz.prog 23=some (23,[.tmp 4],qa_):=by kernel_rfl
def ge_:ad_:=nfO (P:=Tryz.prog) 189
theorem ig_:as_ Tryz.prog 189=some (23,[.tmp 4],ge_):=by kernel_rfl
def uv_:ad_:=nfO (P:=Tryz.prog) 187
theorem FZ_:as_ Tryz.prog 187=some (14,[.tmp 4],uv_):=by kernel_rfl
def uu_:ad_:=nfO (P:=Tryz.prog) 128
theorem FY_:as_ Tryz.prog 128=some (36,[.tmp 6],uu_):=by kernel_rfl
def sm_:ad_:=nfO (P:=Tryz.prog) 140
theorem Ds_:as_ Tryz.prog 140=some (10,[.cell 4 true 1],sm_):=by kernel_rfl
def or_:ad_:=nfO (P:=Tryz.prog) 250
theorem xu_:as_ Tryz.prog 250=some (76,[.cell 8 true 1,.tmp 9],or_):=by kernel_rfl
def os_:ad_:=nfO (P:=Tryz.prog) 125
theorem xv_:as_ Tryz.prog 125=some (60,[.cell 4 true 1,.tmp 5,.tmp 6],os_):=by kernel_rfl
def qb_:ad_:=nfO (P:=Tryz.prog) 155
theorem Bf_:as_ Tryz.prog 155=some (32,[.tmp 6],qb_):=by kernel_rfl
def mh_:ad_:=nfO (P:=Tryz.prog) 156
theorem uV_:as_ Tryz.prog 156=some (52,[.cell 6 true 1,.tmp 7],mh_):=by kernel_rfl
def kd_:ad_:=nfO (P:=Tryz.prog) 157
theorem rz_:as_ Tryz.prog 157=some (7,[.tmp 2],kd_):=by kernel_rfl
def ot_:ad_:=nfO (P:=Tryz.prog) 268
theorem xw_:as_ Tryz.prog 268=some (25,[.cell 4 true 1,.tmp 5],ot_):=by kernel_rfl
def ou_:ad_:=nfO (P:=Tryz.prog) 269
theorem xx_:as_ Tryz.prog 269=some (81,[.tmp 6,.tmp 7],ou_):=by kernel_rfl
def iD_:ad_:=nfO (P:=Tryz.prog) 186
theorem po_:as_ Tryz.prog 186=some (12,[.tmp 6],iD_):=by kernel_rfl
def lk_:ad_:=nfO (P:=Tryz.prog) 270
theorem tc_:as_ Tryz.prog 270=some (25,[.cell 4 true 1,.tmp 5],lk_):=by kernel_rfl
def me_:ad_:=nfO (P:=Tryz.prog) 272
theorem uS_:as_ Tryz.prog 272=some (40,[.tmp 4,.tmp 5],me_):=by kernel_rfl
def mg_:ad_:=nfO (P:=Tryz.prog) 28
theorem uU_:as_ Tryz.prog 28=some (40,[.tmp 6],mg_):=by kernel_rfl
def ll_:ad_:=nfO (P:=Tryz.prog) 273
theorem td_:as_ Tryz.prog 273=some (40,[.tmp 4],ll_):=by kernel_rfl
def lj_:ad_:=nfO (P:=Tryz.prog) 274
theorem tb_:as_ Tryz.prog 274=some (42,[.tmp 8],lj_):=by kernel_rfl
def kc_:ad_:=nfO (P:=Tryz.prog) 276
theorem ry_:as_ Tryz.prog 276=some (32,[.tmp 4],kc_):=by kernel_rfl
def hj_:ad_:=nfO (P:=Tryz.prog) 201
theorem mF_:as_ Tryz.prog 201=some (15,[.tmp 4],hj_):=by kernel_rfl
def kf_:ad_:=nfO (P:=Tryz.prog) 192
theorem rB_:as_ Tryz.prog 192=some (9,[.tmp 2],kf_):=by kernel_rfl
def sn_:ad_:=nfO (P:=Tryz.prog) 278
theorem Dt_:as_ Tryz.prog 278=some (44,[.cell 8 true 1,.tmp 9],sn_):=by kernel_rfl
def hN_:ad_:=nfO (P:=Tryz.prog) 279
theorem nM_:as_ Tryz.prog 279=some (23,[.tmp 4],hN_):=by kernel_rfl
def jo_:ad_:=nfO (P:=Tryz.prog) 174
theorem qx_:as_ Tryz.prog 174=some (64,[.tmp 2],jo_):=by kernel_rfl
def qm_:ad_:=nfO (P:=Tryz.prog) 213
theorem Br_:as_ Tryz.prog 213=some (67,[.tmp 2,.tmp 3],qm_):=by kernel_rfl
def oH_:ad_:=(sR [wZ 2 446 0,wZ 3 446 1,wS 4 false]
(sR [fA 5 0 2,lF 6 1 5,fA 7 0 3,lF 8 1 7,bI 9 .eql 6 8,om 10 9,wB 11 1 2 10,wF 12 238 11 10,wB 13 1 3 10,wF 14 238 13 10,og 15 (.eqa [(237,1),(1,0)] false (.t 12) (.t 14)) 10 true,wN 16 10 15,om 17 16,wB 18 239 2 17,wF 19 67 18 17,wB 20 239 3 17,wF 21 67 20 17,wY 22 53 19 21 17,wN 23 17 22,om 24 23,wB 25 306 2 24,wF 26 70 25 24,wB 27 306 3 24,wF 28 70 27 24,wY 29 244 26 28 24,wN 30 24 29,om 31 30,wB 32 376 2 31,wF 33 34 32 31,wB 34 376 3 31,wF 35 34 34 31,wY 36 130 33 35 31,wN 37 31 36,om 38 37,wB 39 410 2 38,wF 40 34 39 38,wB 41 410 3 38,wF 42 34 41 38,og 43 (.eqa [(34,1)] false (.t 40) (.t 42)) 38 true,wN 44 38 43,om 45 44,wB 46 444 2 45,wD 47 1 46 45,wB 48 444 3 45,wD 49 1 48 45,wJ 50 .eql 47 49 45,wN 51 45 50,om 52 51,wB 53 445 2 52,wD 54 1 53 52,wB 55 445 3 52,wD 56 1 55 52,wJ 57 .eql 54 56 52,wN 58 52 57,om 4 58]
.ret))
theorem xM_:as_ Tryz.prog 214=some (59,[.tmp 4],oH_):=by kernel_rfl
def di_:ad_:=nfO (P:=Tryz.prog) 151
theorem fb_:as_ Tryz.prog 151=some (19,[.tmp 4],di_):=by kernel_rfl
def bV_:ad_:=nfO (P:=Tryz.prog) 183
theorem cZ_:as_ Tryz.prog 183=some (19,[.tmp 4],bV_):=by kernel_rfl
def cW_:ad_:=nfO (P:=Tryz.prog) 80
theorem eD_:as_ Tryz.prog 80=some (19,[.tmp 4],cW_):=by kernel_rfl
def dj_:ad_:=nfO (P:=Tryz.prog) 191
theorem fc_:as_ Tryz.prog 191=some (19,[.tmp 4],dj_):=by kernel_rfl
def cN_:ad_:=nfO (P:=Tryz.prog) 137
theorem ev_:as_ Tryz.prog 137=some (9,[.tmp 4],cN_):=by kernel_rfl
def cE_:ad_:=nfO (P:=Tryz.prog) 180
theorem ee_:as_ Tryz.prog 180=some (9,[.tmp 4],cE_):=by kernel_rfl
def cO_:ad_:=nfO (P:=Tryz.prog) 135
theorem ew_:as_ Tryz.prog 135=some (9,[.tmp 4],cO_):=by kernel_rfl
def kb_:ad_:=nfO (P:=Tryz.prog) 82
theorem rx_:as_ Tryz.prog 82=some (9,[.tmp 4],kb_):=by kernel_rfl
def iA_:ad_:=nfO (P:=Tryz.prog) 152
theorem pk_:as_ Tryz.prog 152=some (9,[.tmp 3],iA_):=by kernel_rfl
def lW_:ad_:=nfO (P:=Tryz.prog) 185
theorem uK_:as_ Tryz.prog 185=some (14,[.tmp 4],lW_):=by kernel_rfl
def on_:ad_:=nfO (P:=Tryz.prog) 122
theorem xq_:as_ Tryz.prog 122=some (26,[.tmp 6],on_):=by kernel_rfl
def gz_:ad_:=nfO (P:=Tryz.prog) 182
theorem lI_:as_ Tryz.prog 182=some (29,[.tmp 6],gz_):=by kernel_rfl
def lf_:ad_:=nfO (P:=Tryz.prog) 131
theorem sX_:as_ Tryz.prog 131=some (10,[.cell 4 true 1],lf_):=by kernel_rfl
def li_:ad_:=nfO (P:=Tryz.prog) 116
theorem ta_:as_ Tryz.prog 116=some (68,[.cell 4 true 1,.tmp 5,.tmp 6],li_):=by kernel_rfl
def hg_:ad_:=nfO (P:=Tryz.prog) 190
theorem mC_:as_ Tryz.prog 190=some (9,[.tmp 2],hg_):=by kernel_rfl
def bP_:ad_:=nfO (P:=Tryz.prog) 114
theorem cQ_:as_ Tryz.prog 114=some (42,[.tmp 4],bP_):=by kernel_rfl
def bO_:ad_:=nfO (P:=Tryz.prog) 118
theorem cP_:as_ Tryz.prog 118=some (42,[.tmp 4],bO_):=by kernel_rfl
def iB_:ad_:=nfO (P:=Tryz.prog) 179
theorem pl_:as_ Tryz.prog 179=some (50,[.tmp 4,.tmp 5],iB_):=by kernel_rfl
def aP_:ad_:=nfO (P:=Tryz.prog) 113
theorem kp_:as_ Tryz.prog 113=some (94,[.cell 6 true 33,.cell 7 true 33,.tmp 8],aP_):=by kernel_rfl
def eY_:ad_:=(sR [wZ 2 34 0,wS 3 false]
(sR [fA 4 0 2,lA 5 33 4,lA 6 33 1,oo 7 (.eqa [(33,1)] false (.t 5) (.t 6)),om 3 7]
.ret))
theorem jg_:as_ Tryz.prog 181=some (8,[.tmp 3],eY_):=by kernel_rfl
def dA_:ad_:=(sR [wZ 3 150 0,wZ 4 33 1,wZ 5 33 2,oo 6 (.new (ak_ eW_))]
(sR [lA 13 150 3,kA 14 38 13,oo 7 (.new (ak_ eW_)),sO 150 7 14]
(sR [lA 16 150 3,lA 17 33 4,lA 18 33 5,kC 19 113 16 17 18,om 15 19,eX 20 0 15,eX 21 1 15,eX 22 2 15,oo 8 (.new (cpC cp0)),oo 9 (.new (cpC cp0)),sO 33 8 20,sO 33 9 21,om 10 22]
(.seq (sR [om 23 10,wO 24 23]
(cN 24
(sR [lA 25 150 7,sO 150 6 25]
.ret)
.skip))
(.seq (.dreg [(lA 26 33 8,0),(lA 27 33 9,0),(fA 28 47 7,1),(fA 29 0 28,5),(sO 33 29 26,13),(fA 30 47 7,31),(fA 31 33 30,63),(sO 33 31 27,127)])
(sR [fA 32 149 7,lF 33 1 32,oo 34 (.mkf (.func 115) [(.t 8)]),kB 35 114 33 34,fA 36 149 7,sO 1 36 35]
(.seq (sR [lA 37 33 9,fA 38 47 3,fA 39 33 38,lA 40 33 39,oo 41 (.eqa [(33,1)] false (.t 37) (.t 40))]
(cN 41
(sR [lA 42 150 7,sO 150 6 42]
.ret)
.skip))
(.seq (.dreg [(fA 44 115 3,0),(lA 45 1 44,1),(fA 46 115 3,0),(lA 47 1 46,4),(fA 48 1 9,0),(lA 49 32 48,16),(kB 50 82 47 49,60),(kB 51 116 45 50,127),(om 43 51,255),(eX 52 0 43,511),(eX 53 1 43,511),(eX 54 2 43,511),(fA 55 115 7,1023),(sO 1 55 52,5119)])
(.seq (sR [fA 56 115 7,lA 57 1 56,fA 58 117 7,lA 59 32 58,kB 60 82 57 59,bC 61 .lss 60 (ci 0)]
(cN 61
(.reg [oo 62 (.bld (rtc rt0) []),fA 63 117 7,sO 32 63 62])
.skip))
(sR [fA 65 0 9,lF 66 1 65,fA 67 0 3,fA 68 6 67,lF 69 1 68,kB 70 117 66 69,om 64 70,eX 71 0 64,eX 72 1 64,oo 11 (.new [(.int .u64 (0))]),sO 1 11 71,om 12 72]
(sR [fA 73 113 7,fA 74 1 73,lF 75 1 74,oo 76 (.mkf (.func 119) [(.t 11)]),kB 77 118 75 76,fA 78 113 7,fA 79 1 78,sO 1 79 77]
(sR [lA 80 150 7,sO 150 6 80]
.ret))))))))))))
theorem eC_:as_ Tryz.prog 41=some (81,[.cell 6 true 150],dA_):=by kernel_rfl
def gb_:ad_:=nfO (P:=Tryz.prog) 115
theorem kN_:as_ Tryz.prog 115=some (10,[.tmp 3],gb_):=by kernel_rfl
def gc_:ad_:=nfO (P:=Tryz.prog) 119
theorem kO_:as_ Tryz.prog 119=some (8,[.tmp 3],gc_):=by kernel_rfl
def gA_:ad_:=nfO (P:=Tryz.prog) 40
theorem lJ_:as_ Tryz.prog 40=some (56,[.cell 2 true 66],gA_):=by kernel_rfl
def ld_:ad_:=nfO (P:=Tryz.prog) 42
theorem sV_:as_ Tryz.prog 42=some (107,[.tmp 4,.tmp 5],ld_):=by kernel_rfl
def lY_:ad_:=nfO (P:=Tryz.prog) 43
theorem uM_:as_ Tryz.prog 43=some (49,[.cell 4 true 150],lY_):=by kernel_rfl
end Go.Proofs.YtkgimpdgncakjaaGreat
