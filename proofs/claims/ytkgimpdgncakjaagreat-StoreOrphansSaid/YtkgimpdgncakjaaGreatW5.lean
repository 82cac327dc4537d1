/-
 My texts Kp, Kj, Kq, Kd, joined.
-/
import Derived.Test.YtkgimpdgncakjaaGreatW3
import Derived.Test.YtkgimpdgncakjaaGreatChecked
import Derived.KernelRfl
namespace Go.Proofs.YtkgimpdgncakjaaGreat
open Go Go.FH
set_option maxRecDepth 100000
set_option maxHeartbeats 200000
def db_:ad_:=nfO (P:=Tryz.prog) 151
theorem eY_:ar_ Tryz.prog 151=some (19,[.tmp 4],db_):=by kernel_rfl
def bT_:ad_:=nfO (P:=Tryz.prog) 183
theorem cS_:ar_ Tryz.prog 183=some (19,[.tmp 4],bT_):=by kernel_rfl
def bs_:ad_:=nfO (P:=Tryz.prog) 80
theorem bU_:ar_ Tryz.prog 80=some (19,[.tmp 4],bs_):=by kernel_rfl
def dc_:ad_:=nfO (P:=Tryz.prog) 191
theorem eZ_:ar_ Tryz.prog 191=some (19,[.tmp 4],dc_):=by kernel_rfl
def cI_:ad_:=nfO (P:=Tryz.prog) 137
theorem eq_:ar_ Tryz.prog 137=some (9,[.tmp 4],cI_):=by kernel_rfl
def cy_:ad_:=nfO (P:=Tryz.prog) 180
theorem ea_:ar_ Tryz.prog 180=some (9,[.tmp 4],cy_):=by kernel_rfl
def cx_:ad_:=nfO (P:=Tryz.prog) 194
theorem dZ_:ar_ Tryz.prog 194=some (9,[.tmp 4],cx_):=by kernel_rfl
def cJ_:ad_:=nfO (P:=Tryz.prog) 135
theorem er_:ar_ Tryz.prog 135=some (9,[.tmp 4],cJ_):=by kernel_rfl
def jW_:ad_:=nfO (P:=Tryz.prog) 82
theorem rx_:ar_ Tryz.prog 82=some (9,[.tmp 4],jW_):=by kernel_rfl
def in_:ad_:=nfO (P:=Tryz.prog) 152
theorem pe_:ar_ Tryz.prog 152=some (9,[.tmp 3],in_):=by kernel_rfl
def lS_:ad_:=nfO (P:=Tryz.prog) 185
theorem uN_:ar_ Tryz.prog 185=some (14,[.tmp 4],lS_):=by kernel_rfl
def om_:ad_:=nfO (P:=Tryz.prog) 122
theorem xE_:ar_ Tryz.prog 122=some (26,[.tmp 6],om_):=by kernel_rfl
def gm_:ad_:=nfO (P:=Tryz.prog) 182
theorem lB_:ar_ Tryz.prog 182=some (29,[.tmp 6],gm_):=by kernel_rfl
def kY_:ad_:=nfO (P:=Tryz.prog) 131
theorem tb_:ar_ Tryz.prog 131=some (10,[.cell 4 true 1],kY_):=by kernel_rfl
def lb_:ad_:=nfO (P:=Tryz.prog) 116
theorem te_:ar_ Tryz.prog 116=some (68,[.cell 4 true 1,.tmp 5,.tmp 6],lb_):=by kernel_rfl
def io_:ad_:=nfO (P:=Tryz.prog) 149
theorem pf_:ar_ Tryz.prog 149=some (52,[.cell 6 true 1,.tmp 7],io_):=by kernel_rfl
def dG_:ad_:=nfO (P:=Tryz.prog) 200
theorem gl_:ar_ Tryz.prog 200=some (9,[.tmp 2],dG_):=by kernel_rfl
def gU_:ad_:=nfO (P:=Tryz.prog) 190
theorem mA_:ar_ Tryz.prog 190=some (9,[.tmp 2],gU_):=by kernel_rfl
def lZ_:ad_:=nfO (P:=Tryz.prog) 150
theorem uU_:ar_ Tryz.prog 150=some (6,[.tmp 2],lZ_):=by kernel_rfl
def gY_:ad_:=nfO (P:=Tryz.prog) 198
theorem mE_:ar_ Tryz.prog 198=some (14,[.tmp 4],gY_):=by kernel_rfl
def pV_:ad_:=nfO (P:=Tryz.prog) 148
theorem Bj_:ar_ Tryz.prog 148=some (31,[.tmp 6],pV_):=by kernel_rfl
def mr_:ad_:=nfO (P:=Tryz.prog) 199
theorem vk_:ar_ Tryz.prog 199=some (26,[.tmp 4],mr_):=by kernel_rfl
def uz_:ad_:=nfO (P:=Tryz.prog) 143
theorem Gk_:ar_ Tryz.prog 143=some (28,[.tmp 2,.tmp 3],uz_):=by kernel_rfl
def ux_:ad_:=nfO (P:=Tryz.prog) 193
theorem Gi_:ar_ Tryz.prog 193=some (13,[.tmp 4,.tmp 5],ux_):=by kernel_rfl
def mk_:ad_:=nfO (P:=Tryz.prog) 188
theorem vg_:ar_ Tryz.prog 188=some (14,[.tmp 4,.tmp 5],mk_):=by kernel_rfl
def oz_:ad_:=nfO (P:=Tryz.prog) 220
theorem xS_:ar_ Tryz.prog 220=some (9,[.tmp 2],oz_):=by kernel_rfl
def uy_:ad_:=nfO (P:=Tryz.prog) 221
theorem Gj_:ar_ Tryz.prog 221=some (17,[.tmp 4,.tmp 5],uy_):=by kernel_rfl
def lj_:ad_:=nfO (P:=Tryz.prog) 164
theorem tm_:ar_ Tryz.prog 164=some (18,[.tmp 4],lj_):=by kernel_rfl
def mj_:ad_:=nfO (P:=Tryz.prog) 202
theorem vf_:ar_ Tryz.prog 202=some (24,[.tmp 4],mj_):=by kernel_rfl
def hG_:ad_:=nfO (P:=Tryz.prog) 144
theorem nM_:ar_ Tryz.prog 144=some (24,[.tmp 4],hG_):=by kernel_rfl
def hc_:ad_:=nfO (P:=Tryz.prog) 69
theorem mI_:ar_ Tryz.prog 69=some (24,[.tmp 4],hc_):=by kernel_rfl
def ke_:ad_:=nfO (P:=Tryz.prog) 141
theorem rF_:ar_ Tryz.prog 141=some (8,[.cell 2 true 34],ke_):=by kernel_rfl
def lp_:ad_:=nfO (P:=Tryz.prog) 101
theorem tt_:ar_ Tryz.prog 101=some (32,[.tmp 8,.tmp 9],lp_):=by kernel_rfl
def ji_:ad_:=nfO (P:=Tryz.prog) 124
theorem qB_:ar_ Tryz.prog 124=some (29,[.tmp 4],ji_):=by kernel_rfl
def sv_:ad_:=nfO (P:=Tryz.prog) 129
theorem Dy_:ar_ Tryz.prog 129=some (51,[.tmp 8,.tmp 9],sv_):=by kernel_rfl
def oG_:ad_:=nfO (P:=Tryz.prog) 95
theorem ya_:ar_ Tryz.prog 95=some (28,[.tmp 4,.tmp 5],oG_):=by kernel_rfl
def kf_:ad_:=(sR [wZ 3 33 1,wR 4 0]
(.seq (sR [wR 5 0]
(.block 0 (.loop (.seq (sR [om 6 5,om 7 0,lN 8 7,bI 9 .lss 6 8]
(cN 9
.skip
(.exit 0)))
(.seq (.block 1 (.seq (.dreg [(om 12 0,0),(om 13 5,0),(iX 14 34 12 13,3),(fA 15 0 14,7),(lA 16 33 15,15),(lA 17 33 3,0),(oo 18 (.eqa [(33,1)] false (.t 16) (.t 17)),63)])
(cN 18
(sR [om 19 5,om 4 19]
.ret)
.skip)))
(.reg [om 10 5,bC 11 .add 10 (ci 1),om 5 11]))))))
(sR [wR 4 (-1)]
.ret)))
theorem rG_:ar_ Tryz.prog 68=some (20,[.tmp 4],kf_):=by kernel_rfl
def bZ_:ad_:=nfO (P:=Tryz.prog) 171
theorem tr_:ar_ Tryz.prog 171=some (35,[.tmp 4],bZ_):=by kernel_rfl
def eW_:ad_:=nfO (P:=Tryz.prog) 71
theorem iZ_:ar_ Tryz.prog 71=some (20,[.tmp 4],eW_):=by kernel_rfl
def oH_:ad_:=nfO (P:=Tryz.prog) 92
theorem yb_:ar_ Tryz.prog 92=some (52,[.tmp 6],oH_):=by kernel_rfl
def pW_:ad_:=nfO (P:=Tryz.prog) 23
theorem Bk_:ar_ Tryz.prog 23=some (23,[.tmp 4],pW_):=by kernel_rfl
def fT_:ad_:=nfO (P:=Tryz.prog) 189
theorem hT_:ar_ Tryz.prog 189=some (23,[.tmp 4],fT_):=by kernel_rfl
def uv_:ad_:=nfO (P:=Tryz.prog) 187
theorem Gg_:ar_ Tryz.prog 187=some (14,[.tmp 4],uv_):=by kernel_rfl
def uu_:ad_:=nfO (P:=Tryz.prog) 128
theorem Gf_:ar_ Tryz.prog 128=some (36,[.tmp 6],uu_):=by kernel_rfl
def sq_:ad_:=nfO (P:=Tryz.prog) 140
theorem Dt_:ar_ Tryz.prog 140=some (10,[.cell 4 true 1],sq_):=by kernel_rfl
def oq_:ad_:=nfO (P:=Tryz.prog) 250
theorem xI_:ar_ Tryz.prog 250=some (76,[.cell 8 true 1,.tmp 9],oq_):=by kernel_rfl
def or_:ad_:=nfO (P:=Tryz.prog) 125
theorem xJ_:ar_ Tryz.prog 125=some (60,[.cell 4 true 1,.tmp 5,.tmp 6],or_):=by kernel_rfl
def pX_:ad_:=nfO (P:=Tryz.prog) 155
theorem Bl_:ar_ Tryz.prog 155=some (32,[.tmp 6],pX_):=by kernel_rfl
def md_:ad_:=nfO (P:=Tryz.prog) 156
theorem uY_:ar_ Tryz.prog 156=some (52,[.cell 6 true 1,.tmp 7],md_):=by kernel_rfl
def jY_:ad_:=nfO (P:=Tryz.prog) 157
theorem rz_:ar_ Tryz.prog 157=some (7,[.tmp 2],jY_):=by kernel_rfl
def os_:ad_:=nfO (P:=Tryz.prog) 268
theorem xK_:ar_ Tryz.prog 268=some (25,[.cell 4 true 1,.tmp 5],os_):=by kernel_rfl
def ot_:ad_:=nfO (P:=Tryz.prog) 269
theorem xL_:ar_ Tryz.prog 269=some (81,[.tmp 6,.tmp 7],ot_):=by kernel_rfl
def is_:ad_:=nfO (P:=Tryz.prog) 186
theorem pj_:ar_ Tryz.prog 186=some (12,[.tmp 6],is_):=by kernel_rfl
def ld_:ad_:=nfO (P:=Tryz.prog) 270
theorem tg_:ar_ Tryz.prog 270=some (25,[.cell 4 true 1,.tmp 5],ld_):=by kernel_rfl
def mb_:ad_:=nfO (P:=Tryz.prog) 272
theorem uW_:ar_ Tryz.prog 272=some (40,[.tmp 4,.tmp 5],mb_):=by kernel_rfl
def mc_:ad_:=nfO (P:=Tryz.prog) 28
theorem uX_:ar_ Tryz.prog 28=some (40,[.tmp 6],mc_):=by kernel_rfl
def le_:ad_:=nfO (P:=Tryz.prog) 273
theorem th_:ar_ Tryz.prog 273=some (40,[.tmp 4],le_):=by kernel_rfl
def lc_:ad_:=nfO (P:=Tryz.prog) 274
theorem tf_:ar_ Tryz.prog 274=some (42,[.tmp 8],lc_):=by kernel_rfl
def jX_:ad_:=nfO (P:=Tryz.prog) 276
theorem ry_:ar_ Tryz.prog 276=some (32,[.tmp 4],jX_):=by kernel_rfl
def gZ_:ad_:=nfO (P:=Tryz.prog) 201
theorem mF_:ar_ Tryz.prog 201=some (15,[.tmp 4],gZ_):=by kernel_rfl
def jZ_:ad_:=nfO (P:=Tryz.prog) 192
theorem rA_:ar_ Tryz.prog 192=some (9,[.tmp 2],jZ_):=by kernel_rfl
def sr_:ad_:=nfO (P:=Tryz.prog) 278
theorem Du_:ar_ Tryz.prog 278=some (44,[.cell 8 true 1,.tmp 9],sr_):=by kernel_rfl
def hF_:ad_:=nfO (P:=Tryz.prog) 279
theorem nL_:ar_ Tryz.prog 279=some (23,[.tmp 4],hF_):=by kernel_rfl
def bN_:ad_:=nfO (P:=Tryz.prog) 114
theorem cL_:ar_ Tryz.prog 114=some (42,[.tmp 4],bN_):=by kernel_rfl
def bM_:ad_:=nfO (P:=Tryz.prog) 118
theorem cK_:ar_ Tryz.prog 118=some (42,[.tmp 4],bM_):=by kernel_rfl
def go_:ad_:=nfO (P:=Tryz.prog) 196
theorem lD_:ar_ Tryz.prog 196=some (62,[.tmp 4],go_):=by kernel_rfl
def ip_:ad_:=nfO (P:=Tryz.prog) 147
theorem pg_:ar_ Tryz.prog 147=some (53,[.tmp 4],ip_):=by kernel_rfl
def hC_:ad_:=nfO (P:=Tryz.prog) 197
theorem nI_:ar_ Tryz.prog 197=some (52,[.tmp 8],hC_):=by kernel_rfl
def iq_:ad_:=nfO (P:=Tryz.prog) 179
theorem ph_:ar_ Tryz.prog 179=some (50,[.tmp 4,.tmp 5],iq_):=by kernel_rfl
def aR_:ad_:=nfO (P:=Tryz.prog) 113
theorem kk_:ar_ Tryz.prog 113=some (94,[.cell 6 true 33,.cell 7 true 33,.tmp 8],aR_):=by kernel_rfl
def eV_:ad_:=(sR [wZ 2 34 0,wS 3 false]
(sR [fA 4 0 2,lA 5 33 4,lA 6 33 1,oo 7 (.eqa [(33,1)] false (.t 5) (.t 6)),om 3 7]
.ret))
theorem iY_:ar_ Tryz.prog 181=some (8,[.tmp 3],eV_):=by kernel_rfl
def dx_:ad_:=(sR [wZ 3 150 0,wZ 4 33 1,wZ 5 33 2,oo 6 (.new (aj_ eS_))]
(sR [lA 13 150 3,kA 14 38 13,oo 7 (.new (aj_ eS_)),sO 150 7 14]
(sR [lA 16 150 3,lA 17 33 4,lA 18 33 5,kC 19 113 16 17 18,om 15 19,eX 20 0 15,eX 21 1 15,eX 22 2 15,oo 8 (.new (cpC cp0)),oo 9 (.new (cpC cp0)),sO 33 8 20,sO 33 9 21,om 10 22]
(.seq (sR [om 23 10,wO 24 23]
(cN 24
(sR [lA 25 150 7,sO 150 6 25]
.ret)
.skip))
(.seq (.dreg [(lA 26 33 8,0),(lA 27 33 9,0),(fA 28 47 7,1),(fA 29 0 28,5),(sO 33 29 26,13),(fA 30 47 7,31),(fA 31 33 30,63),(sO 33 31 27,127)])
(sR [fA 32 149 7,lF 33 1 32,oo 34 (.mkf (.func 115) [(.t 8)]),kB 35 114 33 34,fA 36 149 7,sO 1 36 35]
(.seq (sR [lA 37 33 9,fA 38 47 3,fA 39 33 38,lA 40 33 39,oo 41 (.eqa [(33,1)] false (.t 37) (.t 40))]
(cN 41
(sR [lA 42 150 7,sO 150 6 42]
.ret)
.skip))
(.seq (.dreg [(fA 44 115 3,0),(lA 45 1 44,1),(fA 46 115 3,0),(lA 47 1 46,4),(fA 48 1 9,0),(lA 49 32 48,16),(kB 50 82 47 49,60),(kB 51 116 45 50,127),(om 43 51,255),(eX 52 0 43,511),(eX 53 1 43,511),(eX 54 2 43,511),(fA 55 115 7,1023),(sO 1 55 52,5119)])
(.seq (sR [fA 56 115 7,lA 57 1 56,fA 58 117 7,lA 59 32 58,kB 60 82 57 59,bC 61 .lss 60 (ci 0)]
(cN 61
(.reg [oo 62 (.bld (rtc rt0) []),fA 63 117 7,sO 32 63 62])
.skip))
(sR [fA 65 0 9,lF 66 1 65,fA 67 0 3,fA 68 6 67,lF 69 1 68,kB 70 117 66 69,om 64 70,eX 71 0 64,eX 72 1 64,oo 11 (.new [(.int .u64 (0))]),sO 1 11 71,om 12 72]
(sR [fA 73 113 7,fA 74 1 73,lF 75 1 74,oo 76 (.mkf (.func 119) [(.t 11)]),kB 77 118 75 76,fA 78 113 7,fA 79 1 78,sO 1 79 77]
(sR [lA 80 150 7,sO 150 6 80]
.ret))))))))))))
theorem ex_:ar_ Tryz.prog 41=some (81,[.cell 6 true 150],dx_):=by kernel_rfl
def fQ_:ad_:=nfO (P:=Tryz.prog) 115
theorem kH_:ar_ Tryz.prog 115=some (10,[.tmp 3],fQ_):=by kernel_rfl
def fR_:ad_:=nfO (P:=Tryz.prog) 119
theorem kI_:ar_ Tryz.prog 119=some (8,[.tmp 3],fR_):=by kernel_rfl
def gn_:ad_:=nfO (P:=Tryz.prog) 40
theorem lC_:ar_ Tryz.prog 40=some (56,[.cell 2 true 66],gn_):=by kernel_rfl
def kW_:ad_:=nfO (P:=Tryz.prog) 42
theorem sZ_:ar_ Tryz.prog 42=some (107,[.tmp 4,.tmp 5],kW_):=by kernel_rfl
def lU_:ad_:=nfO (P:=Tryz.prog) 43
theorem uP_:ar_ Tryz.prog 43=some (49,[.cell 4 true 150],lU_):=by kernel_rfl
def jd_:ad_:=nfO (P:=Tryz.prog) 146
theorem qt_:ar_ Tryz.prog 146=some (17,[.tmp 4],jd_):=by kernel_rfl
def hB_:ad_:=nfO (P:=Tryz.prog) 195
theorem nH_:ar_ Tryz.prog 195=some (8,[.tmp 3],hB_):=by kernel_rfl
def jc_:ad_:=nfO (P:=Tryz.prog) 77
theorem qs_:ar_ Tryz.prog 77=some (88,[.tmp 4],jc_):=by kernel_rfl
def jh_:ad_:=nfO (P:=Tryz.prog) 174
theorem qz_:ar_ Tryz.prog 174=some (64,[.tmp 2],jh_):=by kernel_rfl
def qk_:ad_:=nfO (P:=Tryz.prog) 213
theorem Bz_:ar_ Tryz.prog 213=some (67,[.tmp 2,.tmp 3],qk_):=by kernel_rfl
def oE_:ad_:=(sR [wZ 2 446 0,wZ 3 446 1,wS 4 false]
(sR [fA 5 0 2,lF 6 1 5,fA 7 0 3,lF 8 1 7,bI 9 .eql 6 8,om 10 9,wB 11 1 2 10,wF 12 238 11 10,wB 13 1 3 10,wF 14 238 13 10,og 15 (.eqa [(237,1),(1,0)] false (.t 12) (.t 14)) 10 true,wN 16 10 15,om 17 16,wB 18 239 2 17,wF 19 67 18 17,wB 20 239 3 17,wF 21 67 20 17,wY 22 53 19 21 17,wN 23 17 22,om 24 23,wB 25 306 2 24,wF 26 70 25 24,wB 27 306 3 24,wF 28 70 27 24,wY 29 244 26 28 24,wN 30 24 29,om 31 30,wB 32 376 2 31,wF 33 34 32 31,wB 34 376 3 31,wF 35 34 34 31,wY 36 130 33 35 31,wN 37 31 36,om 38 37,wB 39 410 2 38,wF 40 34 39 38,wB 41 410 3 38,wF 42 34 41 38,og 43 (.eqa [(34,1)] false (.t 40) (.t 42)) 38 true,wN 44 38 43,om 45 44,wB 46 444 2 45,wD 47 1 46 45,wB 48 444 3 45,wD 49 1 48 45,wJ 50 .eql 47 49 45,wN 51 45 50,om 52 51,wB 53 445 2 52,wD 54 1 53 52,wB 55 445 3 52,wD 56 1 55 52,wJ 57 .eql 54 56 52,wN 58 52 57,om 4 58]
.ret))
theorem xY_:ar_ Tryz.prog 214=some (59,[.tmp 4],oE_):=by kernel_rfl
end Go.Proofs.YtkgimpdgncakjaaGreat
