/-
 My texts Kk, Kl, joined.
-/
import Derived.Test.YtkgimpdgncakjaaGreatW3
import Derived.Test.YtkgimpdgncakjaaGreatChecked
import Derived.KernelRfl
namespace Go.Proofs.YtkgimpdgncakjaaGreat
open Go Go.FH
set_option maxRecDepth 100000
set_option maxHeartbeats 200000
def so_:ad_:=nfO (P:=Tryz.prog) 66
theorem Du_:as_ Tryz.prog 66=some (126,[.cell 2 true 150,.tmp 3],so_):=by kernel_rfl
def mm_:ad_:=nfO (P:=Tryz.prog) 139
theorem vb_:as_ Tryz.prog 139=some (15,[.tmp 6],mm_):=by kernel_rfl
def qf_:ad_:=nfO (P:=Tryz.prog) 12
theorem Bj_:as_ Tryz.prog 12=some (82,[.cell 2 true 150,.tmp 3],qf_):=by kernel_rfl
def ba_:ad_:=nfO (P:=Tryz.prog) 21
theorem xy_:as_ Tryz.prog 21=some (108,[.cell 4 true 150,.tmp 5,.tmp 6],ba_):=by kernel_rfl
def mi_:ad_:=nfO (P:=Tryz.prog) 33
theorem uW_:as_ Tryz.prog 33=some (47,[.cell 4 true 150,.tmp 5],mi_):=by kernel_rfl
def ow_:ad_:=nfO (P:=Tryz.prog) 34
theorem xA_:as_ Tryz.prog 34=some (33,[.cell 4 true 150,.tmp 5],ow_):=by kernel_rfl
def kh_:ad_:=nfO (P:=Tryz.prog) 36
theorem rD_:as_ Tryz.prog 36=some (46,[.cell 4 true 150,.tmp 5],kh_):=by kernel_rfl
def qd_:ad_:=nfO (P:=Tryz.prog) 236
theorem Bh_:as_ Tryz.prog 236=some (28,[.tmp 2],qd_):=by kernel_rfl
def lm_:ad_:=nfO (P:=Tryz.prog) 44
theorem te_:as_ Tryz.prog 44=some (61,[.cell 2 true 66],lm_):=by kernel_rfl
def bd_:ad_:=(sR [wZ 3 150 0,wZ 4 33 1,wZ 5 33 2,oo 6 (.new (ak_ eW_))]
(sR [lA 16 150 3,lA 17 33 4,lA 18 33 5,kC 19 123 16 17 18,om 15 19,eX 20 0 15,eX 21 1 15,eX 22 2 15,oo 7 (.new (cpC cp0)),oo 8 (.new (cpC cp0)),sO 33 7 20,sO 33 8 21,om 9 22]
(.seq (sR [om 23 9,wO 24 23]
(cN 24
(sR [lA 25 150 3,sO 150 6 25]
.ret)
.skip))
(sR [fA 26 149 3,lF 27 1 26,fA 28 0 7,lF 29 1 28,kB 30 124 27 29,fA 31 149 3,sO 1 31 30]
(sR [lA 32 33 8,fA 33 47 3,fA 34 33 33,lA 35 33 34,oo 36 (.eqa [(33,1)] true (.t 32) (.t 35)),om 10 36]
(.seq (.dreg [(lA 37 33 7,0),(lA 38 33 8,0),(fA 39 47 3,1),(fA 40 0 39,5),(sO 33 40 37,13),(fA 41 47 3,31),(fA 42 33 41,63),(sO 33 42 38,127)])
(.seq (sR [om 43 10,wO 44 43]
(cN 44
(sR [lA 45 150 3,sO 150 6 45]
.ret)
.skip))
(.seq (.dreg [(fA 47 115 3,0),(lA 48 1 47,1),(fA 49 115 3,0),(lA 50 1 49,4),(fA 51 1 8,0),(lA 52 32 51,16),(kB 53 23 50 52,60),(kB 54 125 48 53,127),(om 46 54,255),(eX 55 0 46,511),(eX 56 1 46,511),(eX 57 2 46,511),(fA 58 115 3,1023),(sO 1 58 55,5119)])
(.seq (sR [fA 59 115 3,lA 60 1 59,fA 61 117 3,lA 62 32 61,kB 63 23 60 62,bC 64 .lss 63 (ci 0)]
(cN 64
(.reg [oo 65 (.bld (rtc rt0) []),fA 66 117 3,sO 32 66 65])
.skip))
(sR [lA 68 150 3,fA 69 0 8,lF 70 1 69,kB 71 126 68 70,om 67 71,eX 72 0 67,eX 73 1 67,om 11 72,om 12 73]
(sR [oo 13 (.mv (.c (.sl 0 true [])))]
(.seq (sR [wR 14 0]
(.block 0 (.loop (.seq (sR [om 74 14,fA 75 113 3,fA 76 1 75,lF 77 1 76,lN 78 77,bI 79 .lss 74 78]
(cN 79
.skip
(.exit 0)))
(.seq (.block 1 (sR [fA 82 113 3,fA 83 1 82,lF 84 1 83,om 85 14,iX 86 238 84 85,fA 87 66 86,lF 88 1 87,om 89 11,bI 90 .gtr 88 89]
(cN 90
(.reg [om 91 13,fA 92 113 3,fA 93 1 92,lF 94 1 93,om 95 14,iX 96 238 94 95,lA 97 238 96,oo 98 (.bldS 238 1 (ap_ cF_) [(0,(.t 97))]),oo 99 (.app 238 336 (.t 91) (.t 98)),om 13 99])
.skip)))
(.reg [om 80 14,bC 81 .add 80 (ci 1),om 14 81]))))))
(sR [om 100 13,fA 101 113 3,fA 102 1 101,sO 1 102 100]
(sR [lA 103 150 3,sO 150 6 103]
.ret))))))))))))))
theorem uZ_:as_ Tryz.prog 45=some (104,[.cell 6 true 150],bd_):=by kernel_rfl
def aL_:ad_:=nfO (P:=Tryz.prog) 46
theorem jM_:as_ Tryz.prog 46=some (99,[.tmp 4,.tmp 5],aL_):=by kernel_rfl
def iE_:ad_:=nfO (P:=Tryz.prog) 47
theorem mG_:as_ Tryz.prog 47=some (22,[.cell 4 true 150],iE_):=by kernel_rfl
def iF_:ad_:=nfO (P:=Tryz.prog) 84
theorem pp_:as_ Tryz.prog 84=some (96,[.tmp 4],iF_):=by kernel_rfl
def ml_:ad_:=nfO (P:=Tryz.prog) 85
theorem va_:as_ Tryz.prog 85=some (39,[.cell 4 true 150],ml_):=by kernel_rfl
def lp_:ad_:=nfO (P:=Tryz.prog) 86
theorem th_:as_ Tryz.prog 86=some (24,[.tmp 2],lp_):=by kernel_rfl
def iG_:ad_:=nfO (P:=Tryz.prog) 70
theorem pq_:as_ Tryz.prog 70=some (7,[.tmp 2],iG_):=by kernel_rfl
def ln_:ad_:=nfO (P:=Tryz.prog) 257
theorem tf_:as_ Tryz.prog 257=some (39,[.tmp 2],ln_):=by kernel_rfl
def qe_:ad_:=nfO (P:=Tryz.prog) 258
theorem Bi_:as_ Tryz.prog 258=some (20,[.tmp 2],qe_):=by kernel_rfl
def mj_:ad_:=nfO (P:=Tryz.prog) 259
theorem uX_:as_ Tryz.prog 259=some (76,[.tmp 8],mj_):=by kernel_rfl
def bp_:ad_:=nfO (P:=Tryz.prog) 123
theorem qu_:as_ Tryz.prog 123=some (118,[.cell 6 true 33,.cell 7 true 33,.tmp 8],bp_):=by kernel_rfl
def oA_:ad_:=nfO (P:=Tryz.prog) 126
theorem xE_:as_ Tryz.prog 126=some (19,[.tmp 4,.tmp 5],oA_):=by kernel_rfl
def oy_:ad_:=nfO (P:=Tryz.prog) 73
theorem xC_:as_ Tryz.prog 73=some (10,[.tmp 4],oy_):=by kernel_rfl
def ov_:ad_:=nfO (P:=Tryz.prog) 153
theorem xz_:as_ Tryz.prog 153=some (28,[.tmp 4],ov_):=by kernel_rfl
def qc_:ad_:=nfO (P:=Tryz.prog) 154
theorem Bg_:as_ Tryz.prog 154=some (88,[.tmp 4],qc_):=by kernel_rfl
def kg_:ad_:=nfO (P:=Tryz.prog) 29
theorem rC_:as_ Tryz.prog 29=some (18,[.tmp 2],kg_):=by kernel_rfl
def qg_:ad_:=nfO (P:=Tryz.prog) 275
theorem Bk_:as_ Tryz.prog 275=some (26,[.tmp 4],qg_):=by kernel_rfl
def ox_:ad_:=nfO (P:=Tryz.prog) 74
theorem xB_:as_ Tryz.prog 74=some (29,[.tmp 6],ox_):=by kernel_rfl
def lo_:ad_:=nfO (P:=Tryz.prog) 145
theorem tg_:as_ Tryz.prog 145=some (49,[.tmp 4],lo_):=by kernel_rfl
def jn_:ad_:=nfO (P:=Tryz.prog) 280
theorem qv_:as_ Tryz.prog 280=some (54,[.tmp 4],jn_):=by kernel_rfl
def uw_:ad_:=nfO (P:=Tryz.prog) 281
theorem Ga_:as_ Tryz.prog 281=some (15,[.tmp 4],uw_):=by kernel_rfl
def mk_:ad_:=nfO (P:=Tryz.prog) 282
theorem uY_:as_ Tryz.prog 282=some (34,[.cell 4 true 33],mk_):=by kernel_rfl
def oD_:ad_:=nfO (P:=Tryz.prog) 102
theorem xH_:as_ Tryz.prog 102=some (26,[.cell 2 true 252,.tmp 3,.tmp 4],oD_):=by kernel_rfl
def qk_:ad_:=nfO (P:=Tryz.prog) 105
theorem Bp_:as_ Tryz.prog 105=some (42,[.cell 4 true 252,.tmp 5,.tmp 6],qk_):=by kernel_rfl
def gf_:ad_:=(sR [wZ 1 252 0,oo 2 (.new (aI_ lO_)),oo 3 (.mv (.c (.sl 0 true [])))]
(sR [fA 5 0 1,lA 6 150 5,kA 7 212 6,oo 4 (.new (db_ rs_)),sO 96 4 7]
(.seq (sR [fA 8 153 1,lF 9 1 8,om 10 9,wB 11 154 1 10,wF 12 96 11 10,wF 13 96 4 10,og 14 (.eqa [(96,1)] false (.t 12) (.t 13)) 10 true,wN 15 10 14]
(cN 15
(sR [lA 16 252 1,sO 252 2 16,oo 3 (.mv (.c (.sl 0 true [])))]
.ret)
.skip))
(.seq (.dreg [(lA 17 96 4,0),(fA 18 153 1,0),(on (.sto 1 (.t 18) (cb true)),2),(fA 19 154 1,7),(sO 96 19 17,15)])
(.seq (.dreg [(lA 20 252 1,0),(lA 21 96 4,0),(oo 22 (.bldS 96 1 (db_ rs_) [(0,(.t 21))]),2),(sO 252 2 20,1),(om 3 22,15)])
.ret)))))
theorem Bm_:as_ Tryz.prog 172=some (23,[.cell 2 true 252,.tmp 3],gf_):=by kernel_rfl
def ls_:ad_:=nfO (P:=Tryz.prog) 175
theorem tk_:as_ Tryz.prog 175=some (87,[.cell 4 true 252,.tmp 5],ls_):=by kernel_rfl
def lr_:ad_:=nfO (P:=Tryz.prog) 212
theorem tj_:as_ Tryz.prog 212=some (19,[.cell 2 true 96],lr_):=by kernel_rfl
def sp_:ad_:=nfO (P:=Tryz.prog) 215
theorem Dv_:as_ Tryz.prog 215=some (52,[.cell 2 true 252],sp_):=by kernel_rfl
def qh_:ad_:=nfO (P:=Tryz.prog) 216
theorem Bl_:as_ Tryz.prog 216=some (14,[.cell 2 true 252],qh_):=by kernel_rfl
def qi_:ad_:=nfO (P:=Tryz.prog) 217
theorem Bn_:as_ Tryz.prog 217=some (25,[.cell 4 true 252],qi_):=by kernel_rfl
def lt_:ad_:=nfO (P:=Tryz.prog) 218
theorem tl_:as_ Tryz.prog 218=some (95,[.cell 4 true 252,.tmp 5],lt_):=by kernel_rfl
def qj_:ad_:=nfO (P:=Tryz.prog) 237
theorem Bo_:as_ Tryz.prog 237=some (28,[.cell 2 true 32],qj_):=by kernel_rfl
def iH_:ad_:=nfO (P:=Tryz.prog) 245
theorem pr_:as_ Tryz.prog 245=some (24,[.tmp 4],iH_):=by kernel_rfl
def kJ_:ad_:=nfO (P:=Tryz.prog) 246
theorem qw_:as_ Tryz.prog 246=some (26,[.cell 6 true 252],kJ_):=by kernel_rfl
def oG_:ad_:=nfO (P:=Tryz.prog) 247
theorem xL_:as_ Tryz.prog 247=some (31,[.tmp 4],oG_):=by kernel_rfl
def oF_:ad_:=nfO (P:=Tryz.prog) 248
theorem xK_:as_ Tryz.prog 248=some (48,[.cell 4 true 35,.cell 5 true 252,.tmp 6],oF_):=by kernel_rfl
def bI_:ad_:=nfO (P:=Tryz.prog) 249
theorem xJ_:as_ Tryz.prog 249=some (117,[.cell 4 true 252],bI_):=by kernel_rfl
def oE_:ad_:=nfO (P:=Tryz.prog) 267
theorem xI_:as_ Tryz.prog 267=some (23,[.tmp 4],oE_):=by kernel_rfl
def pX_:ad_:=nfO (P:=Tryz.prog) 10
theorem Bb_:as_ Tryz.prog 10=some (13,[.cell 2 true 252],pX_):=by kernel_rfl
def pW_:ad_:=nfO (P:=Tryz.prog) 17
theorem Ba_:as_ Tryz.prog 17=some (234,[.cell 6 true 238],pW_):=by kernel_rfl
def fy_:ad_:=nfO (P:=Tryz.prog) 18
theorem iN_:as_ Tryz.prog 18=some (104,[.cell 4 true 67],fy_):=by kernel_rfl
def pY_:ad_:=nfO (P:=Tryz.prog) 31
theorem Bc_:as_ Tryz.prog 31=some (73,[.cell 4 true 34],pY_):=by kernel_rfl
def lZ_:ad_:=nfO (P:=Tryz.prog) 173
theorem uN_:as_ Tryz.prog 173=some (106,[.cell 4 true 34],lZ_):=by kernel_rfl
def ut_:ad_:=nfO (P:=Tryz.prog) 37
theorem FX_:as_ Tryz.prog 37=some (59,[.cell 2 true 45,.tmp 3,.cell 4 true 252],ut_):=by kernel_rfl
def yW_:ad_:=nfO (P:=Tryz.prog) 63
theorem JC_:as_ Tryz.prog 63=some (32,[.cell 6 true 33],yW_):=by kernel_rfl
def sl_:ad_:=nfO (P:=Tryz.prog) 64
theorem Dr_:as_ Tryz.prog 64=some (38,[.cell 2 true 4],sl_):=by kernel_rfl
def oo_:ad_:=nfO (P:=Tryz.prog) 55
theorem xr_:as_ Tryz.prog 55=some (67,[.cell 2 true 45],oo_):=by kernel_rfl
def yU_:ad_:=nfO (P:=Tryz.prog) 103
theorem JA_:as_ Tryz.prog 103=some (23,[.tmp 4],yU_):=by kernel_rfl
def yV_:ad_:=nfO (P:=Tryz.prog) 104
theorem JB_:as_ Tryz.prog 104=some (59,[.cell 6 true 446],yV_):=by kernel_rfl
end Go.Proofs.YtkgimpdgncakjaaGreat
