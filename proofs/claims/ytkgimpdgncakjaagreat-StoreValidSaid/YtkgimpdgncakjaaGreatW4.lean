/-
 My texts Ka, Kb, Kc, Ki, Kn, Ko, joined.
-/
import Derived.Test.YtkgimpdgncakjaaGreatW3
import Derived.Test.YtkgimpdgncakjaaGreatChecked
import Derived.KernelRfl
namespace Go.Proofs.YtkgimpdgncakjaaGreat
open Go Go.FH
set_option maxRecDepth 100000
set_option maxHeartbeats 200000
def mr_:ad_:=nfO (P:=Tryz.prog) 243
theorem sz_:as_ Tryz.prog 243=some (21,[.tmp 4],mr_):=by kernel_rfl
def hk_:ad_:=nfO (P:=Tryz.prog) 263
theorem ju_:as_ Tryz.prog 263=some (12,[.tmp 4],hk_):=by kernel_rfl
def mq_:ad_:=nfO (P:=Tryz.prog) 260
theorem sy_:as_ Tryz.prog 260=some (8,[.tmp 4],mq_):=by kernel_rfl
def ms_:ad_:=nfO (P:=Tryz.prog) 261
theorem sA_:as_ Tryz.prog 261=some (11,[.tmp 4],ms_):=by kernel_rfl
def gg_:ad_:=nfO (P:=Tryz.prog) 262
theorem jv_:as_ Tryz.prog 262=some (12,[.tmp 4],gg_):=by kernel_rfl
def mp_:ad_:=nfO (P:=Tryz.prog) 277
theorem ve_:as_ Tryz.prog 277=some (23,[.cell 2 true 32],mp_):=by kernel_rfl
def gd_:ad_:=nfO (P:=Tryz.prog) 120
theorem kP_:as_ Tryz.prog 120=some (36,[.tmp 4],gd_):=by kernel_rfl
def hQ_:ad_:=nfO (P:=Tryz.prog) 127
theorem nP_:as_ Tryz.prog 127=some (42,[.tmp 4],hQ_):=by kernel_rfl
def fn_:ad_:=nfO (P:=Tryz.prog) 239
theorem jN_:as_ Tryz.prog 239=some (23,[.tmp 2,.tmp 3],fn_):=by kernel_rfl
def gh_:ad_:=(sR [wZ 2 67 0,wZ 3 67 1,wS 4 false]
(sR [fA 5 0 2,lF 6 1 5,fA 7 0 3,lF 8 1 7,bI 9 .eql 6 8,om 10 9,wB 11 1 2 10,wF 12 32 11 10,wB 13 1 3 10,wF 14 32 13 10,og 15 (.eqa [(32,1)] false (.t 12) (.t 14)) 10 true,wN 16 10 15,om 17 16,wB 18 33 2 17,wF 19 33 18 17,wB 20 33 3 17,wF 21 33 20 17,og 22 (.eqa [(33,1)] false (.t 19) (.t 21)) 17 true,wN 23 17 22,om 24 23,wB 25 66 2 24,wD 26 1 25 24,wB 27 66 3 24,wD 28 1 27 24,wY 29 50 26 28 24,wN 30 24 29,om 4 30]
.ret))
theorem kQ_:as_ Tryz.prog 53=some (31,[.tmp 4],gh_):=by kernel_rfl
def gB_:ad_:=nfO (P:=Tryz.prog) 240
theorem lK_:as_ Tryz.prog 240=some (26,[.tmp 2,.tmp 3],gB_):=by kernel_rfl
def hP_:ad_:=nfO (P:=Tryz.prog) 244
theorem nO_:as_ Tryz.prog 244=some (17,[.tmp 4],hP_):=by kernel_rfl
def iI_:ad_:=nfO (P:=Tryz.prog) 241
theorem ps_:as_ Tryz.prog 241=some (38,[.tmp 2,.tmp 3],iI_):=by kernel_rfl
def hl_:ad_:=nfO (P:=Tryz.prog) 242
theorem mH_:as_ Tryz.prog 242=some (23,[.tmp 2,.tmp 3],hl_):=by kernel_rfl
def kk_:ad_:=(sR [wZ 2 34 0,wZ 3 34 1,wS 4 false]
(sR [fA 5 0 2,lA 6 33 5,fA 7 0 3,lA 8 33 7,oo 9 (.eqa [(33,1)] false (.t 6) (.t 8)),om 10 9,wB 11 33 2 10,wD 12 1 11 10,wB 13 33 3 10,wD 14 1 13 10,wY 15 48 12 14 10,wN 16 10 15,om 4 16]
.ret))
theorem rG_:as_ Tryz.prog 130=some (17,[.tmp 4],kk_):=by kernel_rfl
def ql_:ad_:=nfO (P:=Tryz.prog) 238
theorem Bq_:as_ Tryz.prog 238=some (44,[.tmp 4],ql_):=by kernel_rfl
def sq_:ad_:=nfO (P:=Tryz.prog) 264
theorem Dw_:as_ Tryz.prog 264=some (40,[.tmp 4],sq_):=by kernel_rfl
def lu_:ad_:=nfO (P:=Tryz.prog) 50
theorem tm_:as_ Tryz.prog 50=some (26,[.tmp 4],lu_):=by kernel_rfl
def kK_:ad_:=nfO (P:=Tryz.prog) 265
theorem qy_:as_ Tryz.prog 265=some (18,[.tmp 4],kK_):=by kernel_rfl
def kj_:ad_:=nfO (P:=Tryz.prog) 266
theorem rF_:as_ Tryz.prog 266=some (31,[.tmp 4],kj_):=by kernel_rfl
def iJ_:ad_:=nfO (P:=Tryz.prog) 48
theorem pt_:as_ Tryz.prog 48=some (26,[.tmp 4],iJ_):=by kernel_rfl
def fN_:ad_:=nfO (P:=Tryz.prog) 94
theorem kr_:as_ Tryz.prog 94=some (51,[.tmp 4],fN_):=by kernel_rfl
def lv_:ad_:=nfO (P:=Tryz.prog) 26
theorem to_:as_ Tryz.prog 26=some (32,[.tmp 2],lv_):=by kernel_rfl
def ay_:ad_:=nfO (P:=Tryz.prog) 166
theorem rJ_:as_ Tryz.prog 166=some (58,[.tmp 4],ay_):=by kernel_rfl
def oI_:ad_:=nfO (P:=Tryz.prog) 91
theorem xN_:as_ Tryz.prog 91=some (44,[.tmp 4],oI_):=by kernel_rfl
def uA_:ad_:=nfO (P:=Tryz.prog) 27
theorem Ge_:as_ Tryz.prog 27=some (18,[.tmp 4],uA_):=by kernel_rfl
def le_:ad_:=nfO (P:=Tryz.prog) 24
theorem sW_:as_ Tryz.prog 24=some (52,[.cell 4 true 70],le_):=by kernel_rfl
def cr_:ad_:=nfO (P:=Tryz.prog) 65
theorem mA_:as_ Tryz.prog 65=some (31,[.tmp 4],cr_):=by kernel_rfl
def sk_:ad_:=nfO (P:=Tryz.prog) 16
theorem Dq_:as_ Tryz.prog 16=some (12,[.cell 2 true 32],sk_):=by kernel_rfl
def qo_:ad_:=nfO (P:=Tryz.prog) 112
theorem Bt_:as_ Tryz.prog 112=some (9,[.tmp 2],qo_):=by kernel_rfl
def ly_:ad_:=nfO (P:=Tryz.prog) 121
theorem tr_:as_ Tryz.prog 121=some (12,[.tmp 4,.tmp 5],ly_):=by kernel_rfl
def jm_:ad_:=nfO (P:=Tryz.prog) 219
theorem qt_:as_ Tryz.prog 219=some (51,[.tmp 4,.tmp 5],jm_):=by kernel_rfl
def st_:ad_:=nfO (P:=Tryz.prog) 184
theorem Dz_:as_ Tryz.prog 184=some (17,[.tmp 4,.tmp 5],st_):=by kernel_rfl
def lA_:ad_:=nfO (P:=Tryz.prog) 117
theorem tt_:as_ Tryz.prog 117=some (14,[.tmp 4,.tmp 5],lA_):=by kernel_rfl
def lz_:ad_:=nfO (P:=Tryz.prog) 39
theorem ts_:as_ Tryz.prog 39=some (13,[.tmp 4],lz_):=by kernel_rfl
def mt_:ad_:=nfO (P:=Tryz.prog) 78
theorem vf_:as_ Tryz.prog 78=some (6,[.tmp 2],mt_):=by kernel_rfl
def lg_:ad_:=nfO (P:=Tryz.prog) 234
theorem sY_:as_ Tryz.prog 234=some (8,[.tmp 4],lg_):=by kernel_rfl
def lx_:ad_:=nfO (P:=Tryz.prog) 210
theorem tq_:as_ Tryz.prog 210=some (8,[.tmp 4],lx_):=by kernel_rfl
def iC_:ad_:=nfO (P:=Tryz.prog) 233
theorem pm_:as_ Tryz.prog 233=some (6,[.tmp 2],iC_):=by kernel_rfl
def hh_:ad_:=nfO (P:=Tryz.prog) 209
theorem mD_:as_ Tryz.prog 209=some (20,[.tmp 4],hh_):=by kernel_rfl
def pZ_:ad_:=nfO (P:=Tryz.prog) 208
theorem Bd_:as_ Tryz.prog 208=some (18,[.tmp 2],pZ_):=by kernel_rfl
def hM_:ad_:=nfO (P:=Tryz.prog) 168
theorem nL_:as_ Tryz.prog 168=some (17,[.tmp 4],hM_):=by kernel_rfl
def md_:ad_:=nfO (P:=Tryz.prog) 98
theorem uR_:as_ Tryz.prog 98=some (10,[.tmp 4],md_):=by kernel_rfl
def lX_:ad_:=nfO (P:=Tryz.prog) 167
theorem uL_:as_ Tryz.prog 167=some (22,[.tmp 2,.tmp 3],lX_):=by kernel_rfl
def fm_:ad_:=nfO (P:=Tryz.prog) 96
theorem jL_:as_ Tryz.prog 96=some (20,[.tmp 4],fm_):=by kernel_rfl
def ed_:ad_:=nfO (P:=Tryz.prog) 106
theorem hH_:as_ Tryz.prog 106=some (8,[.tmp 2],ed_):=by kernel_rfl
def gi_:ad_:=nfO (P:=Tryz.prog) 165
theorem kR_:as_ Tryz.prog 165=some (8,[.tmp 2],gi_):=by kernel_rfl
def dC_:ad_:=nfO (P:=Tryz.prog) 176
theorem go_:as_ Tryz.prog 176=some (8,[.tmp 2],dC_):=by kernel_rfl
def dB_:ad_:=nfO (P:=Tryz.prog) 177
theorem gn_:as_ Tryz.prog 177=some (8,[.tmp 2],dB_):=by kernel_rfl
def dt_:ad_:=nfO (P:=Tryz.prog) 109
theorem fA_:as_ Tryz.prog 109=some (8,[.tmp 2],dt_):=by kernel_rfl
def mb_:ad_:=nfO (P:=Tryz.prog) 100
theorem uP_:as_ Tryz.prog 100=some (8,[.cell 2 true 34],mb_):=by kernel_rfl
def hi_:ad_:=nfO (P:=Tryz.prog) 93
theorem mE_:as_ Tryz.prog 93=some (8,[.cell 2 true 67],hi_):=by kernel_rfl
def fM_:ad_:=nfO (P:=Tryz.prog) 178
theorem kq_:as_ Tryz.prog 178=some (22,[.tmp 4],fM_):=by kernel_rfl
def dW_:ad_:=nfO (P:=Tryz.prog) 108
theorem hs_:as_ Tryz.prog 108=some (22,[.tmp 4],dW_):=by kernel_rfl
def lh_:ad_:=nfO (P:=Tryz.prog) 111
theorem sZ_:as_ Tryz.prog 111=some (5,[.tmp 2],lh_):=by kernel_rfl
def op_:ad_:=nfO (P:=Tryz.prog) 110
theorem xs_:as_ Tryz.prog 110=some (7,[.cell 2 true 1],op_):=by kernel_rfl
def mc_:ad_:=nfO (P:=Tryz.prog) 107
theorem uQ_:as_ Tryz.prog 107=some (10,[.cell 2 true 2],mc_):=by kernel_rfl
def ma_:ad_:=nfO (P:=Tryz.prog) 38
theorem uO_:as_ Tryz.prog 38=some (34,[.cell 2 true 150],ma_):=by kernel_rfl
end Go.Proofs.YtkgimpdgncakjaaGreat
