/-
 My texts Kn, Ko, Ka, Kb, Kc, Ki, joined.
-/
import Derived.Test.YtkgimpdgncakjaaGreatW3
import Derived.Test.YtkgimpdgncakjaaGreatChecked
import Derived.KernelRfl
namespace Go.Proofs.YtkgimpdgncakjaaGreat
open Go Go.FH
set_option maxRecDepth 100000
set_option maxHeartbeats 200000
def qm_:ad_:=nfO (P:=Tryz.prog) 112
theorem BB_:ar_ Tryz.prog 112=some (9,[.tmp 2],qm_):=by kernel_rfl
def ls_:ad_:=nfO (P:=Tryz.prog) 121
theorem tw_:ar_ Tryz.prog 121=some (12,[.tmp 4,.tmp 5],ls_):=by kernel_rfl
def je_:ad_:=nfO (P:=Tryz.prog) 219
theorem qu_:ar_ Tryz.prog 219=some (51,[.tmp 4,.tmp 5],je_):=by kernel_rfl
def sx_:ad_:=nfO (P:=Tryz.prog) 184
theorem DA_:ar_ Tryz.prog 184=some (17,[.tmp 4,.tmp 5],sx_):=by kernel_rfl
def lu_:ad_:=nfO (P:=Tryz.prog) 117
theorem ty_:ar_ Tryz.prog 117=some (14,[.tmp 4,.tmp 5],lu_):=by kernel_rfl
def lt_:ad_:=nfO (P:=Tryz.prog) 39
theorem tx_:ar_ Tryz.prog 39=some (13,[.tmp 4],lt_):=by kernel_rfl
def mp_:ad_:=nfO (P:=Tryz.prog) 78
theorem vi_:ar_ Tryz.prog 78=some (6,[.tmp 2],mp_):=by kernel_rfl
def kZ_:ad_:=nfO (P:=Tryz.prog) 234
theorem tc_:ar_ Tryz.prog 234=some (8,[.tmp 4],kZ_):=by kernel_rfl
def lq_:ad_:=nfO (P:=Tryz.prog) 210
theorem tu_:ar_ Tryz.prog 210=some (8,[.tmp 4],lq_):=by kernel_rfl
def ir_:ad_:=nfO (P:=Tryz.prog) 233
theorem pi_:ar_ Tryz.prog 233=some (6,[.tmp 2],ir_):=by kernel_rfl
def gV_:ad_:=nfO (P:=Tryz.prog) 209
theorem mB_:ar_ Tryz.prog 209=some (20,[.tmp 4],gV_):=by kernel_rfl
def pU_:ad_:=nfO (P:=Tryz.prog) 208
theorem Bi_:ar_ Tryz.prog 208=some (18,[.tmp 2],pU_):=by kernel_rfl
def hE_:ad_:=nfO (P:=Tryz.prog) 168
theorem nK_:ar_ Tryz.prog 168=some (17,[.tmp 4],hE_):=by kernel_rfl
def ma_:ad_:=nfO (P:=Tryz.prog) 98
theorem uV_:ar_ Tryz.prog 98=some (10,[.tmp 4],ma_):=by kernel_rfl
def lT_:ad_:=nfO (P:=Tryz.prog) 167
theorem uO_:ar_ Tryz.prog 167=some (22,[.tmp 2,.tmp 3],lT_):=by kernel_rfl
def fi_:ad_:=nfO (P:=Tryz.prog) 96
theorem jG_:ar_ Tryz.prog 96=some (20,[.tmp 4],fi_):=by kernel_rfl
def dY_:ad_:=nfO (P:=Tryz.prog) 106
theorem hv_:ar_ Tryz.prog 106=some (8,[.tmp 2],dY_):=by kernel_rfl
def fX_:ad_:=nfO (P:=Tryz.prog) 165
theorem kL_:ar_ Tryz.prog 165=some (8,[.tmp 2],fX_):=by kernel_rfl
def dz_:ad_:=nfO (P:=Tryz.prog) 176
theorem gc_:ar_ Tryz.prog 176=some (8,[.tmp 2],dz_):=by kernel_rfl
def dy_:ad_:=nfO (P:=Tryz.prog) 177
theorem gb_:ar_ Tryz.prog 177=some (8,[.tmp 2],dy_):=by kernel_rfl
def do_:ad_:=nfO (P:=Tryz.prog) 109
theorem ft_:ar_ Tryz.prog 109=some (8,[.tmp 2],do_):=by kernel_rfl
def lX_:ad_:=nfO (P:=Tryz.prog) 100
theorem uS_:ar_ Tryz.prog 100=some (8,[.cell 2 true 34],lX_):=by kernel_rfl
def gW_:ad_:=nfO (P:=Tryz.prog) 93
theorem mC_:ar_ Tryz.prog 93=some (8,[.cell 2 true 67],gW_):=by kernel_rfl
def fC_:ad_:=nfO (P:=Tryz.prog) 178
theorem kl_:ar_ Tryz.prog 178=some (22,[.tmp 4],fC_):=by kernel_rfl
def dR_:ad_:=nfO (P:=Tryz.prog) 108
theorem hh_:ar_ Tryz.prog 108=some (22,[.tmp 4],dR_):=by kernel_rfl
def la_:ad_:=nfO (P:=Tryz.prog) 111
theorem td_:ar_ Tryz.prog 111=some (5,[.tmp 2],la_):=by kernel_rfl
def oo_:ad_:=nfO (P:=Tryz.prog) 110
theorem xG_:ar_ Tryz.prog 110=some (7,[.cell 2 true 1],oo_):=by kernel_rfl
def lY_:ad_:=nfO (P:=Tryz.prog) 107
theorem uT_:ar_ Tryz.prog 107=some (10,[.cell 2 true 2],lY_):=by kernel_rfl
def lW_:ad_:=nfO (P:=Tryz.prog) 38
theorem uR_:ar_ Tryz.prog 38=some (34,[.cell 2 true 150],lW_):=by kernel_rfl
def mn_:ad_:=nfO (P:=Tryz.prog) 243
theorem sD_:ar_ Tryz.prog 243=some (21,[.tmp 4],mn_):=by kernel_rfl
def ha_:ad_:=nfO (P:=Tryz.prog) 263
theorem jo_:ar_ Tryz.prog 263=some (12,[.tmp 4],ha_):=by kernel_rfl
def mm_:ad_:=nfO (P:=Tryz.prog) 260
theorem sC_:ar_ Tryz.prog 260=some (8,[.tmp 4],mm_):=by kernel_rfl
def mo_:ad_:=nfO (P:=Tryz.prog) 261
theorem sE_:ar_ Tryz.prog 261=some (11,[.tmp 4],mo_):=by kernel_rfl
def fV_:ad_:=nfO (P:=Tryz.prog) 262
theorem jp_:ar_ Tryz.prog 262=some (12,[.tmp 4],fV_):=by kernel_rfl
def ml_:ad_:=nfO (P:=Tryz.prog) 277
theorem vh_:ar_ Tryz.prog 277=some (23,[.cell 2 true 32],ml_):=by kernel_rfl
def fS_:ad_:=nfO (P:=Tryz.prog) 120
theorem kJ_:ar_ Tryz.prog 120=some (36,[.tmp 4],fS_):=by kernel_rfl
def hI_:ad_:=nfO (P:=Tryz.prog) 127
theorem nO_:ar_ Tryz.prog 127=some (42,[.tmp 4],hI_):=by kernel_rfl
def fj_:ad_:=nfO (P:=Tryz.prog) 239
theorem jI_:ar_ Tryz.prog 239=some (23,[.tmp 2,.tmp 3],fj_):=by kernel_rfl
def fW_:ad_:=(sR [wZ 2 67 0,wZ 3 67 1,wS 4 false]
(sR [fA 5 0 2,lF 6 1 5,fA 7 0 3,lF 8 1 7,bI 9 .eql 6 8,om 10 9,wB 11 1 2 10,wF 12 32 11 10,wB 13 1 3 10,wF 14 32 13 10,og 15 (.eqa [(32,1)] false (.t 12) (.t 14)) 10 true,wN 16 10 15,om 17 16,wB 18 33 2 17,wF 19 33 18 17,wB 20 33 3 17,wF 21 33 20 17,og 22 (.eqa [(33,1)] false (.t 19) (.t 21)) 17 true,wN 23 17 22,om 24 23,wB 25 66 2 24,wD 26 1 25 24,wB 27 66 3 24,wD 28 1 27 24,wY 29 50 26 28 24,wN 30 24 29,om 4 30]
.ret))
theorem kK_:ar_ Tryz.prog 53=some (31,[.tmp 4],fW_):=by kernel_rfl
def gp_:ad_:=nfO (P:=Tryz.prog) 240
theorem lE_:ar_ Tryz.prog 240=some (26,[.tmp 2,.tmp 3],gp_):=by kernel_rfl
def hH_:ad_:=nfO (P:=Tryz.prog) 244
theorem nN_:ar_ Tryz.prog 244=some (17,[.tmp 4],hH_):=by kernel_rfl
def ix_:ad_:=nfO (P:=Tryz.prog) 241
theorem pn_:ar_ Tryz.prog 241=some (38,[.tmp 2,.tmp 3],ix_):=by kernel_rfl
def hb_:ad_:=nfO (P:=Tryz.prog) 242
theorem mH_:ar_ Tryz.prog 242=some (23,[.tmp 2,.tmp 3],hb_):=by kernel_rfl
def kd_:ad_:=(sR [wZ 2 34 0,wZ 3 34 1,wS 4 false]
(sR [fA 5 0 2,lA 6 33 5,fA 7 0 3,lA 8 33 7,oo 9 (.eqa [(33,1)] false (.t 6) (.t 8)),om 10 9,wB 11 33 2 10,wD 12 1 11 10,wB 13 33 3 10,wD 14 1 13 10,wY 15 48 12 14 10,wN 16 10 15,om 4 16]
.ret))
theorem rE_:ar_ Tryz.prog 130=some (17,[.tmp 4],kd_):=by kernel_rfl
def qj_:ad_:=nfO (P:=Tryz.prog) 238
theorem By_:ar_ Tryz.prog 238=some (44,[.tmp 4],qj_):=by kernel_rfl
def su_:ad_:=nfO (P:=Tryz.prog) 264
theorem Dx_:ar_ Tryz.prog 264=some (40,[.tmp 4],su_):=by kernel_rfl
def ln_:ad_:=nfO (P:=Tryz.prog) 50
theorem tq_:ar_ Tryz.prog 50=some (26,[.tmp 4],ln_):=by kernel_rfl
def kD_:ad_:=nfO (P:=Tryz.prog) 265
theorem qA_:ar_ Tryz.prog 265=some (18,[.tmp 4],kD_):=by kernel_rfl
def kc_:ad_:=nfO (P:=Tryz.prog) 266
theorem rD_:ar_ Tryz.prog 266=some (31,[.tmp 4],kc_):=by kernel_rfl
def iy_:ad_:=nfO (P:=Tryz.prog) 48
theorem po_:ar_ Tryz.prog 48=some (26,[.tmp 4],iy_):=by kernel_rfl
def fD_:ad_:=nfO (P:=Tryz.prog) 94
theorem km_:ar_ Tryz.prog 94=some (51,[.tmp 4],fD_):=by kernel_rfl
def lo_:ad_:=nfO (P:=Tryz.prog) 26
theorem ts_:ar_ Tryz.prog 26=some (32,[.tmp 2],lo_):=by kernel_rfl
def ay_:ad_:=nfO (P:=Tryz.prog) 166
theorem rI_:ar_ Tryz.prog 166=some (58,[.tmp 4],ay_):=by kernel_rfl
def oF_:ad_:=nfO (P:=Tryz.prog) 91
theorem xZ_:ar_ Tryz.prog 91=some (44,[.tmp 4],oF_):=by kernel_rfl
def uA_:ad_:=nfO (P:=Tryz.prog) 27
theorem Gl_:ar_ Tryz.prog 27=some (18,[.tmp 4],uA_):=by kernel_rfl
def kX_:ad_:=nfO (P:=Tryz.prog) 24
theorem ta_:ar_ Tryz.prog 24=some (52,[.cell 4 true 70],kX_):=by kernel_rfl
def ck_:ad_:=nfO (P:=Tryz.prog) 65
theorem my_:ar_ Tryz.prog 65=some (31,[.tmp 4],ck_):=by kernel_rfl
def so_:ad_:=nfO (P:=Tryz.prog) 16
theorem Dr_:ar_ Tryz.prog 16=some (12,[.cell 2 true 32],so_):=by kernel_rfl
end Go.Proofs.YtkgimpdgncakjaaGreat
