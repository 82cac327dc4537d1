/-
 My texts Kn, Ko, Ka, Kb, Kc, Ki, joined.
-/
import Derived.Test.YtkgimpdgncakjaaW3
import Derived.Test.YtkgimpdgncakjaaChecked
import Derived.KernelRfl
namespace Go.Proofs.Ytkgimpdgncakjaa
open Go Go.FH
set_option maxRecDepth 100000
set_option maxHeartbeats 200000
def ko_:ah_:=nfO (P:=Try.prog) 50
theorem rD_:aK_ Try.prog 50=some (9,[.tmp 2],ko_):=by kernel_rfl
def hq_:ah_:=nfO (P:=Try.prog) 60
theorem mg_:aK_ Try.prog 60=some (12,[.tmp 4,.tmp 5],hq_):=by kernel_rfl
def gb_:ah_:=nfO (P:=Try.prog) 89
theorem kv_:aK_ Try.prog 89=some (51,[.tmp 4,.tmp 5],gb_):=by kernel_rfl
def lJ_:ah_:=nfO (P:=Try.prog) 83
theorem td_:aK_ Try.prog 83=some (17,[.tmp 4,.tmp 5],lJ_):=by kernel_rfl
def hs_:ah_:=nfO (P:=Try.prog) 56
theorem mi_:aK_ Try.prog 56=some (14,[.tmp 4,.tmp 5],hs_):=by kernel_rfl
def hr_:ah_:=nfO (P:=Try.prog) 27
theorem mh_:aK_ Try.prog 27=some (13,[.tmp 4],hr_):=by kernel_rfl
def hO_:ah_:=nfO (P:=Try.prog) 39
theorem nm_:aK_ Try.prog 39=some (6,[.tmp 2],hO_):=by kernel_rfl
def hl_:ah_:=nfO (P:=Try.prog) 94
theorem mb_:aK_ Try.prog 94=some (8,[.tmp 4],hl_):=by kernel_rfl
def hp_:ah_:=nfO (P:=Try.prog) 92
theorem mf_:aK_ Try.prog 92=some (8,[.tmp 4],hp_):=by kernel_rfl
def fC_:ah_:=nfO (P:=Try.prog) 93
theorem jM_:aK_ Try.prog 93=some (6,[.tmp 2],fC_):=by kernel_rfl
def eD_:ah_:=nfO (P:=Try.prog) 91
theorem hW_:aK_ Try.prog 91=some (20,[.tmp 4],eD_):=by kernel_rfl
def kk_:ah_:=nfO (P:=Try.prog) 90
theorem rz_:aK_ Try.prog 90=some (18,[.tmp 2],kk_):=by kernel_rfl
def eZ_:ah_:=nfO (P:=Try.prog) 87
theorem iO_:aK_ Try.prog 87=some (17,[.tmp 4],eZ_):=by kernel_rfl
def hM_:ah_:=nfO (P:=Try.prog) 64
theorem nk_:aK_ Try.prog 64=some (10,[.tmp 4],hM_):=by kernel_rfl
def hH_:ah_:=nfO (P:=Try.prog) 69
theorem nf_:aK_ Try.prog 69=some (22,[.tmp 2,.tmp 3],hH_):=by kernel_rfl
def dv_:ah_:=nfO (P:=Try.prog) 40
theorem gq_:aK_ Try.prog 40=some (20,[.tmp 4],dv_):=by kernel_rfl
def cD_:ah_:=nfO (P:=Try.prog) 41
theorem eX_:aK_ Try.prog 41=some (8,[.tmp 2],cD_):=by kernel_rfl
def dX_:ah_:=nfO (P:=Try.prog) 71
theorem hc_:aK_ Try.prog 71=some (8,[.tmp 2],dX_):=by kernel_rfl
def cj_:ah_:=nfO (P:=Try.prog) 70
theorem ec_:aK_ Try.prog 70=some (8,[.tmp 2],cj_):=by kernel_rfl
def ci_:ah_:=nfO (P:=Try.prog) 72
theorem eb_:aK_ Try.prog 72=some (8,[.tmp 2],ci_):=by kernel_rfl
def ca_:ah_:=nfO (P:=Try.prog) 45
theorem dH_:aK_ Try.prog 45=some (8,[.tmp 2],ca_):=by kernel_rfl
def hK_:ah_:=nfO (P:=Try.prog) 74
theorem ni_:aK_ Try.prog 74=some (8,[.cell 2 true 34],hK_):=by kernel_rfl
def eE_:ah_:=nfO (P:=Try.prog) 44
theorem hX_:aK_ Try.prog 44=some (8,[.cell 2 true 67],eE_):=by kernel_rfl
def dM_:ah_:=nfO (P:=Try.prog) 73
theorem gH_:aK_ Try.prog 73=some (22,[.tmp 4],dM_):=by kernel_rfl
def cx_:ah_:=nfO (P:=Try.prog) 43
theorem eK_:aK_ Try.prog 43=some (22,[.tmp 4],cx_):=by kernel_rfl
def hm_:ah_:=nfO (P:=Try.prog) 47
theorem mc_:aK_ Try.prog 47=some (5,[.tmp 2],hm_):=by kernel_rfl
def jq_:ah_:=nfO (P:=Try.prog) 46
theorem pm_:aK_ Try.prog 46=some (7,[.cell 2 true 1],jq_):=by kernel_rfl
def hL_:ah_:=nfO (P:=Try.prog) 42
theorem nj_:aK_ Try.prog 42=some (10,[.cell 2 true 2],hL_):=by kernel_rfl
def hJ_:ah_:=nfO (P:=Try.prog) 14
theorem nh_:aK_ Try.prog 14=some (34,[.cell 2 true 150],hJ_):=by kernel_rfl
def dV_:ah_:=nfO (P:=Try.prog) 59
theorem ha_:aK_ Try.prog 59=some (36,[.tmp 4],dV_):=by kernel_rfl
def dW_:ah_:=(sR [wZ 2 67 0,wZ 3 67 1,wS 4 false]
(sR [fA 5 0 2,lF 6 1 5,fA 7 0 3,lF 8 1 7,bI 9 .eql 6 8,om 10 9,wB 11 1 2 10,wF 12 32 11 10,wB 13 1 3 10,wF 14 32 13 10,og 15 (.eqa [(32,1)] false (.t 12) (.t 14)) 10 true,wN 16 10 15,om 17 16,wB 18 33 2 17,wF 19 33 18 17,wB 20 33 3 17,wF 21 33 20 17,og 22 (.eqa [(33,1)] false (.t 19) (.t 21)) 17 true,wN 23 17 22,om 24 23,wB 25 66 2 24,wD 26 1 25 24,wB 27 66 3 24,wD 28 1 27 24,wY 29 21 26 28 24,wN 30 24 29,om 4 30]
.ret))
theorem hb_:aK_ Try.prog 24=some (31,[.tmp 4],dW_):=by kernel_rfl
def gB_:ah_:=(sR [wZ 2 34 0,wZ 3 34 1,wS 4 false]
(sR [fA 5 0 2,lA 6 33 5,fA 7 0 3,lA 8 33 7,oo 9 (.eqa [(33,1)] false (.t 6) (.t 8)),om 10 9,wB 11 33 2 10,wD 12 1 11 10,wB 13 33 3 10,wD 14 1 13 10,wY 15 19 12 14 10,wN 16 10 15,om 4 16]
.ret))
theorem lc_:aK_ Try.prog 49=some (17,[.tmp 4],gB_):=by kernel_rfl
def ho_:ah_:=nfO (P:=Try.prog) 21
theorem me_:aK_ Try.prog 21=some (26,[.tmp 4],ho_):=by kernel_rfl
def fD_:ah_:=nfO (P:=Try.prog) 19
theorem jN_:aK_ Try.prog 19=some (26,[.tmp 4],fD_):=by kernel_rfl
def lF_:ah_:=nfO (P:=Try.prog) 26
theorem sZ_:aK_ Try.prog 26=some (12,[.cell 2 true 32],lF_):=by kernel_rfl
end Go.Proofs.Ytkgimpdgncakjaa
