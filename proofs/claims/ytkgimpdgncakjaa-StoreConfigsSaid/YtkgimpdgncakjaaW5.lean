/-
 My texts Kp, Kj, Kq, Kd, joined.
-/
import Derived.Test.YtkgimpdgncakjaaW3
import Derived.Test.YtkgimpdgncakjaaChecked
import Derived.KernelRfl
namespace Go.Proofs.Ytkgimpdgncakjaa
open Go Go.FH
set_option maxRecDepth 100000
set_option maxHeartbeats 200000
def bQ_:ah_:=nfO (P:=Try.prog) 81
theorem dn_:aK_ Try.prog 81=some (19,[.tmp 4],bQ_):=by kernel_rfl
def ba_:ah_:=nfO (P:=Try.prog) 80
theorem bJ_:aK_ Try.prog 80=some (19,[.tmp 4],ba_):=by kernel_rfl
def bG_:ah_:=nfO (P:=Try.prog) 84
theorem cY_:aK_ Try.prog 84=some (19,[.tmp 4],bG_):=by kernel_rfl
def bR_:ah_:=nfO (P:=Try.prog) 88
theorem do_:aK_ Try.prog 88=some (19,[.tmp 4],bR_):=by kernel_rfl
def by_:ah_:=nfO (P:=Try.prog) 67
theorem cP_:aK_ Try.prog 67=some (9,[.tmp 4],by_):=by kernel_rfl
def bs_:ah_:=nfO (P:=Try.prog) 77
theorem cE_:aK_ Try.prog 77=some (9,[.tmp 4],bs_):=by kernel_rfl
def bz_:ah_:=nfO (P:=Try.prog) 65
theorem cQ_:aK_ Try.prog 65=some (9,[.tmp 4],bz_):=by kernel_rfl
def gz_:ah_:=nfO (P:=Try.prog) 55
theorem la_:aK_ Try.prog 55=some (9,[.tmp 4],gz_):=by kernel_rfl
def fA_:ah_:=nfO (P:=Try.prog) 82
theorem jK_:aK_ Try.prog 82=some (9,[.tmp 3],fA_):=by kernel_rfl
def hG_:ah_:=nfO (P:=Try.prog) 85
theorem ne_:aK_ Try.prog 85=some (14,[.tmp 4],hG_):=by kernel_rfl
def jo_:ah_:=nfO (P:=Try.prog) 61
theorem pk_:aK_ Try.prog 61=some (26,[.tmp 6],jo_):=by kernel_rfl
def ei_:ah_:=nfO (P:=Try.prog) 79
theorem hx_:aK_ Try.prog 79=some (29,[.tmp 6],ei_):=by kernel_rfl
def hk_:ah_:=nfO (P:=Try.prog) 13
theorem ma_:aK_ Try.prog 13=some (10,[.cell 4 true 1],hk_):=by kernel_rfl
def hn_:ah_:=nfO (P:=Try.prog) 54
theorem md_:aK_ Try.prog 54=some (68,[.cell 4 true 1,.tmp 5,.tmp 6],hn_):=by kernel_rfl
def eC_:ah_:=nfO (P:=Try.prog) 86
theorem hV_:aK_ Try.prog 86=some (9,[.tmp 2],eC_):=by kernel_rfl
def mY_:ah_:=nfO (P:=Try.prog) 48
theorem vd_:aK_ Try.prog 48=some (28,[.tmp 2,.tmp 3],mY_):=by kernel_rfl
def mX_:ah_:=nfO (P:=Try.prog) 75
theorem vc_:aK_ Try.prog 75=some (13,[.tmp 4,.tmp 5],mX_):=by kernel_rfl
def eF_:ah_:=nfO (P:=Try.prog) 16
theorem hZ_:aK_ Try.prog 16=some (24,[.tmp 4],eF_):=by kernel_rfl
def gC_:ah_:=nfO (P:=Try.prog) 18
theorem ld_:aK_ Try.prog 18=some (8,[.cell 2 true 34],gC_):=by kernel_rfl
def lG_:ah_:=nfO (P:=Try.prog) 17
theorem ta_:aK_ Try.prog 17=some (10,[.cell 4 true 1],lG_):=by kernel_rfl
def aZ_:ah_:=nfO (P:=Try.prog) 52
theorem bB_:aK_ Try.prog 52=some (42,[.tmp 4],aZ_):=by kernel_rfl
def aY_:ah_:=nfO (P:=Try.prog) 57
theorem bA_:aK_ Try.prog 57=some (42,[.tmp 4],aY_):=by kernel_rfl
def fB_:ah_:=nfO (P:=Try.prog) 76
theorem jL_:aK_ Try.prog 76=some (50,[.tmp 4,.tmp 5],fB_):=by kernel_rfl
def az_:ah_:=nfO (P:=Try.prog) 51
theorem gG_:aK_ Try.prog 51=some (94,[.cell 6 true 33,.cell 7 true 33,.tmp 8],az_):=by kernel_rfl
def dl_:ah_:=(sR [wZ 2 34 0,wS 3 false]
(sR [fA 4 0 2,lA 5 33 4,lA 6 33 1,oo 7 (.eqa [(33,1)] false (.t 5) (.t 6)),om 3 7]
.ret))
theorem fW_:aK_ Try.prog 78=some (8,[.tmp 3],dl_):=by kernel_rfl
def ch_:ah_:=(sR [wZ 3 150 0,wZ 4 33 1,wZ 5 33 2,oo 6 (.new (ak_ kQ_))]
(sR [lA 13 150 3,kA 14 14 13,oo 7 (.new (ak_ kQ_)),sO 150 7 14]
(sR [lA 16 150 3,lA 17 33 4,lA 18 33 5,kC 19 51 16 17 18,om 15 19,eX 20 0 15,eX 21 1 15,eX 22 2 15,oo 8 (.new (cpC cp0)),oo 9 (.new (cpC cp0)),sO 33 8 20,sO 33 9 21,om 10 22]
(.seq (sR [om 23 10,wO 24 23]
(cN 24
(sR [lA 25 150 7,sO 150 6 25]
.ret)
.skip))
(.seq (.dreg [(lA 26 33 8,0),(lA 27 33 9,0),(fA 28 47 7,1),(fA 29 0 28,5),(sO 33 29 26,13),(fA 30 47 7,31),(fA 31 33 30,63),(sO 33 31 27,127)])
(sR [fA 32 149 7,lF 33 1 32,oo 34 (.mkf (.func 53) [(.t 8)]),kB 35 52 33 34,fA 36 149 7,sO 1 36 35]
(.seq (sR [lA 37 33 9,fA 38 47 3,fA 39 33 38,lA 40 33 39,oo 41 (.eqa [(33,1)] false (.t 37) (.t 40))]
(cN 41
(sR [lA 42 150 7,sO 150 6 42]
.ret)
.skip))
(.seq (.dreg [(fA 44 115 3,0),(lA 45 1 44,1),(fA 46 115 3,0),(lA 47 1 46,4),(fA 48 1 9,0),(lA 49 32 48,16),(kB 50 55 47 49,60),(kB 51 54 45 50,127),(om 43 51,255),(eX 52 0 43,511),(eX 53 1 43,511),(eX 54 2 43,511),(fA 55 115 7,1023),(sO 1 55 52,5119)])
(.seq (sR [fA 56 115 7,lA 57 1 56,fA 58 117 7,lA 59 32 58,kB 60 55 57 59,bC 61 .lss 60 (ci 0)]
(cN 61
(.reg [oo 62 (.bld (rtc rt0) []),fA 63 117 7,sO 32 63 62])
.skip))
(sR [fA 65 0 9,lF 66 1 65,fA 67 0 3,fA 68 6 67,lF 69 1 68,kB 70 56 66 69,om 64 70,eX 71 0 64,eX 72 1 64,oo 11 (.new [(.int .u64 (0))]),sO 1 11 71,om 12 72]
(sR [fA 73 113 7,fA 74 1 73,lF 75 1 74,oo 76 (.mkf (.func 58) [(.t 11)]),kB 77 57 75 76,fA 78 113 7,fA 79 1 78,sO 1 79 77]
(sR [lA 80 150 7,sO 150 6 80]
.ret))))))))))))
theorem cX_:aK_ Try.prog 29=some (81,[.cell 6 true 150],ch_):=by kernel_rfl
def dT_:ah_:=nfO (P:=Try.prog) 53
theorem gY_:aK_ Try.prog 53=some (10,[.tmp 3],dT_):=by kernel_rfl
def dU_:ah_:=nfO (P:=Try.prog) 58
theorem gZ_:aK_ Try.prog 58=some (8,[.tmp 3],dU_):=by kernel_rfl
def ej_:ah_:=nfO (P:=Try.prog) 28
theorem hy_:aK_ Try.prog 28=some (56,[.cell 2 true 66],ej_):=by kernel_rfl
def hj_:ah_:=nfO (P:=Try.prog) 30
theorem lZ_:aK_ Try.prog 30=some (107,[.tmp 4,.tmp 5],hj_):=by kernel_rfl
def hI_:ah_:=nfO (P:=Try.prog) 31
theorem ng_:aK_ Try.prog 31=some (49,[.cell 4 true 150],hI_):=by kernel_rfl
end Go.Proofs.Ytkgimpdgncakjaa
