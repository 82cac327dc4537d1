/-
 My texts Kw, Kr, Kt, Ku, joined.
-/
import Derived.Test.YtkgimpdgncakjaaGreatW3
import Derived.Test.YtkgimpdgncakjaaGreatChecked
import Derived.KernelRfl
namespace Go.Proofs.YtkgimpdgncakjaaGreat
open Go Go.FH
set_option maxRecDepth 100000
set_option maxHeartbeats 200000
def ke_:ad_:=nfO (P:=Tryz.prog) 142
theorem rA_:as_ Tryz.prog 142=some (97,[.tmp 2],ke_):=by kernel_rfl
def mf_:ad_:=nfO (P:=Tryz.prog) 67
theorem uT_:as_ Tryz.prog 67=some (50,[.tmp 2],mf_):=by kernel_rfl
def jq_:ad_:=(sR [wZ 2 2 0,wS 4 false]
(.seq (sR [fA 6 0 2,lF 7 1 6,lN 8 7,om 9 1,bI 10 .neq 8 9]
(cN 10
(sR [wS 4 false]
.ret)
.skip))
(.seq (sR [wR 5 0]
(.block 0 (.loop (.seq (sR [om 11 5,fA 12 0 2,lF 13 1 12,lN 14 13,bI 15 .lss 11 14]
(cN 15
.skip
(.exit 0)))
(.seq (.block 1 (sR [fA 18 0 2,lF 19 1 18,om 20 5,iX 21 34 19 20,fA 22 0 21,lF 23 1 22,wO 24 23,om 25 24,wB 26 0 2 25,wD 27 1 26 25,wH 28 5 25,wU 29 34 27 28 25,wF 30 34 29 25,og 31 (.bld (aV_ do_) []) 25 true,og 32 (.eqa [(1,0),(33,1)] true (.t 30) (.t 31)) 25 true,wN 33 25 32]
(cN 33
(sR [wS 4 false]
.ret)
.skip)))
(.reg [om 16 5,bC 17 .add 16 (ci 1),om 5 17]))))))
(sR [fA 34 1 2,lF 35 1 34,lN 36 35,bC 37 .eql 36 (ci 0),om 38 37,wA 39 1 2 38,wC 40 1 39 38,wG 41 1 38,wX 42 127 40 41 38,wK 43 .eql 42 (ci 0) 38,wM 44 38 43,om 4 44]
.ret))))
theorem qA_:as_ Tryz.prog 72=some (45,[.tmp 4],jq_):=by kernel_rfl
def oz_:ad_:=nfO (P:=Tryz.prog) 75
theorem xD_:as_ Tryz.prog 75=some (35,[.tmp 2],oz_):=by kernel_rfl
def oB_:ad_:=nfO (P:=Tryz.prog) 76
theorem xF_:as_ Tryz.prog 76=some (103,[.tmp 2],oB_):=by kernel_rfl
def mu_:ad_:=nfO (P:=Tryz.prog) 132
theorem vg_:as_ Tryz.prog 132=some (15,[.tmp 6],mu_):=by kernel_rfl
def hR_:ad_:=nfO (P:=Tryz.prog) 56
theorem nQ_:as_ Tryz.prog 56=some (77,[.tmp 2],hR_):=by kernel_rfl
def ss_:ad_:=nfO (P:=Tryz.prog) 54
theorem Dy_:as_ Tryz.prog 54=some (44,[.cell 2 true 150,.tmp 3],ss_):=by kernel_rfl
def qn_:ad_:=nfO (P:=Tryz.prog) 11
theorem Bs_:as_ Tryz.prog 11=some (74,[.cell 2 true 150,.tmp 3],qn_):=by kernel_rfl
def hf_:ad_:=nfO (P:=Tryz.prog) 133
theorem mB_:as_ Tryz.prog 133=some (89,[.tmp 2],hf_):=by kernel_rfl
def jr_:ad_:=nfO (P:=Tryz.prog) 57
theorem qB_:as_ Tryz.prog 57=some (44,[.tmp 2],jr_):=by kernel_rfl
def oL_:ad_:=nfO (P:=Tryz.prog) 134
theorem xQ_:as_ Tryz.prog 134=some (16,[.tmp 4],oL_):=by kernel_rfl
def gC_:ad_:=nfO (P:=Tryz.prog) 58
theorem lL_:as_ Tryz.prog 58=some (102,[.tmp 2],gC_):=by kernel_rfl
def hT_:ad_:=(sR [wZ 1 150 0,wS 2 false]
(sR [wS 3 false]
(.seq (sR [fA 6 149 1,lF 7 1 6,lN 8 7,wR 9 0]
(.block 0 (.loop (sR [bI 10 .lss 9 8]
(.seq (cN 10
.skip
(.exit 0))
(.seq (.block 1 (sR [om 11 9,iX 12 34 7 9,lA 13 34 12,oo 5 (.new (aY_ rg_)),om 4 11,sO 34 5 13]
(.seq (.seq (.dreg [(om 14 4,0),(bC 15 .gtr 14 (ci 0),1),(om 16 15,3),(wB 17 149 1 16,7),(wD 18 1 17 16,15),(wH 19 4 16,7),(wL 20 .sub 19 (ci 1) 16,39),(wU 21 34 18 20 16,127),(wF 22 34 21 16,255),(wF 23 34 5 16,7),(wY 24 98 22 23 16,1023),(wL 25 .geq 24 (ci 0) 16,2047),(wN 26 16 25,4095),(om 27 26,8191),(wE 28 34 5 27,16383),(wA 29 0 1 27,16383),(wA 30 44 29 27,49151),(wC 31 1 30 27,114687),(og 32 (.len false (.t 31)) 27 false,245759),(wX 33 96 28 32 27,524287),(wK 34 .neq 33 (ci 0) 27,1048575),(wM 35 27 34,2097151)])
(cN 35
(sR [wS 2 false]
.ret)
.skip))
(.reg [om 36 3,om 37 36,wA 38 0 5 37,wE 39 33 38 37,wA 40 47 1 37,wA 41 0 40 37,wE 42 33 41 37,og 43 (.eqa [(33,1)] false (.t 39) (.t 42)) 37 false,wM 44 37 43,om 3 44]))))
(.reg [bC 45 .add 9 (ci 1),om 9 45])))))))
(sR [om 46 3,om 2 46]
.ret))))
theorem nS_:as_ Tryz.prog 59=some (47,[.tmp 2],hT_):=by kernel_rfl
def iL_:ad_:=nfO (P:=Tryz.prog) 60
theorem pv_:as_ Tryz.prog 60=some (33,[.tmp 2],iL_):=by kernel_rfl
def ho_:ad_:=(sR [wZ 1 34 0,wS 2 false]
(sR [fA 3 0 1,lF 4 1 3,wO 5 4,om 6 5,wF 7 34 1 6,og 8 (.bld (aV_ do_) []) 6 true,og 9 (.eqa [(1,0),(33,1)] true (.t 7) (.t 8)) 6 true,wN 10 6 9,om 2 10]
.ret))
theorem mK_:as_ Tryz.prog 136=some (11,[.tmp 2],ho_):=by kernel_rfl
def iK_:ad_:=nfO (P:=Tryz.prog) 61
theorem pu_:as_ Tryz.prog 61=some (9,[.tmp 2],iK_):=by kernel_rfl
def hn_:ad_:=nfO (P:=Tryz.prog) 138
theorem mJ_:as_ Tryz.prog 138=some (72,[.tmp 3],hn_):=by kernel_rfl
def hS_:ad_:=nfO (P:=Tryz.prog) 62
theorem nR_:as_ Tryz.prog 62=some (106,[.tmp 2],hS_):=by kernel_rfl
def kn_:ad_:=nfO (P:=Tryz.prog) 15
theorem rK_:as_ Tryz.prog 15=some (81,[.tmp 2],kn_):=by kernel_rfl
def oq_:ad_:=nfO (P:=Tryz.prog) 14
theorem xt_:as_ Tryz.prog 14=some (47,[.tmp 0],oq_):=by kernel_rfl
def ki_:ad_:=nfO (P:=Tryz.prog) 19
theorem rE_:as_ Tryz.prog 19=some (207,[.tmp 2],ki_):=by kernel_rfl
def aR_:ad_:=nfO (P:=Tryz.prog) 4
theorem pn_:as_ Tryz.prog 4=some (196,[.tmp 6],aR_):=by kernel_rfl
end Go.Proofs.YtkgimpdgncakjaaGreat
