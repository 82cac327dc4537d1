/-
 My texts Ka, Kb, Kc, Ki, joined.
-/
import Derived.Test.YtipiipgpnkpejaaGreatW3
import Derived.Test.YtipiipgpnkpejaaGreatChecked
import Derived.KernelRfl
namespace Go.Proofs.YtipiipgpnkpejaaGreat
open Go Go.FH
def mz_:ad_:=(sR [oo 4 (.mv (.c (.sl 0 true [])))]
(.seq (.block 0 (.loop (.seq (sR [om 5 1,bC 6 .gtr 5 (cu 127)]
(cN 6
.skip
(.exit 0)))
(.block 1 (sR [om 7 0,om 8 1,bC 9 .and 8 (cu 127),oo 10 (.cvt .u8 (.t 9)),oo 11 (.bin .or (.t 10) (.c (.int .u8 (128)))),oo 12 (.bldS 1 1 [(.int .u8 (0))] [(0,(.t 11))]),oo 13 (.app 1 1 (.t 7) (.t 12)),om 0 13]
(.reg [om 14 1,bC 15 .shr 14 (cu 7),om 1 15]))))))
(sR [om 16 0,om 17 1,oo 18 (.cvt .u8 (.t 17)),oo 19 (.bldS 1 1 [(.int .u8 (0))] [(0,(.t 18))]),oo 20 (.app 1 1 (.t 16) (.t 19)),om 4 20]
.ret)))
theorem th_:as_ Tryz.prog 32=some (21,[.tmp 4],mz_):=by kernel_rfl
def gM_:ad_:=(sR [oo 4 (.mv (.c (.sl 0 true [])))]
(.seq (sR [om 5 1]
(cN 5
(sR [om 6 0,oo 7 (.bldS 1 1 [(.int .u8 (0))] [(0,(.c (.int .u8 (1))))]),oo 8 (.app 1 1 (.t 6) (.t 7)),om 4 8]
.ret)
.skip))
(sR [om 9 0,oo 10 (.bldS 1 1 [(.int .u8 (0))] [(0,(.c (.int .u8 (0))))]),oo 11 (.app 1 1 (.t 9) (.t 10)),om 4 11]
.ret)))
theorem jx_:as_ Tryz.prog 35=some (12,[.tmp 4],gM_):=by kernel_rfl
def mx_:ad_:=(sR [oo 3 (.box 32 (.t 1)),oo 4 (.mv (.c (.sl 0 true [])))]
(sR [om 5 0,oo 6 (.sliA 1 32 (.t 3) none none),oo 7 (.app 1 1 (.t 5) (.t 6)),om 4 7]
.ret))
theorem tg_:as_ Tryz.prog 31=some (8,[.tmp 4],mx_):=by kernel_rfl
def mA_:ad_:=(sR [oo 3 (.box 4 (.t 1)),oo 4 (.mv (.c (.sl 0 true [])))]
(sR [lA 6 4 3,kA 7 72 6,oo 5 (.new (rtc rt0)),sO 32 5 7]
(sR [om 8 0,oo 9 (.sliA 1 32 (.t 5) none none),oo 10 (.app 1 1 (.t 8) (.t 9)),om 4 10]
.ret)))
theorem ti_:as_ Tryz.prog 33=some (11,[.tmp 4],mA_):=by kernel_rfl
def fM_:ad_:=(sR [oo 3 (.box 33 (.t 1)),oo 4 (.mv (.c (.sl 0 true [])))]
(.seq (.dreg [(om 5 0,0),(fA 6 0 3,0),(lF 7 1 6,2),(kB 8 32 5 7,7),(fA 9 1 3,0),(lA 10 32 9,16),(kB 11 31 8 10,63),(om 4 11,127)])
.ret))
theorem jy_:as_ Tryz.prog 34=some (12,[.tmp 4],fM_):=by kernel_rfl
def kk_:ad_:=(sR [oo 2 (.mv (ci 0))]
(sR [om 3 0,oo 4 (.nilc (.t 3)),fA 5 1 4,lF 6 1 5,om 2 6]
.ret))
theorem rV_:as_ Tryz.prog 96=some (7,[.tmp 2],kk_):=by kernel_rfl
def jj_:ad_:=(sR [oo 2 (.mv (ci 0))]
(sR [om 3 0,oo 4 (.nilc (.t 3)),fA 5 0 4,lF 6 1 5,lN 7 6,om 2 7]
.ret))
theorem qF_:as_ Tryz.prog 109=some (8,[.tmp 2],jj_):=by kernel_rfl
def jm_:ad_:=(sR [oo 4 (.mv (cu 0))]
(.seq (sR [om 8 0,oo 9 (.nilc (.t 8)),fA 10 1 9,lF 11 1 10,bC 12 .neq 11 (ci 0)]
(cN 12
(sR [oo 4 (.mv (cu 0))]
.ret)
.skip))
(sR [om 14 0,kA 15 122 14,om 13 15,eX 16 0 13,eX 17 1 13,eX 18 2 13,om 5 16,om 6 17,om 7 18]
(.seq (sR [om 19 7,bC 20 .eql 19 (ci 0),om 21 20,omg 22 5 21 true,omg 23 1 21 true,og 24 (.bin .gtr (.t 22) (.t 23)) 21 true,oo 25 (.pick (.t 21) (.t 24) (cb false))]
(cN 25
(.reg [oo 7 (.mv (ci 3))])
.skip))
(.seq (sR [om 26 7,bC 27 .neq 26 (ci 0)]
(cN 27
(sR [om 28 0,om 29 7,kB 30 115 28 29]
(sR [oo 4 (.mv (cu 0))]
.ret))
.skip))
(sR [om 31 0,om 32 0,oo 33 (.nilc (.t 32)),fA 34 0 33,lF 35 1 34,om 36 6,oo 37 (.sli 1 (.t 35) (some (.t 36)) none none),oo 38 (.nilc (.t 31)),fA 39 0 38,sO 1 39 37]
(sR [om 40 5,om 4 40]
.ret)))))))
theorem qI_:as_ Tryz.prog 95=some (41,[.tmp 4],jm_):=by kernel_rfl
def ji_:ad_:=(sR [oo 2 (.mv (cb false))]
(.seq (sR [om 4 0,oo 5 (.nilc (.t 4)),fA 6 1 5,lF 7 1 6,bC 8 .neq 7 (ci 0)]
(cN 8
(sR [oo 2 (.mv (cb false))]
.ret)
.skip))
(.seq (sR [om 9 0,oo 10 (.nilc (.t 9)),fA 11 0 10,lF 12 1 11,lN 13 12,bC 14 .eql 13 (ci 0)]
(cN 14
(sR [om 15 0,oo 16 (.call (cf 115) [(.t 15),(ci 5)])]
(sR [oo 2 (.mv (cb false))]
.ret))
.skip))
(.seq (sR [om 17 0,oo 18 (.nilc (.t 17)),fA 19 0 18,lF 20 1 19,oo 21 (.idxS 1 (.t 20) (ci 0)),lF 22 1 21,oo 23 (.bin .gtr (.t 22) (.c (.int .u8 (1))))]
(cN 23
(sR [om 24 0,oo 25 (.call (cf 115) [(.t 24),(ci 2)])]
(sR [oo 2 (.mv (cb false))]
.ret))
.skip))
(sR [om 26 0,oo 27 (.nilc (.t 26)),fA 28 0 27,lF 29 1 28,oo 30 (.idxS 1 (.t 29) (ci 0)),lF 31 1 30,oo 32 (.bin .eql (.t 31) (.c (.int .u8 (1)))),om 3 32]
(sR [om 33 0,om 34 0,oo 35 (.nilc (.t 34)),fA 36 0 35,lF 37 1 36,oo 38 (.sli 1 (.t 37) (some (ci 1)) none none),oo 39 (.nilc (.t 33)),fA 40 0 39,sO 1 40 38]
(sR [om 41 3,om 2 41]
.ret)))))))
theorem qE_:as_ Tryz.prog 85=some (42,[.tmp 2],ji_):=by kernel_rfl
def jk_:ad_:=(sR [oo 2 (.new (rtc rt0))]
(sR [oo 3 (.new (rtc rt0))]
(.seq (sR [om 4 0,oo 5 (.nilc (.t 4)),fA 6 1 5,lF 7 1 6,bC 8 .neq 7 (ci 0)]
(cN 8
(sR [lA 9 32 3,sO 32 2 9]
.ret)
.skip))
(.seq (sR [om 10 0,oo 11 (.nilc (.t 10)),fA 12 0 11,lF 13 1 12,lN 14 13,bC 15 .lss 14 (ci 32)]
(cN 15
(sR [om 16 0,oo 17 (.call (cf 115) [(.t 16),(ci 5)])]
(sR [lA 18 32 3,sO 32 2 18]
.ret))
.skip))
(.seq (.dreg [(oo 19 (.sliA 1 32 (.t 3) none none),0),(om 20 0,0),(oo 21 (.nilc (.t 20)),2),(fA 22 0 21,6),(lF 23 1 22,14),(oo 24 (.cpy 1 (.t 19) (.t 23)),31)])
(sR [om 25 0,om 26 0,oo 27 (.nilc (.t 26)),fA 28 0 27,lF 29 1 28,oo 30 (.sli 1 (.t 29) (some (ci 32)) none none),oo 31 (.nilc (.t 25)),fA 32 0 31,sO 1 32 30]
(sR [lA 33 32 3,sO 32 2 33]
.ret)))))))
theorem qG_:as_ Tryz.prog 80=some (34,[.cell 2 true 32],jk_):=by kernel_rfl
def jn_:ad_:=(sR [oo 2 (.new (wdc wd0))]
(sR [om 3 0,kA 4 80 3,kA 5 116 4,sO 4 2 5]
.ret))
theorem qJ_:as_ Tryz.prog 84=some (6,[.cell 2 true 4],jn_):=by kernel_rfl
def fs_:ad_:=(sR [oo 2 (.new (cpC cp0))]
(sR [om 5 0,oo 6 (.nilc (.t 5)),fA 7 0 6,lF 8 1 7,om 3 8]
(sR [om 9 0,oo 10 (.call (cf 95) [(.t 9),(cu 18446744073709551615)]),oo 11 (.bld (cpC cp0) [(0,1,(.t 10))]),oo 4 (.new (cpC cp0)),sO 33 4 11]
(sR [om 12 0,kA 13 80 12,fA 14 1 4,sO 32 14 13]
(.seq (sR [om 15 0,oo 16 (.nilc (.t 15)),fA 17 1 16,lF 18 1 17,bC 19 .neq 18 (ci 0)]
(cN 19
(sR [om 20 0,om 21 3,oo 22 (.nilc (.t 20)),fA 23 0 22,sO 1 23 21]
(sR [oo 24 (.bld (cpC cp0) []),sO 33 2 24]
.ret))
.skip))
(sR [lA 25 33 4,sO 33 2 25]
.ret))))))
theorem kF_:as_ Tryz.prog 81=some (26,[.cell 2 true 33],fs_):=by kernel_rfl
def pf_:ad_:=(sR [oo 4 (.mv (.c (.sl 0 true [])))]
(.seq (.block 0 (.loop (.seq (sR [om 5 1,bC 6 .geq 5 (cu 128)]
(cN 6
.skip
(.exit 0)))
(.block 1 (sR [om 7 0,om 8 1,oo 9 (.cvt .u8 (.t 8)),oo 10 (.bin .or (.t 9) (.c (.int .u8 (128)))),oo 11 (.bldS 1 1 [(.int .u8 (0))] [(0,(.t 10))]),oo 12 (.app 1 1 (.t 7) (.t 11)),om 0 12]
(.reg [om 13 1,bC 14 .shr 13 (cu 7),om 1 14]))))))
(sR [om 15 0,om 16 1,oo 17 (.cvt .u8 (.t 16)),oo 18 (.bldS 1 1 [(.int .u8 (0))] [(0,(.t 17))]),oo 19 (.app 1 1 (.t 15) (.t 18)),om 4 19]
.ret)))
theorem vs_:as_ Tryz.prog 63=some (20,[.tmp 4],pf_):=by kernel_rfl
def ii_:ad_:=(sR [oo 4 (.mv (.c (.sl 0 true [])))]
(.seq (sR [om 5 1]
(cN 5
(sR [om 6 0,oo 7 (.bldS 1 1 [(.int .u8 (0))] [(0,(.c (.int .u8 (1))))]),oo 8 (.app 1 1 (.t 6) (.t 7)),om 4 8]
.ret)
.skip))
(sR [om 9 0,oo 10 (.bldS 1 1 [(.int .u8 (0))] [(0,(.c (.int .u8 (0))))]),oo 11 (.app 1 1 (.t 9) (.t 10)),om 4 11]
.ret)))
theorem ld_:as_ Tryz.prog 124=some (12,[.tmp 4],ii_):=by kernel_rfl
def pe_:ad_:=(sR [oo 3 (.box 32 (.t 1)),oo 4 (.mv (.c (.sl 0 true [])))]
(sR [om 5 0,oo 6 (.sliA 1 32 (.t 3) none none),oo 7 (.app 1 1 (.t 5) (.t 6)),om 4 7]
.ret))
theorem vr_:as_ Tryz.prog 75=some (8,[.tmp 4],pe_):=by kernel_rfl
def pg_:ad_:=(sR [oo 3 (.box 4 (.t 1)),oo 4 (.mv (.c (.sl 0 true [])))]
(sR [lA 6 4 3,kA 7 142 6,oo 5 (.new (rtc rt0)),sO 32 5 7]
(sR [om 8 0,oo 9 (.sliA 1 32 (.t 5) none none),oo 10 (.app 1 1 (.t 8) (.t 9)),om 4 10]
.ret)))
theorem vt_:as_ Tryz.prog 123=some (11,[.tmp 4],pg_):=by kernel_rfl
def mw_:ad_:=(sR [oo 1 (.box 4 (.t 0)),oo 2 (.new (rtc rt0))]
(sR [oo 3 (.new (rtc rt0))]
(.seq (sR [oo 4 (.mv (ci 0))]
(.block 0 (.loop (.seq (sR [om 5 4,bC 6 .lss 5 (ci 32)]
(cN 6
.skip
(.exit 0)))
(.seq (.block 1 (.reg [om 9 4,oo 10 (.bin .sub (ci 31) (.t 9)),om 11 4,bC 12 .quo 11 (ci 8),oo 13 (.idxA 4 1 (.t 1) (.t 12)),lF 14 1 13,om 15 4,bC 16 .rem 15 (ci 8),oo 17 (.bin .mul (ci 8) (.t 16)),oo 18 (.cvt .u64 (.t 17)),bI 19 .shr 14 18,oo 20 (.cvt .u8 (.t 19)),oo 21 (.idxA 32 1 (.t 3) (.t 10)),sO 1 21 20]))
(.reg [om 7 4,bC 8 .add 7 (ci 1),om 4 8]))))))
(sR [lA 22 32 3,sO 32 2 22]
.ret))))
theorem vF_:as_ Tryz.prog 72=some (23,[.cell 2 true 32],mw_):=by kernel_rfl
def go_:ad_:=(sR [oo 3 (.box 33 (.t 1)),oo 4 (.mv (.c (.sl 0 true [])))]
(.seq (.dreg [(om 5 0,0),(fA 6 0 3,0),(lF 7 1 6,2),(kB 8 63 5 7,7),(fA 9 1 3,0),(lA 10 32 9,16),(kB 11 75 8 10,63),(om 4 11,127)])
.ret))
theorem kE_:as_ Tryz.prog 77=some (12,[.tmp 4],go_):=by kernel_rfl
def zH_:ad_:=(sR [oo 2 (.mv (.c .nilp))]
(sR [om 3 0,oo 4 (.bld [(.sl 0 true []),(.int .i64 (0))] [(0,1,(.t 3))]),oo 5 (.box 2 (.t 4)),om 2 5]
.ret))
theorem JI_:as_ Tryz.prog 108=some (6,[.tmp 2],zH_):=by kernel_rfl
def jo_:ad_:=(.reg [om 4 0,om 5 1,oo 6 (.nilc (.t 4)),fA 7 1 6,sO 1 7 5])
theorem qK_:as_ Tryz.prog 115=some (8,[],jo_):=by kernel_rfl
def hu_:ad_:=(sR [oo 2 (.mv (cu 0)),oo 3 (.mv (ci 0)),oo 4 (.mv (ci 0))]
(sR [oo 5 (.mv (cu 0))]
(.seq (.seq (.dreg [(om 8 0,0),(oo 9 (.nilc (.t 8)),1),(fA 10 0 9,3),(lF 11 1 10,7),(om 12 0,0),(oo 13 (.nilc (.t 12)),16),(fA 14 0 13,48),(lF 15 1 14,112),(lN 16 15,240),(oo 17 (.mn [(.t 16),(ci 10)]),496),(oo 18 (.sli 1 (.t 11) none (some (.t 17)) none),1023),(lN 19 18,2047),(oo 20 (.mv (ci 0)),0)])
(.block 0 (.loop (sR [bI 21 .lss 20 19]
(.seq (cN 21
.skip
(.exit 0))
(.seq (.block 1 (sR [om 22 20,iX 23 1 18 20,lF 24 1 23,om 6 22,om 7 24]
(.seq (sR [om 25 6,bC 26 .eql 25 (ci 9),om 27 26,omg 28 7 27 true,og 29 (.bin .gtr (.t 28) (.c (.int .u8 (1)))) 27 true,oo 30 (.pick (.t 27) (.t 29) (cb false))]
(cN 30
(sR [oo 2 (.mv (cu 0)),oo 3 (.mv (ci 0)),oo 4 (.mv (ci 2))]
.ret)
.skip))
(sR [om 31 5,om 32 7,oo 33 (.bin .and (.t 32) (.c (.int .u8 (127)))),oo 34 (.cvt .u64 (.t 33)),om 35 6,oo 36 (.bin .mul (ci 7) (.t 35)),bI 37 .shl 34 36,bI 38 .or 31 37,om 5 38]
(sR [om 39 7,oo 40 (.bin .lss (.t 39) (.c (.int .u8 (128))))]
(cN 40
(.seq (sR [om 41 7,oo 42 (.bin .eql (.t 41) (.c (.int .u8 (0)))),om 43 42,omg 44 6 43 true,og 45 (.bin .gtr (.t 44) (ci 0)) 43 true,oo 46 (.pick (.t 43) (.t 45) (cb false))]
(cN 46
(sR [oo 2 (.mv (cu 0)),oo 3 (.mv (ci 0)),oo 4 (.mv (ci 2))]
.ret)
.skip))
(sR [om 47 5,om 48 6,bC 49 .add 48 (ci 1),om 2 47,om 3 49,oo 4 (.mv (ci 0))]
.ret))
.skip))))))
(.reg [bC 50 .add 20 (ci 1),om 20 50])))))))
(sR [oo 2 (.mv (cu 0)),oo 3 (.mv (ci 0)),oo 4 (.mv (ci 5))]
.ret))))
theorem nV_:as_ Tryz.prog 122=some (51,[.tmp 2,.tmp 3,.tmp 4],hu_):=by kernel_rfl
def kB_:ad_:=(sR [oo 1 (.box 32 (.t 0)),oo 2 (.new (wdc wd0))]
(sR [oo 3 (.new (wdc wd0))]
(.seq (sR [oo 5 (.mv (ci 0))]
(.block 0 (.loop (sR [bC 6 .lss 5 (ci 32)]
(.seq (cN 6
.skip
(.exit 0))
(.seq (.block 1 (sR [om 7 5,om 4 7]
(.dreg [(om 8 4,0),(bC 9 .quo 8 (ci 8),1),(oo 10 (.idxA 4 1 (.t 3) (.t 9)),3),(lF 11 1 10,7),(om 12 4,0),(oo 13 (.bin .sub (ci 31) (.t 12)),16),(oo 14 (.idxA 32 1 (.t 1) (.t 13)),48),(lF 15 1 14,112),(oo 16 (.cvt .u64 (.t 15)),240),(om 17 4,0),(bC 18 .rem 17 (ci 8),512),(oo 19 (.bin .mul (ci 8) (.t 18)),1536),(bI 20 .shl 16 19,4080),(bI 21 .or 11 20,8191),(oo 22 (.idxA 4 1 (.t 3) (.t 9)),16383),(sO 1 22 21,32767)])))
(.reg [bC 23 .add 5 (ci 1),om 5 23])))))))
(sR [lA 24 4 3,sO 4 2 24]
.ret))))
theorem sn_:as_ Tryz.prog 116=some (25,[.cell 2 true 4],kB_):=by kernel_rfl
def mC_:ad_:=(sR [oo 1 (.box 4 (.t 0)),oo 2 (.new (rtc rt0))]
(sR [oo 3 (.new (rtc rt0))]
(.seq (sR [oo 5 (.mv (ci 0))]
(.block 0 (.loop (sR [bC 6 .lss 5 (ci 32)]
(.seq (cN 6
.skip
(.exit 0))
(.seq (.block 1 (sR [om 7 5,om 4 7]
(.reg [om 8 4,oo 9 (.bin .sub (ci 31) (.t 8)),om 10 4,bC 11 .quo 10 (ci 8),oo 12 (.idxA 4 1 (.t 1) (.t 11)),lF 13 1 12,om 14 4,bC 15 .rem 14 (ci 8),oo 16 (.bin .mul (ci 8) (.t 15)),bI 17 .shr 13 16,oo 18 (.cvt .u8 (.t 17)),oo 19 (.idxA 32 1 (.t 3) (.t 9)),sO 1 19 18])))
(.reg [bC 20 .add 5 (ci 1),om 5 20])))))))
(sR [lA 21 32 3,sO 32 2 21]
.ret))))
theorem vI_:as_ Tryz.prog 142=some (22,[.cell 2 true 32],mC_):=by kernel_rfl
def it_:ad_:=(sR [oo 4 (.mv (cu 0))]
(.seq (sR [om 7 0,oo 8 (.nilc (.t 7)),fA 9 2 8,lF 10 1 9,bC 11 .neq 10 (ci 0)]
(cN 11
(sR [oo 4 (.mv (cu 0))]
.ret)
.skip))
(sR [om 13 0,kA 14 119 13,om 12 14,eX 15 0 12,eX 16 1 12,om 5 15,om 6 16]
(.seq (sR [om 17 0,oo 18 (.nilc (.t 17)),fA 19 2 18,lF 20 1 19,bC 21 .neq 20 (ci 0)]
(cN 21
(sR [oo 4 (.mv (cu 0))]
.ret)
.skip))
(.seq (sR [om 22 5,om 23 1,bI 24 .gtr 22 23]
(cN 24
(sR [om 25 0,oo 26 (.call (cf 120) [(.t 25),(ci 3)])]
(sR [oo 4 (.mv (cu 0))]
.ret))
.skip))
(sR [om 27 0,om 28 6,oo 29 (.nilc (.t 27)),fA 30 1 29,sO 1 30 28]
(sR [om 31 5,om 4 31]
.ret)))))))
theorem pt_:as_ Tryz.prog 87=some (32,[.tmp 4],it_):=by kernel_rfl
def is_:ad_:=(sR [oo 2 (.new (rtc rt0))]
(sR [oo 3 (.new (rtc rt0))]
(sR [om 6 0,oo 7 (.call (cf 121) [(.t 6),(ci 32)]),om 4 7]
(.seq (sR [oo 5 (.mv (ci 0))]
(.block 0 (.loop (.seq (sR [om 8 5,om 9 4,lN 10 9,bI 11 .lss 8 10]
(cN 11
.skip
(.exit 0)))
(.seq (.block 1 (.reg [om 14 5,om 15 4,om 16 5,iX 17 1 15 16,lF 18 1 17,oo 19 (.idxA 32 1 (.t 3) (.t 14)),sO 1 19 18]))
(.reg [om 12 5,bC 13 .add 12 (ci 1),om 5 13]))))))
(sR [lA 20 32 3,sO 32 2 20]
.ret)))))
theorem ps_:as_ Tryz.prog 88=some (21,[.cell 2 true 32],is_):=by kernel_rfl
def fc_:ad_:=(sR [oo 2 (.new (cpC cp0))]
(sR [om 5 0,oo 6 (.nilc (.t 5)),fA 7 1 6,lF 8 1 7,om 3 8]
(sR [om 9 0,oo 10 (.call (cf 87) [(.t 9),(cu 18446744073709551615)]),om 11 0,kA 12 88 11,oo 13 (.bld (cpC cp0) [(0,1,(.t 10)),(1,32,(.t 12))]),oo 4 (.new (cpC cp0)),sO 33 4 13]
(.seq (sR [om 14 0,oo 15 (.nilc (.t 14)),fA 16 2 15,lF 17 1 16,bC 18 .neq 17 (ci 0)]
(cN 18
(sR [om 19 0,om 20 3,oo 21 (.nilc (.t 19)),fA 22 1 21,sO 1 22 20]
(sR [oo 23 (.bld (cpC cp0) []),sO 33 2 23]
.ret))
.skip))
(sR [lA 24 33 4,sO 33 2 24]
.ret)))))
theorem jU_:as_ Tryz.prog 89=some (25,[.cell 2 true 33],fc_):=by kernel_rfl
def iu_:ad_:=(sR [oo 2 (.new (wdc wd0))]
(sR [om 3 0,kA 4 88 3,kA 5 141 4,sO 4 2 5]
.ret))
theorem pu_:as_ Tryz.prog 117=some (6,[.cell 2 true 4],iu_):=by kernel_rfl
def ir_:ad_:=(sR [oo 2 (.mv (cb false))]
(sR [om 5 0,oo 6 (.nilc (.t 5)),fA 7 1 6,lF 8 1 7,om 3 8]
(sR [om 9 0,oo 10 (.call (cf 121) [(.t 9),(ci 1)]),om 4 10]
(.seq (sR [om 11 0,oo 12 (.nilc (.t 11)),fA 13 2 12,lF 14 1 13,bC 15 .neq 14 (ci 0)]
(cN 15
(sR [oo 2 (.mv (cb false))]
.ret)
.skip))
(.seq (sR [om 16 4,oo 17 (.idxS 1 (.t 16) (ci 0)),lF 18 1 17,oo 19 (.bin .gtr (.t 18) (.c (.int .u8 (1))))]
(cN 19
(sR [om 20 0,om 21 3,oo 22 (.nilc (.t 20)),fA 23 1 22,sO 1 23 21]
(sR [om 24 0,oo 25 (.call (cf 120) [(.t 24),(ci 2)])]
(sR [oo 2 (.mv (cb false))]
.ret)))
.skip))
(sR [om 26 4,oo 27 (.idxS 1 (.t 26) (ci 0)),lF 28 1 27,oo 29 (.bin .eql (.t 28) (.c (.int .u8 (1)))),om 2 29]
.ret))))))
theorem pr_:as_ Tryz.prog 118=some (30,[.tmp 2],ir_):=by kernel_rfl
def jq_:ad_:=(sR [oo 2 (.mv (cu 0)),oo 3 (.mv (ci 0))]
(sR [oo 4 (.mv (cu 0))]
(.seq (sR [oo 5 (.mv (ci 0))]
(.block 0 (.loop (.seq (sR [om 7 5,bC 8 .lss 7 (ci 10)]
(cN 8
.skip
(.exit 0)))
(.seq (.block 1 (.seq (.seq (.dreg [(om 11 0,0),(oo 12 (.nilc (.t 11)),1),(fA 13 1 12,3),(lF 14 1 13,7),(om 15 5,0),(bI 16 .add 14 15,31),(om 17 0,0),(oo 18 (.nilc (.t 17)),64),(fA 19 0 18,192),(lF 20 1 19,448),(lN 21 20,960),(bI 22 .geq 16 21,2047)])
(cN 22
(sR [om 23 0,oo 24 (.call (cf 120) [(.t 23),(ci 5)])]
(.seq (.dreg [(om 25 0,0),(oo 26 (.nilc (.t 25)),1),(fA 27 1 26,3),(lF 28 1 27,7),(oo 2 (.mv (cu 0)),0),(om 3 28,31)])
.ret))
.skip))
(.seq (.dreg [(om 29 0,0),(oo 30 (.nilc (.t 29)),1),(fA 31 0 30,3),(lF 32 1 31,7),(om 33 0,0),(oo 34 (.nilc (.t 33)),16),(fA 35 1 34,48),(lF 36 1 35,112),(om 37 5,0),(bI 38 .add 36 37,496),(iX 39 1 32 38,1023),(lF 40 1 39,2047),(om 6 40,4095)])
(.seq (sR [om 41 5,bC 42 .eql 41 (ci 9),om 43 42,omg 44 6 43 true,og 45 (.bin .gtr (.t 44) (.c (.int .u8 (1)))) 43 true,oo 46 (.pick (.t 43) (.t 45) (cb false))]
(cN 46
(sR [om 47 0,oo 48 (.call (cf 120) [(.t 47),(ci 2)])]
(.seq (.dreg [(om 49 0,0),(oo 50 (.nilc (.t 49)),1),(fA 51 1 50,3),(lF 52 1 51,7),(oo 2 (.mv (cu 0)),0),(om 3 52,31)])
.ret))
.skip))
(sR [om 53 4,om 54 6,oo 55 (.bin .and (.t 54) (.c (.int .u8 (127)))),oo 56 (.cvt .u64 (.t 55)),om 57 5,oo 58 (.bin .mul (ci 7) (.t 57)),oo 59 (.cvt .u64 (.t 58)),bI 60 .shl 56 59,bI 61 .or 53 60,om 4 61]
(sR [om 62 6,oo 63 (.bin .lss (.t 62) (.c (.int .u8 (128))))]
(cN 63
(.seq (sR [om 64 6,oo 65 (.bin .eql (.t 64) (.c (.int .u8 (0)))),om 66 65,omg 67 5 66 true,og 68 (.bin .gtr (.t 67) (ci 0)) 66 true,oo 69 (.pick (.t 66) (.t 68) (cb false))]
(cN 69
(sR [om 70 0,oo 71 (.call (cf 120) [(.t 70),(ci 2)])]
(.seq (.dreg [(om 72 0,0),(oo 73 (.nilc (.t 72)),1),(fA 74 1 73,3),(lF 75 1 74,7),(oo 2 (.mv (cu 0)),0),(om 3 75,31)])
.ret))
.skip))
(.seq (.dreg [(om 76 4,0),(om 77 0,0),(oo 78 (.nilc (.t 77)),2),(fA 79 1 78,6),(lF 80 1 79,14),(om 81 5,0),(bI 82 .add 80 81,62),(bC 83 .add 82 (ci 1),126),(om 2 76,1),(om 3 83,511)])
.ret))
.skip)))))))
(.reg [om 9 5,bC 10 .add 9 (ci 1),om 5 10]))))))
(sR [om 84 0,oo 85 (.call (cf 120) [(.t 84),(ci 2)])]
(.seq (.dreg [(om 86 0,0),(oo 87 (.nilc (.t 86)),1),(fA 88 1 87,3),(lF 89 1 88,7),(oo 2 (.mv (cu 0)),0),(om 3 89,31)])
.ret)))))
theorem qO_:as_ Tryz.prog 119=some (90,[.tmp 2,.tmp 3],jq_):=by kernel_rfl
def iv_:ad_:=(sR [om 4 0,oo 5 (.nilc (.t 4)),fA 6 2 5,lF 7 1 6,bC 8 .eql 7 (ci 0)]
(cN 8
(.reg [om 9 0,om 10 1,oo 11 (.nilc (.t 9)),fA 12 2 11,sO 1 12 10])
.skip))
theorem pv_:as_ Tryz.prog 120=some (13,[],iv_):=by kernel_rfl
def iw_:ad_:=(sR [oo 4 (.mv (.c (.sl 0 true [])))]
(.seq (sR [om 6 0,oo 7 (.nilc (.t 6)),fA 8 2 7,lF 9 1 8,bC 10 .neq 9 (ci 0)]
(cN 10
(sR [oo 4 (.mv (.c (.sl 0 true [])))]
.ret)
.skip))
(.seq (.seq (.dreg [(om 11 1,0),(om 12 0,0),(oo 13 (.nilc (.t 12)),2),(fA 14 0 13,6),(lF 15 1 14,14),(lN 16 15,30),(om 17 0,0),(oo 18 (.nilc (.t 17)),64),(fA 19 1 18,192),(lF 20 1 19,448),(bI 21 .sub 16 20,1022),(bI 22 .gtr 11 21,2047)])
(cN 22
(sR [om 23 0,oo 24 (.call (cf 120) [(.t 23),(ci 5)])]
(sR [oo 4 (.mv (.c (.sl 0 true [])))]
.ret))
.skip))
(.seq (.dreg [(om 25 0,0),(oo 26 (.nilc (.t 25)),1),(fA 27 0 26,3),(lF 28 1 27,7),(om 29 0,0),(oo 30 (.nilc (.t 29)),16),(fA 31 1 30,48),(lF 32 1 31,112),(om 33 0,0),(oo 34 (.nilc (.t 33)),256),(fA 35 1 34,768),(lF 36 1 35,1792),(om 37 1,0),(bI 38 .add 36 37,7936),(oo 39 (.sli 1 (.t 28) (some (.t 32)) (some (.t 38)) none),16383),(om 5 39,32767)])
(sR [om 40 0,om 41 0,oo 42 (.nilc (.t 41)),fA 43 1 42,lF 44 1 43,om 45 1,bI 46 .add 44 45,oo 47 (.nilc (.t 40)),fA 48 1 47,sO 1 48 46]
(sR [om 49 5,om 4 49]
.ret))))))
theorem pw_:as_ Tryz.prog 121=some (50,[.tmp 4],iw_):=by kernel_rfl
def kq_:ad_:=(sR [oo 1 (.box 32 (.t 0)),oo 2 (.new (wdc wd0))]
(sR [oo 3 (.new (wdc wd0))]
(.seq (sR [oo 4 (.mv (ci 0))]
(.block 0 (.loop (.seq (sR [om 5 4,bC 6 .lss 5 (ci 32)]
(cN 6
.skip
(.exit 0)))
(.seq (.block 1 (.dreg [(om 9 4,0),(bC 10 .quo 9 (ci 8),1),(om 11 4,0),(bC 12 .quo 11 (ci 8),4),(oo 13 (.idxA 4 1 (.t 3) (.t 12)),12),(lF 14 1 13,28),(om 15 4,0),(oo 16 (.bin .sub (ci 31) (.t 15)),64),(oo 17 (.idxA 32 1 (.t 1) (.t 16)),192),(lF 18 1 17,448),(oo 19 (.cvt .u64 (.t 18)),960),(om 20 4,0),(bC 21 .rem 20 (ci 8),2048),(oo 22 (.bin .mul (ci 8) (.t 21)),6144),(oo 23 (.cvt .u64 (.t 22)),14336),(bI 24 .shl 19 23,32704),(bI 25 .or 14 24,65532),(oo 26 (.idxA 4 1 (.t 3) (.t 10)),131071),(sO 1 26 25,262143)]))
(.reg [om 7 4,bC 8 .add 7 (ci 1),om 4 8]))))))
(sR [lA 27 4 3,sO 4 2 27]
.ret))))
theorem sb_:as_ Tryz.prog 141=some (28,[.cell 2 true 4],kq_):=by kernel_rfl
def fI_:ad_:=(sR [oo 4 (.mv (ci 0))]
(.seq (sR [om 7 0,lN 8 7,bC 9 .eql 8 (ci 0)]
(cN 9
(sR [oo 4 (.mv (ci 2))]
.ret)
.skip))
(.seq (sR [om 10 0,lN 11 10,oo 12 (.mv (ci 0))]
(.block 0 (.loop (sR [bI 13 .lss 12 11]
(.seq (cN 13
.skip
(.exit 0))
(.seq (.block 1 (sR [om 14 12,iX 15 1 10 12,lF 16 1 15,om 5 14,om 6 16]
(.seq (sR [om 17 6,bC 18 .lss 17 (ci 0),om 19 18,omg 20 6 19 false,omg 21 1 19 false,og 22 (.bin .geq (.t 20) (.t 21)) 19 false,oo 23 (.pick (.t 19) (cb true) (.t 22))]
(cN 23
(sR [oo 4 (.mv (ci 3))]
.ret)
.skip))
(sR [om 24 5,bC 25 .gtr 24 (ci 0),om 26 25,omg 27 6 26 true,omg 28 0 26 true,omg 29 5 26 true,og 30 (.bin .sub (.t 29) (ci 1)) 26 true,og 31 (.idxS 1 (.t 28) (.t 30)) 26 true,og 32 (.ld false 1 (.t 31)) 26 true,og 33 (.bin .leq (.t 27) (.t 32)) 26 true,oo 34 (.pick (.t 26) (.t 33) (cb false))]
(cN 34
(sR [oo 4 (.mv (ci 8))]
.ret)
.skip)))))
(.reg [bC 35 .add 12 (ci 1),om 12 35])))))))
(sR [oo 4 (.mv (ci 0))]
.ret))))
theorem le_:as_ Tryz.prog 74=some (36,[.tmp 4],fI_):=by kernel_rfl
def hz_:ad_:=(sR [oo 4 (.mv (ci 0))]
(.seq (sR [om 6 0,lN 7 6,bC 8 .eql 7 (ci 0)]
(cN 8
(sR [oo 4 (.mv (ci 2))]
.ret)
.skip))
(.seq (sR [oo 5 (.mv (ci 0))]
(.block 0 (.loop (.seq (sR [om 9 5,om 10 0,lN 11 10,bI 12 .lss 9 11]
(cN 12
.skip
(.exit 0)))
(.seq (.block 1 (.seq (sR [om 15 0,om 16 5,iX 17 1 15 16,lF 18 1 17,bC 19 .lss 18 (ci 0),om 20 19,omg 21 0 20 false,omg 22 5 20 false,og 23 (.idxS 1 (.t 21) (.t 22)) 20 false,og 24 (.ld false 1 (.t 23)) 20 false,omg 25 1 20 false,og 26 (.bin .geq (.t 24) (.t 25)) 20 false,oo 27 (.pick (.t 20) (cb true) (.t 26))]
(cN 27
(sR [oo 4 (.mv (ci 3))]
.ret)
.skip))
(.seq (.dreg [(om 28 5,0),(bC 29 .gtr 28 (ci 0),1),(om 30 29,3),(omg 31 0 30 true,7),(omg 32 5 30 true,7),(og 33 (.idxS 1 (.t 31) (.t 32)) 30 true,31),(og 34 (.ld false 1 (.t 33)) 30 true,63),(omg 35 0 30 true,7),(omg 36 5 30 true,7),(og 37 (.bin .sub (.t 36) (ci 1)) 30 true,263),(og 38 (.idxS 1 (.t 35) (.t 37)) 30 true,903),(og 39 (.ld false 1 (.t 38)) 30 true,1927),(og 40 (.bin .leq (.t 34) (.t 39)) 30 true,4095),(oo 41 (.pick (.t 30) (.t 40) (cb false)),8191)])
(cN 41
(sR [oo 4 (.mv (ci 8))]
.ret)
.skip))))
(.reg [om 13 5,bC 14 .add 13 (ci 1),om 5 14]))))))
(sR [oo 4 (.mv (ci 0))]
.ret))))
theorem oa_:as_ Tryz.prog 39=some (42,[.tmp 4],hz_):=by kernel_rfl
def en_:ad_:=(sR [oo 1 (.box 67 (.t 0)),oo 2 (.mv (.c (.sl 0 true []))),oo 3 (.mv (ci 0))]
(.seq (sR [fA 6 66 1,lF 7 1 6,oo 8 (.call (cf 74) [(.t 7),(ci 1024)]),om 4 8]
(sR [om 9 4,bC 10 .neq 9 (ci 0)]
(cN 10
(sR [om 11 4,oo 2 (.mv (.c (.sl 0 true []))),om 3 11]
.ret)
.skip)))
(.seq (.dreg [(fA 12 0 1,0),(lF 13 1 12,1),(oo 14 (.call (cf 63) [(.c (.sl 0 true [])),(.t 13)]),3),(fA 15 1 1,0),(lA 16 32 15,8),(kB 17 75 14 16,31),(om 5 17,63)])
(.seq (.dreg [(om 18 5,0),(fA 19 33 1,0),(lA 20 33 19,2),(kB 21 77 18 20,7),(fA 22 66 1,0),(lF 23 1 22,16),(kB 24 76 21 23,63),(om 2 24,127),(oo 3 (.mv (ci 0)),255)])
.ret))))
theorem hJ_:as_ Tryz.prog 43=some (25,[.tmp 2,.tmp 3],en_):=by kernel_rfl
def fb_:ad_:=(sR [oo 1 (.box 67 (.t 0)),oo 2 (.mv (.c (.sl 0 true []))),oo 3 (.mv (ci 0))]
(.seq (sR [fA 5 66 1,lF 6 1 5,oo 7 (.call (cf 39) [(.t 6),(ci 1024)]),om 4 7]
(sR [om 8 4,bC 9 .neq 8 (ci 0)]
(cN 9
(sR [om 10 4,oo 2 (.mv (.c (.sl 0 true []))),om 3 10]
.ret)
.skip)))
(.seq (.dreg [(fA 11 0 1,0),(lF 12 1 11,1),(oo 13 (.call (cf 32) [(.c (.sl 0 true [])),(.t 12)]),3),(fA 14 1 1,0),(lA 15 32 14,8),(kB 16 31 13 15,31),(fA 17 33 1,0),(lA 18 33 17,64),(kB 19 34 16 18,255),(fA 20 66 1,0),(lF 21 1 20,512),(kB 22 40 19 21,2047),(om 2 22,4095),(oo 3 (.mv (ci 0)),8191)])
.ret)))
theorem jT_:as_ Tryz.prog 10=some (23,[.tmp 2,.tmp 3],fb_):=by kernel_rfl
def em_:ad_:=(sR [oo 2 (.new (aX_ cI_)),oo 3 (.mv (ci 0)),oo 4 (.mv (ci 0))]
(sR [om 6 0,kA 7 78 6,om 5 7]
(.seq (.dreg [(om 8 5,0),(kA 9 79 8,1),(om 10 5,0),(oo 11 (.nilc (.t 10)),4),(fA 12 0 11,12),(lF 13 1 12,28),(kA 14 80 13,63),(fA 15 0 2,3),(sO 1 15 9,255),(fA 16 1 2,511),(sO 32 16 14,1023)])
(sR [om 17 5,oo 18 (.nilc (.t 17)),fA 19 0 18,lF 20 1 19,kA 21 81 20,fA 22 33 2,sO 33 22 21]
(sR [om 23 5,kA 24 82 23,fA 25 66 2,sO 1 25 24]
(.seq (sR [om 27 5,fA 28 66 2,lF 29 1 28,oo 30 (.bldS 1 1 [(.sl 0 true [])] [(0,(.t 29))]),kB 31 83 27 30,om 26 31,eX 32 0 26,eX 33 1 26,om 3 32,om 4 33]
(sR [om 34 4,bC 35 .neq 34 (ci 0)]
(cN 35
(sR [oo 36 (.bld (aX_ cI_) []),om 37 4,sO 67 2 36,oo 3 (.mv (ci 0)),om 4 37]
.ret)
.skip)))
(sR [lA 38 67 2,om 39 3,sO 67 2 38,om 3 39,oo 4 (.mv (ci 0))]
.ret)))))))
theorem hI_:as_ Tryz.prog 44=some (40,[.cell 2 true 67,.tmp 3,.tmp 4],em_):=by kernel_rfl
def fN_:ad_:=(sR [oo 2 (.box 67 (.t 0)),oo 3 (.box 67 (.t 1)),oo 4 (.mv (cb false))]
(sR [fA 5 0 2,lF 6 1 5,fA 7 0 3,lF 8 1 7,bI 9 .eql 6 8,om 10 9,og 11 (.fldA 1 (.t 2)) 10 true,og 12 (.ld true 32 (.t 11)) 10 true,og 13 (.fldA 1 (.t 3)) 10 true,og 14 (.ld true 32 (.t 13)) 10 true,og 15 (.eqa [(32,1)] false (.t 12) (.t 14)) 10 true,oo 16 (.pick (.t 10) (.t 15) (cb false)),om 17 16,og 18 (.fldA 33 (.t 2)) 17 true,og 19 (.ld true 33 (.t 18)) 17 true,og 20 (.fldA 33 (.t 3)) 17 true,og 21 (.ld true 33 (.t 20)) 17 true,og 22 (.eqa [(33,1)] false (.t 19) (.t 21)) 17 true,oo 23 (.pick (.t 17) (.t 22) (cb false)),om 24 23,og 25 (.fldA 66 (.t 2)) 24 true,og 26 (.ld false 1 (.t 25)) 24 true,og 27 (.fldA 66 (.t 3)) 24 true,og 28 (.ld false 1 (.t 27)) 24 true,og 29 (.call (cf 91) [(.t 26),(.t 28)]) 24 true,oo 30 (.pick (.t 24) (.t 29) (cb false)),om 4 30]
.ret))
theorem lg_:as_ Tryz.prog 48=some (31,[.tmp 4],fN_):=by kernel_rfl
def gg_:ad_:=(sR [oo 1 (.box 34 (.t 0)),oo 2 (.mv (.c (.sl 0 true []))),oo 3 (.mv (ci 0))]
(.seq (sR [fA 7 33 1,lF 8 1 7,lN 9 8,bC 10 .gtr 9 (ci 1024)]
(cN 10
(sR [oo 2 (.mv (.c (.sl 0 true []))),oo 3 (.mv (ci 3))]
.ret)
.skip))
(.seq (.dreg [(fA 11 0 1,0),(lA 12 33 11,1),(oo 13 (.call (cf 77) [(.c (.sl 0 true [])),(.t 12)]),3),(fA 14 33 1,0),(lF 15 1 14,8),(lN 16 15,24),(oo 17 (.cvt .u64 (.t 16)),56),(kB 18 63 13 17,127),(om 4 18,255)])
(.seq (sR [fA 19 33 1,lF 20 1 19,lN 21 20,oo 22 (.mv (ci 0))]
(.block 0 (.loop (sR [bI 23 .lss 22 21]
(.seq (cN 23
.skip
(.exit 0))
(.seq (.block 1 (sR [iX 24 1 20 22,lF 25 1 24,om 6 25]
(.reg [om 26 4,om 27 6,kB 28 63 26 27,om 4 28])))
(.reg [bC 29 .add 22 (ci 1),om 22 29])))))))
(sR [om 30 4,om 2 30,oo 3 (.mv (ci 0))]
.ret)))))
theorem mc_:as_ Tryz.prog 102=some (31,[.tmp 2,.tmp 3],gg_):=by kernel_rfl
def eZ_:ad_:=(sR [oo 1 (.box 70 (.t 0)),oo 2 (.mv (.c (.sl 0 true []))),oo 3 (.mv (ci 0))]
(sR [oo 4 (.mv (.c (.sl 0 true [])))]
(.seq (sR [fA 8 0 1,lA 9 35 8,fA 10 35 1,lA 11 35 10,oo 12 (.bldS 35 2 (bC_ rS_) [(0,(.t 9)),(1,(.t 11))]),lN 13 12,oo 14 (.mv (ci 0))]
(.block 0 (.loop (sR [bI 15 .lss 14 13]
(.seq (cN 15
.skip
(.exit 0))
(.seq (.block 1 (sR [iX 16 35 12 14,lA 17 35 16,oo 6 (.new (bC_ rS_)),sO 35 6 17]
(.seq (sR [fA 18 34 6,lF 19 1 18,oo 20 (.call (cf 74) [(.t 19),(ci 1024)]),om 7 20]
(sR [om 21 7,bC 22 .neq 21 (ci 0)]
(cN 22
(sR [om 23 7,oo 2 (.mv (.c (.sl 0 true []))),om 3 23]
.ret)
.skip)))
(.seq (.dreg [(om 24 4,0),(fA 25 0 6,0),(lF 26 1 25,2),(kB 27 63 24 26,7),(fA 28 1 6,0),(lF 29 1 28,16),(kB 30 63 27 29,63),(fA 31 2 6,0),(lA 32 32 31,128),(kB 33 75 30 32,511),(om 4 33,1023)])
(.reg [om 34 4,fA 35 34 6,lF 36 1 35,kB 37 76 34 36,om 4 37])))))
(.reg [bC 38 .add 14 (ci 1),om 14 38])))))))
(sR [om 39 4,om 2 39,oo 3 (.mv (ci 0))]
.ret))))
theorem jQ_:as_ Tryz.prog 101=some (40,[.tmp 2,.tmp 3],eZ_):=by kernel_rfl
def gj_:ad_:=(sR [oo 1 (.box 70 (.t 0)),oo 2 (.mv (.c (.sl 0 true []))),oo 3 (.mv (ci 0))]
(.seq (sR [fA 6 0 1,fA 7 34 6,lF 8 1 7,oo 9 (.call (cf 39) [(.t 8),(ci 1024)]),om 4 9]
(sR [om 10 4,bC 11 .neq 10 (ci 0)]
(cN 11
(sR [om 12 4,oo 2 (.mv (.c (.sl 0 true []))),om 3 12]
.ret)
.skip)))
(.seq (sR [fA 13 35 1,fA 14 34 13,lF 15 1 14,oo 16 (.call (cf 39) [(.t 15),(ci 1024)]),om 5 16]
(sR [om 17 5,bC 18 .neq 17 (ci 0)]
(cN 18
(sR [om 19 5,oo 2 (.mv (.c (.sl 0 true []))),om 3 19]
.ret)
.skip)))
(.seq (.dreg [(fA 20 0 1,0),(lA 21 35 20,1),(oo 22 (.call (cf 42) [(.c (.sl 0 true [])),(.t 21)]),3),(fA 23 35 1,0),(lA 24 35 23,8),(kB 25 42 22 24,31),(om 2 25,63),(oo 3 (.mv (ci 0)),127)])
.ret))))
theorem mf_:as_ Tryz.prog 12=some (26,[.tmp 2,.tmp 3],gj_):=by kernel_rfl
def eY_:ad_:=(sR [oo 2 (.new (bI_ cz_)),oo 3 (.mv (ci 0)),oo 4 (.mv (ci 0))]
(sR [om 6 0,kA 7 78 6,om 5 7]
(sR [om 8 5,kA 9 92 8,fA 10 0 2,sO 35 10 9]
(sR [om 11 5,kA 12 92 11,fA 13 35 2,sO 35 13 12]
(.seq (sR [om 15 5,fA 16 0 2,fA 17 34 16,lF 18 1 17,fA 19 35 2,fA 20 34 19,lF 21 1 20,oo 22 (.bldS 1 2 [(.sl 0 true [])] [(0,(.t 18)),(1,(.t 21))]),kB 23 83 15 22,om 14 23,eX 24 0 14,eX 25 1 14,om 3 24,om 4 25]
(sR [om 26 4,bC 27 .neq 26 (ci 0)]
(cN 27
(sR [oo 28 (.bld (bI_ cz_) []),om 29 4,sO 70 2 28,oo 3 (.mv (ci 0)),om 4 29]
.ret)
.skip)))
(sR [lA 30 70 2,om 31 3,sO 70 2 30,om 3 31,oo 4 (.mv (ci 0))]
.ret))))))
theorem jP_:as_ Tryz.prog 49=some (32,[.cell 2 true 70,.tmp 3,.tmp 4],eY_):=by kernel_rfl
def hy_:ad_:=(sR [oo 2 (.box 70 (.t 0)),oo 3 (.box 70 (.t 1)),oo 4 (.mv (cb false))]
(sR [fA 5 0 2,lA 6 35 5,fA 7 0 3,lA 8 35 7,kB 9 94 6 8,om 10 9,og 11 (.fldA 35 (.t 2)) 10 true,og 12 (.ld true 35 (.t 11)) 10 true,og 13 (.fldA 35 (.t 3)) 10 true,og 14 (.ld true 35 (.t 13)) 10 true,og 15 (.call (cf 94) [(.t 12),(.t 14)]) 10 true,oo 16 (.pick (.t 10) (.t 15) (cb false)),om 4 16]
.ret))
theorem nZ_:as_ Tryz.prog 51=some (17,[.tmp 4],hy_):=by kernel_rfl
def iq_:ad_:=(sR [oo 1 (.box 34 (.t 0)),oo 2 (.mv (.c (.sl 0 true []))),oo 3 (.mv (ci 0))]
(.seq (sR [fA 6 33 1,lF 7 1 6,lN 8 7,bC 9 .gtr 8 (ci 1024)]
(cN 9
(sR [oo 2 (.mv (.c (.sl 0 true []))),oo 3 (.mv (ci 3))]
.ret)
.skip))
(.seq (.dreg [(fA 10 0 1,0),(fA 11 0 10,1),(lF 12 1 11,3),(oo 13 (.call (cf 32) [(.c (.sl 0 true [])),(.t 12)]),7),(fA 14 0 1,0),(fA 15 1 14,16),(lA 16 32 15,48),(kB 17 31 13 16,127),(fA 18 33 1,0),(lF 19 1 18,256),(lN 20 19,768),(oo 21 (.cvt .u64 (.t 20)),1792),(kB 22 32 17 21,4095),(om 4 22,8191)])
(.seq (sR [oo 5 (.mv (ci 0))]
(.block 0 (.loop (.seq (sR [om 23 5,fA 24 33 1,lF 25 1 24,lN 26 25,bI 27 .lss 23 26]
(cN 27
.skip
(.exit 0)))
(.seq (.block 1 (.reg [om 30 4,fA 31 33 1,lF 32 1 31,om 33 5,iX 34 1 32 33,lF 35 1 34,kB 36 32 30 35,om 4 36]))
(.reg [om 28 5,bC 29 .add 28 (ci 1),om 5 29]))))))
(sR [om 37 4,om 2 37,oo 3 (.mv (ci 0))]
.ret)))))
theorem pq_:as_ Tryz.prog 14=some (38,[.tmp 2,.tmp 3],iq_):=by kernel_rfl
def fu_:ad_:=(sR [oo 1 (.box 34 (.t 0)),oo 2 (.mv (.c (.sl 0 true []))),oo 3 (.mv (ci 0))]
(.seq (sR [fA 4 1 1,lF 5 1 4,bC 6 .lss 5 (ci 1),om 7 6,og 8 (.fldA 1 (.t 1)) 7 false,og 9 (.ld false 1 (.t 8)) 7 false,og 10 (.bin .gtr (.t 9) (ci 4)) 7 false,oo 11 (.pick (.t 7) (cb true) (.t 10))]
(cN 11
(sR [oo 2 (.mv (.c (.sl 0 true []))),oo 3 (.mv (ci 3))]
.ret)
.skip))
(.seq (.dreg [(fA 12 0 1,0),(fA 13 0 12,1),(lF 14 1 13,3),(oo 15 (.call (cf 63) [(.c (.sl 0 true [])),(.t 14)]),7),(fA 16 1 1,0),(lF 17 1 16,16),(oo 18 (.cvt .u64 (.t 17)),48),(kB 19 63 15 18,127),(fA 20 2 1,0),(lA 21 32 20,256),(kB 22 75 19 21,1023),(om 2 22,2047),(oo 3 (.mv (ci 0)),4095)])
.ret)))
theorem kH_:as_ Tryz.prog 103=some (23,[.tmp 2,.tmp 3],fu_):=by kernel_rfl
def gO_:ad_:=(sR [oo 1 (.box 34 (.t 0)),oo 2 (.mv (.c (.sl 0 true []))),oo 3 (.mv (ci 0))]
(.seq (sR [fA 4 1 1,lF 5 1 4,bC 6 .lss 5 (ci 1),om 7 6,og 8 (.fldA 1 (.t 1)) 7 false,og 9 (.ld false 1 (.t 8)) 7 false,og 10 (.bin .gtr (.t 9) (ci 4)) 7 false,oo 11 (.pick (.t 7) (cb true) (.t 10))]
(cN 11
(sR [oo 2 (.mv (.c (.sl 0 true []))),oo 3 (.mv (ci 3))]
.ret)
.skip))
(.seq (.dreg [(fA 12 0 1,0),(fA 13 0 12,1),(lF 14 1 13,3),(oo 15 (.call (cf 32) [(.c (.sl 0 true [])),(.t 14)]),7),(fA 16 1 1,0),(lF 17 1 16,16),(oo 18 (.cvt .u64 (.t 17)),48),(kB 19 32 15 18,127),(fA 20 2 1,0),(lA 21 32 20,256),(kB 22 31 19 21,1023),(om 2 22,2047),(oo 3 (.mv (ci 0)),4095)])
.ret)))
theorem mP_:as_ Tryz.prog 107=some (23,[.tmp 2,.tmp 3],gO_):=by kernel_rfl
def ge_:ad_:=(sR [oo 2 (.new (aS_ ca_)),oo 3 (.mv (ci 0)),oo 4 (.mv (ci 0))]
(sR [om 8 0,kA 9 78 8,om 5 9]
(.seq (.dreg [(om 10 5,0),(kA 11 79 10,1),(om 12 5,0),(oo 13 (.nilc (.t 12)),4),(fA 14 0 13,12),(lF 15 1 14,28),(kA 16 80 15,63),(fA 17 0 2,3),(fA 18 0 17,131),(sO 1 18 11,511),(fA 19 0 2,1023),(fA 20 1 19,2047),(sO 32 20 16,4095)])
(sR [om 21 5,oo 22 (.nilc (.t 21)),fA 23 0 22,lF 24 1 23,oo 25 (.call (cf 95) [(.t 24),(cu 1024)]),om 6 25]
(.seq (sR [oo 7 (.mv (cu 0))]
(.block 0 (.loop (.seq (sR [om 26 7,om 27 6,bI 28 .lss 26 27,om 29 28,omg 30 5 29 true,og 31 (.nilc (.t 30)) 29 true,og 32 (.fldA 0 (.t 31)) 29 true,og 33 (.ld false 1 (.t 32)) 29 true,og 34 (.call (cf 96) [(.t 33)]) 29 true,og 35 (.bin .eql (.t 34) (ci 0)) 29 true,oo 36 (.pick (.t 29) (.t 35) (cb false))]
(cN 36
.skip
(.exit 0)))
(.seq (.block 1 (.dreg [(fA 39 33 2,0),(lF 40 1 39,1),(om 41 5,0),(kA 42 79 41,4),(oo 43 (.bldS 1 1 [(.int .u64 (0))] [(0,(.t 42))]),12),(oo 44 (.app 1 8 (.t 40) (.t 43)),31),(fA 45 33 2,63),(sO 1 45 44,127)]))
(.reg [om 37 7,bC 38 .add 37 (cu 1),om 7 38]))))))
(.seq (sR [om 47 5,oo 48 (.call (cf 83) [(.t 47),(.c (.sl 0 true []))]),om 46 48,eX 49 0 46,eX 50 1 46,om 3 49,om 4 50]
(sR [om 51 4,bC 52 .neq 51 (ci 0)]
(cN 52
(sR [oo 53 (.bld (aS_ ca_) []),om 54 4,sO 34 2 53,oo 3 (.mv (ci 0)),om 4 54]
.ret)
.skip)))
(sR [lA 55 34 2,om 56 3,sO 34 2 55,om 3 56,oo 4 (.mv (ci 0))]
.ret)))))))
theorem ma_:as_ Tryz.prog 52=some (57,[.cell 2 true 34,.tmp 3,.tmp 4],ge_):=by kernel_rfl
def kw_:ad_:=(sR [oo 2 (.box 34 (.t 0)),oo 3 (.box 34 (.t 1)),oo 4 (.mv (cb false))]
(sR [fA 5 0 2,lA 6 33 5,fA 7 0 3,lA 8 33 7,oo 9 (.eqa [(33,1)] false (.t 6) (.t 8)),om 10 9,og 11 (.fldA 33 (.t 2)) 10 true,og 12 (.ld false 1 (.t 11)) 10 true,og 13 (.fldA 33 (.t 3)) 10 true,og 14 (.ld false 1 (.t 13)) 10 true,og 15 (.call (cf 98) [(.t 12),(.t 14)]) 10 true,oo 16 (.pick (.t 10) (.t 15) (cb false)),om 4 16]
.ret))
theorem sh_:as_ Tryz.prog 54=some (17,[.tmp 4],kw_):=by kernel_rfl
def ft_:ad_:=(sR [oo 2 (.new (bW_ bL_)),oo 3 (.mv (ci 0)),oo 4 (.mv (ci 0))]
(sR [om 6 0,kA 7 78 6,om 5 7]
(sR [om 8 5,kA 9 79 8,fA 10 0 2,fA 11 0 10,sO 1 11 9]
(sR [om 12 5,oo 13 (.nilc (.t 12)),fA 14 0 13,lF 15 1 14,oo 16 (.call (cf 95) [(.t 15),(cu 4)]),oo 17 (.cvt .i64 (.t 16)),fA 18 1 2,sO 1 18 17]
(sR [om 19 5,oo 20 (.nilc (.t 19)),fA 21 0 20,lF 22 1 21,kA 23 80 22,fA 24 2 2,sO 32 24 23]
(sR [om 26 5,oo 27 (.call (cf 83) [(.t 26),(.c (.sl 0 true []))]),om 25 27,eX 28 0 25,eX 29 1 25,om 3 28,om 4 29]
(.seq (sR [om 30 4,bC 31 .eql 30 (ci 0),om 32 31,og 33 (.fldA 1 (.t 2)) 32 true,og 34 (.ld false 1 (.t 33)) 32 true,og 35 (.bin .eql (.t 34) (ci 0)) 32 true,oo 36 (.pick (.t 32) (.t 35) (cb false))]
(cN 36
(.reg [oo 4 (.mv (ci 2))])
.skip))
(.seq (sR [om 37 4,bC 38 .neq 37 (ci 0)]
(cN 38
(sR [oo 39 (.bld (bW_ bL_) []),om 40 4,sO 34 2 39,oo 3 (.mv (ci 0)),om 4 40]
.ret)
.skip))
(sR [lA 41 34 2,om 42 3,sO 34 2 41,om 3 42,oo 4 (.mv (ci 0))]
.ret)))))))))
theorem kG_:as_ Tryz.prog 55=some (43,[.cell 2 true 34,.tmp 3,.tmp 4],ft_):=by kernel_rfl
def gf_:ad_:=(sR [oo 1 (.box 238 (.t 0)),oo 2 (.mv (.c (.sl 0 true [])))]
(sR [fA 8 66 1,lF 9 1 8,oo 10 (.call (cf 63) [(.c (.sl 0 true [])),(.t 9)]),om 3 10]
(.seq (sR [fA 11 67 1,lA 12 32 11,fA 13 99 1,lA 14 32 13,fA 15 131 1,lA 16 32 15,oo 17 (.bldS 32 3 (rtc rt0) [(0,(.t 12)),(1,(.t 14)),(2,(.t 16))]),lN 18 17,oo 19 (.mv (ci 0))]
(.block 0 (.loop (sR [bI 20 .lss 19 18]
(.seq (cN 20
.skip
(.exit 0))
(.seq (.block 1 (sR [iX 21 32 17 19,lA 22 32 21,oo 5 (.new (rtc rt0)),sO 32 5 22]
(.reg [om 23 3,lA 24 32 5,kB 25 75 23 24,om 3 25])))
(.reg [bC 26 .add 19 (ci 1),om 19 26])))))))
(.seq (.dreg [(om 27 3,0),(fA 28 163 1,0),(lA 29 4 28,2),(kB 30 123 27 29,7),(fA 31 167 1,0),(lA 32 4 31,16),(kB 33 123 30 32,63),(om 3 33,127)])
(.seq (sR [fA 34 171 1,lA 35 33 34,fA 36 204 1,lA 37 33 36,fA 38 0 1,fA 39 0 38,lA 40 33 39,fA 41 0 1,fA 42 33 41,lA 43 33 42,oo 44 (.bldS 33 4 (cpC cp0) [(0,(.t 35)),(1,(.t 37)),(2,(.t 40)),(3,(.t 43))]),lN 45 44,oo 46 (.mv (ci 0))]
(.block 2 (.loop (sR [bI 47 .lss 46 45]
(.seq (cN 47
.skip
(.exit 2))
(.seq (.block 3 (sR [iX 48 33 44 46,lA 49 33 48,oo 7 (.new (cpC cp0)),sO 33 7 49]
(.reg [om 50 3,lA 51 33 7,kB 52 77 50 51,om 3 52])))
(.reg [bC 53 .add 46 (ci 1),om 46 53])))))))
(sR [om 54 3,fA 55 237 1,lF 56 1 55,kB 57 124 54 56,om 2 57]
.ret))))))
theorem mb_:as_ Tryz.prog 100=some (58,[.tmp 2],gf_):=by kernel_rfl
def gd_:ad_:=(sR [oo 2 (.new (aw_ bj_)),oo 3 (.mv (ci 0)),oo 4 (.mv (ci 0))]
(sR [om 6 0,kA 7 78 6,om 5 7]
(sR [om 8 5,kA 9 79 8,fA 10 66 2,sO 1 10 9]
(.seq (.dreg [(om 11 5,0),(oo 12 (.nilc (.t 11)),1),(fA 13 0 12,3),(lF 14 1 13,7),(kA 15 80 14,15),(om 16 5,0),(oo 17 (.nilc (.t 16)),32),(fA 18 0 17,96),(lF 19 1 18,224),(kA 20 80 19,511),(om 21 5,0),(oo 22 (.nilc (.t 21)),1024),(fA 23 0 22,3072),(lF 24 1 23,7168),(kA 25 80 24,16383),(fA 26 67 2,31),(sO 32 26 15,65535),(fA 27 99 2,131071),(sO 32 27 20,262143),(fA 28 131 2,524287),(sO 32 28 25,1048575)])
(.seq (.dreg [(om 29 5,0),(oo 30 (.nilc (.t 29)),1),(fA 31 0 30,3),(lF 32 1 31,7),(kA 33 84 32,15),(om 34 5,0),(oo 35 (.nilc (.t 34)),32),(fA 36 0 35,96),(lF 37 1 36,224),(kA 38 84 37,511),(fA 39 163 2,31),(sO 4 39 33,2047),(fA 40 167 2,4095),(sO 4 40 38,8191)])
(.seq (.dreg [(om 41 5,0),(oo 42 (.nilc (.t 41)),1),(fA 43 0 42,3),(lF 44 1 43,7),(kA 45 81 44,15),(om 46 5,0),(oo 47 (.nilc (.t 46)),32),(fA 48 0 47,96),(lF 49 1 48,224),(kA 50 81 49,511),(fA 51 171 2,31),(sO 33 51 45,2047),(fA 52 204 2,4095),(sO 33 52 50,8191)])
(.seq (.dreg [(om 53 5,0),(oo 54 (.nilc (.t 53)),1),(fA 55 0 54,3),(lF 56 1 55,7),(kA 57 81 56,15),(om 58 5,0),(oo 59 (.nilc (.t 58)),32),(fA 60 0 59,96),(lF 61 1 60,224),(kA 62 81 61,511),(fA 63 0 2,31),(fA 64 0 63,1055),(sO 33 64 57,4095),(fA 65 0 2,8191),(fA 66 33 65,16383),(sO 33 66 62,32767)])
(sR [om 67 5,oo 68 (.nilc (.t 67)),fA 69 0 68,lF 70 1 69,kA 71 85 70,fA 72 237 2,sO 1 72 71]
(.seq (sR [om 74 5,oo 75 (.call (cf 83) [(.t 74),(.c (.sl 0 true []))]),om 73 75,eX 76 0 73,eX 77 1 73,om 3 76,om 4 77]
(sR [om 78 4,bC 79 .neq 78 (ci 0)]
(cN 79
(sR [oo 80 (.bld (aw_ bj_) []),om 81 4,sO 238 2 80,oo 3 (.mv (ci 0)),om 4 81]
.ret)
.skip)))
(sR [lA 82 238 2,om 83 3,sO 238 2 82,om 3 83,oo 4 (.mv (ci 0))]
.ret))))))))))
theorem lZ_:as_ Tryz.prog 45=some (84,[.cell 2 true 238,.tmp 3,.tmp 4],gd_):=by kernel_rfl
def qo_:ad_:=(sR [oo 3 (.box 238 (.t 1)),oo 4 (.mv (.c (.sl 0 true [])))]
(.seq (.dreg [(om 5 0,0),(fA 6 66 3,0),(lF 7 1 6,2),(kB 8 32 5 7,7),(fA 9 67 3,0),(lA 10 32 9,16),(kB 11 31 8 10,63),(fA 12 99 3,0),(lA 13 32 12,128),(kB 14 31 11 13,511),(fA 15 131 3,0),(lA 16 32 15,1024),(kB 17 31 14 16,4095),(om 0 17,8191)])
(.seq (.dreg [(om 18 0,0),(fA 19 163 3,0),(lA 20 4 19,2),(kB 21 33 18 20,7),(fA 22 167 3,0),(lA 23 4 22,16),(kB 24 33 21 23,63),(om 0 24,127)])
(.seq (.dreg [(om 25 0,0),(fA 26 171 3,0),(lA 27 33 26,2),(kB 28 34 25 27,7),(fA 29 204 3,0),(lA 30 33 29,16),(kB 31 34 28 30,63),(om 0 31,127)])
(.seq (.dreg [(om 32 0,0),(fA 33 0 3,0),(fA 34 0 33,2),(lA 35 33 34,6),(kB 36 34 32 35,15),(fA 37 0 3,0),(fA 38 33 37,32),(lA 39 33 38,96),(kB 40 34 36 39,255),(fA 41 237 3,0),(lF 42 1 41,512),(kB 43 35 40 42,2047),(om 4 43,4095)])
.ret)))))
theorem Cg_:as_ Tryz.prog 8=some (44,[.tmp 4],qo_):=by kernel_rfl
def io_:ad_:=(sR [oo 2 (.new (aw_ bj_)),oo 3 (.mv (ci 0)),oo 4 (.mv (ci 0))]
(sR [om 7 0,oo 8 (.bld [(.sl 0 true []),(.int .i64 (0)),(.int .i64 (0))] [(0,1,(.t 7))]),oo 9 (.box 3 (.t 8)),om 5 9]
(sR [om 10 5,kA 11 86 10,oo 6 (.new (aw_ bj_)),sO 238 6 11]
(.seq (sR [om 12 5,oo 13 (.nilc (.t 12)),fA 14 2 13,lF 15 1 14,bC 16 .neq 15 (ci 0)]
(cN 16
(.seq (.dreg [(oo 17 (.bld (aw_ bj_) []),0),(om 18 5,0),(oo 19 (.nilc (.t 18)),2),(fA 20 2 19,6),(lF 21 1 20,14),(sO 238 2 17,1),(oo 3 (.mv (ci 0)),33),(om 4 21,127)])
.ret)
.skip))
(.seq (.dreg [(lA 22 238 6,0),(om 23 5,0),(oo 24 (.nilc (.t 23)),2),(fA 25 1 24,6),(lF 26 1 25,14),(sO 238 2 22,1),(om 3 26,63),(oo 4 (.mv (ci 0)),127)])
.ret)))))
theorem po_:as_ Tryz.prog 46=some (27,[.cell 2 true 238,.tmp 3,.tmp 4],io_):=by kernel_rfl
def fa_:ad_:=(sR [oo 2 (.new (aX_ cI_)),oo 3 (.mv (ci 0)),oo 4 (.mv (ci 0))]
(sR [om 7 0,oo 8 (.bld [(.sl 0 true []),(.int .i64 (0)),(.int .i64 (0))] [(0,1,(.t 7))]),oo 9 (.box 3 (.t 8)),om 5 9]
(sR [om 10 5,oo 11 (.call (cf 87) [(.t 10),(cu 18446744073709551615)]),om 12 5,kA 13 88 12,om 14 5,kA 15 89 14,oo 16 (.bld (aX_ cI_) [(0,1,(.t 11)),(1,32,(.t 13)),(33,33,(.t 15))]),oo 6 (.new (aX_ cI_)),sO 67 6 16]
(sR [om 17 5,kA 18 90 17,fA 19 66 6,sO 1 19 18]
(.seq (sR [om 20 5,oo 21 (.nilc (.t 20)),fA 22 2 21,lF 23 1 22,bC 24 .neq 23 (ci 0)]
(cN 24
(.seq (.dreg [(oo 25 (.bld (aX_ cI_) []),0),(om 26 5,0),(oo 27 (.nilc (.t 26)),2),(fA 28 2 27,6),(lF 29 1 28,14),(sO 67 2 25,1),(oo 3 (.mv (ci 0)),33),(om 4 29,127)])
.ret)
.skip))
(.seq (sR [fA 30 66 6,lF 31 1 30,oo 32 (.call (cf 39) [(.t 31),(ci 1024)]),bC 33 .neq 32 (ci 0)]
(cN 33
(sR [oo 34 (.bld (aX_ cI_) []),sO 67 2 34,oo 3 (.mv (ci 0)),oo 4 (.mv (ci 2))]
.ret)
.skip))
(.seq (.dreg [(lA 35 67 6,0),(om 36 5,0),(oo 37 (.nilc (.t 36)),2),(fA 38 1 37,6),(lF 39 1 38,14),(sO 67 2 35,1),(om 3 39,63),(oo 4 (.mv (ci 0)),127)])
.ret)))))))
theorem jS_:as_ Tryz.prog 47=some (40,[.cell 2 true 67,.tmp 3,.tmp 4],fa_):=by kernel_rfl
def gi_:ad_:=(sR [oo 2 (.new (bI_ cz_)),oo 3 (.mv (ci 0)),oo 4 (.mv (ci 0))]
(sR [om 9 0,oo 10 (.bld [(.sl 0 true []),(.int .i64 (0)),(.int .i64 (0))] [(0,1,(.t 9))]),oo 11 (.box 3 (.t 10)),om 5 11]
(sR [om 12 5,kA 13 93 12,om 14 5,kA 15 93 14,oo 16 (.bld (bI_ cz_) [(0,35,(.t 13)),(35,35,(.t 15))]),oo 6 (.new (bI_ cz_)),sO 70 6 16]
(.seq (sR [om 17 5,oo 18 (.nilc (.t 17)),fA 19 2 18,lF 20 1 19,bC 21 .neq 20 (ci 0)]
(cN 21
(.seq (.dreg [(oo 22 (.bld (bI_ cz_) []),0),(om 23 5,0),(oo 24 (.nilc (.t 23)),2),(fA 25 2 24,6),(lF 26 1 25,14),(sO 70 2 22,1),(oo 3 (.mv (ci 0)),33),(om 4 26,127)])
.ret)
.skip))
(.seq (sR [lA 28 70 6,kA 29 12 28,om 27 29,eX 30 0 27,eX 31 1 27,om 7 30,om 8 31]
(sR [om 32 8,bC 33 .neq 32 (ci 0)]
(cN 33
(sR [oo 34 (.bld (bI_ cz_) []),sO 70 2 34,oo 3 (.mv (ci 0)),oo 4 (.mv (ci 2))]
.ret)
.skip)))
(.seq (.dreg [(lA 35 70 6,0),(om 36 5,0),(oo 37 (.nilc (.t 36)),2),(fA 38 1 37,6),(lF 39 1 38,14),(sO 70 2 35,1),(om 3 39,63),(oo 4 (.mv (ci 0)),127)])
.ret))))))
theorem me_:as_ Tryz.prog 50=some (40,[.cell 2 true 70,.tmp 3,.tmp 4],gi_):=by kernel_rfl
def ip_:ad_:=(sR [oo 2 (.new (aS_ ca_)),oo 3 (.mv (ci 0)),oo 4 (.mv (ci 0))]
(sR [om 7 0,oo 8 (.bld [(.sl 0 true []),(.int .i64 (0)),(.int .i64 (0))] [(0,1,(.t 7))]),oo 9 (.box 3 (.t 8)),om 5 9]
(sR [om 10 5,kA 11 97 10,oo 6 (.new (aS_ ca_)),sO 34 6 11]
(.seq (sR [om 12 5,oo 13 (.nilc (.t 12)),fA 14 2 13,lF 15 1 14,bC 16 .neq 15 (ci 0)]
(cN 16
(.seq (.dreg [(oo 17 (.bld (aS_ ca_) []),0),(om 18 5,0),(oo 19 (.nilc (.t 18)),2),(fA 20 2 19,6),(lF 21 1 20,14),(sO 34 2 17,1),(oo 3 (.mv (ci 0)),33),(om 4 21,127)])
.ret)
.skip))
(.seq (.dreg [(lA 22 34 6,0),(om 23 5,0),(oo 24 (.nilc (.t 23)),2),(fA 25 1 24,6),(lF 26 1 25,14),(sO 34 2 22,1),(om 3 26,63),(oo 4 (.mv (ci 0)),127)])
.ret)))))
theorem pp_:as_ Tryz.prog 53=some (27,[.cell 2 true 34,.tmp 3,.tmp 4],ip_):=by kernel_rfl
def gN_:ad_:=(sR [oo 2 (.new (bW_ bL_)),oo 3 (.mv (ci 0)),oo 4 (.mv (ci 0))]
(sR [om 7 0,oo 8 (.bld [(.sl 0 true []),(.int .i64 (0)),(.int .i64 (0))] [(0,1,(.t 7))]),oo 9 (.box 3 (.t 8)),om 5 9]
(sR [om 10 5,oo 11 (.call (cf 87) [(.t 10),(cu 18446744073709551615)]),oo 12 (.bld [(.int .u64 (0))] [(0,1,(.t 11))]),om 13 5,oo 14 (.call (cf 87) [(.t 13),(cu 4)]),oo 15 (.cvt .i64 (.t 14)),om 16 5,kA 17 88 16,oo 18 (.bld (bW_ bL_) [(0,1,(.t 12)),(1,1,(.t 15)),(2,32,(.t 17))]),oo 6 (.new (bW_ bL_)),sO 34 6 18]
(.seq (sR [om 19 5,oo 20 (.nilc (.t 19)),fA 21 2 20,lF 22 1 21,bC 23 .neq 22 (ci 0)]
(cN 23
(.seq (.dreg [(oo 24 (.bld (bW_ bL_) []),0),(om 25 5,0),(oo 26 (.nilc (.t 25)),2),(fA 27 2 26,6),(lF 28 1 27,14),(sO 34 2 24,1),(oo 3 (.mv (ci 0)),33),(om 4 28,127)])
.ret)
.skip))
(.seq (sR [fA 29 1 6,lF 30 1 29,bC 31 .eql 30 (ci 0)]
(cN 31
(sR [oo 32 (.bld (bW_ bL_) []),sO 34 2 32,oo 3 (.mv (ci 0)),oo 4 (.mv (ci 2))]
.ret)
.skip))
(.seq (.dreg [(lA 33 34 6,0),(om 34 5,0),(oo 35 (.nilc (.t 34)),2),(fA 36 1 35,6),(lF 37 1 36,14),(sO 34 2 33,1),(om 3 37,63),(oo 4 (.mv (ci 0)),127)])
.ret))))))
theorem mO_:as_ Tryz.prog 56=some (38,[.cell 2 true 34,.tmp 3,.tmp 4],gN_):=by kernel_rfl
def gJ_:ad_:=(sR [oo 4 (.mv (.c (.sl 0 true [])))]
(sR [om 7 0,om 8 1,lN 9 8,oo 10 (.cvt .u64 (.t 9)),kB 11 63 7 10,om 0 11]
(.seq (sR [om 12 1,lN 13 12,oo 14 (.mv (ci 0))]
(.block 0 (.loop (sR [bI 15 .lss 14 13]
(.seq (cN 15
.skip
(.exit 0))
(.seq (.block 1 (sR [om 16 14,iX 17 1 12 14,lF 18 1 17,om 5 16,om 6 18]
(.seq (sR [om 19 5,bC 20 .gtr 19 (ci 0)]
(cN 20
(.reg [om 21 6,om 22 1,om 23 5,bC 24 .sub 23 (ci 1),iX 25 1 22 24,lF 26 1 25,bC 27 .add 26 (ci 1),bI 28 .sub 21 27,om 6 28])
.skip))
(.reg [om 29 0,om 30 6,oo 31 (.cvt .u64 (.t 30)),kB 32 63 29 31,om 0 32]))))
(.reg [bC 33 .add 14 (ci 1),om 14 33])))))))
(sR [om 34 0,om 4 34]
.ret))))
theorem mK_:as_ Tryz.prog 76=some (35,[.tmp 4],gJ_):=by kernel_rfl
def ta_:ad_:=(sR [oo 4 (.mv (.c (.sl 0 true [])))]
(sR [om 6 0,om 7 1,lN 8 7,oo 9 (.cvt .u64 (.t 8)),kB 10 32 6 9,om 0 10]
(.seq (sR [oo 5 (.mv (ci 0))]
(.block 0 (.loop (.seq (sR [om 11 5,om 12 1,lN 13 12,bI 14 .lss 11 13]
(cN 14
.skip
(.exit 0)))
(.seq (.block 1 (sR [om 17 5,bC 18 .eql 17 (ci 0)]
(cN 18
(.reg [om 19 0,om 20 1,oo 21 (.idxS 1 (.t 20) (ci 0)),lF 22 1 21,oo 23 (.cvt .u64 (.t 22)),kB 24 32 19 23,om 0 24])
(.dreg [(om 25 0,0),(om 26 1,0),(om 27 5,0),(iX 28 1 26 27,6),(lF 29 1 28,14),(om 30 1,0),(om 31 5,0),(bC 32 .sub 31 (ci 1),64),(iX 33 1 30 32,224),(lF 34 1 33,480),(bI 35 .sub 29 34,1022),(bC 36 .sub 35 (ci 1),2046),(oo 37 (.cvt .u64 (.t 36)),4094),(kB 38 32 25 37,8191),(om 0 38,16383)]))))
(.reg [om 15 5,bC 16 .add 15 (ci 1),om 5 16]))))))
(sR [om 39 0,om 4 39]
.ret))))
theorem Ef_:as_ Tryz.prog 40=some (40,[.tmp 4],ta_):=by kernel_rfl
def hv_:ad_:=(sR [oo 2 (.mv (.c .nilp))]
(sR [om 3 0,kA 4 108 3,om 5 0,lN 6 5,oo 7 (.bld [.nilp,(.int .i64 (0))] [(0,1,(.t 4)),(1,1,(.t 6))]),oo 8 (.box 2 (.t 7)),om 2 8]
.ret))
theorem nW_:as_ Tryz.prog 78=some (9,[.tmp 2],hv_):=by kernel_rfl
def fv_:ad_:=(sR [oo 2 (.mv (cu 0))]
(sR [om 3 0,oo 4 (.nilc (.t 3)),fA 5 0 4,lF 6 1 5,oo 7 (.call (cf 95) [(.t 6),(cu 18446744073709551615)]),om 2 7]
.ret))
theorem kI_:as_ Tryz.prog 79=some (8,[.tmp 2],fv_):=by kernel_rfl
def gh_:ad_:=(sR [oo 2 (.mv (.c (.sl 0 true [])))]
(sR [oo 3 (.mv (.c (.sl 0 true [])))]
(sR [om 7 0,oo 8 (.nilc (.t 7)),fA 9 0 8,lF 10 1 9,oo 11 (.call (cf 95) [(.t 10),(cu 1024)]),oo 12 (.cvt .i64 (.t 11)),om 4 12]
(.seq (sR [oo 5 (.mv (ci 0))]
(.block 0 (.loop (.seq (sR [om 13 5,om 14 4,bI 15 .lss 13 14,om 16 15,omg 17 0 16 true,og 18 (.nilc (.t 17)) 16 true,og 19 (.fldA 0 (.t 18)) 16 true,og 20 (.ld false 1 (.t 19)) 16 true,og 21 (.call (cf 96) [(.t 20)]) 16 true,og 22 (.bin .eql (.t 21) (ci 0)) 16 true,oo 23 (.pick (.t 16) (.t 22) (cb false))]
(cN 23
.skip
(.exit 0)))
(.seq (.block 1 (sR [om 26 0,oo 27 (.nilc (.t 26)),fA 28 0 27,lF 29 1 28,oo 30 (.call (cf 95) [(.t 29),(cu 1024)]),oo 31 (.cvt .i64 (.t 30)),om 6 31]
(.seq (sR [om 32 5,bC 33 .gtr 32 (ci 0)]
(cN 33
(.reg [om 34 6,om 35 3,om 36 5,bC 37 .sub 36 (ci 1),iX 38 1 35 37,lF 39 1 38,bC 40 .add 39 (ci 1),bI 41 .add 34 40,om 6 41])
.skip))
(.reg [om 42 3,om 43 6,oo 44 (.bldS 1 1 [(.int .i64 (0))] [(0,(.t 43))]),oo 45 (.app 1 8 (.t 42) (.t 44)),om 3 45]))))
(.reg [om 24 5,bC 25 .add 24 (ci 1),om 5 25]))))))
(sR [om 46 3,om 2 46]
.ret)))))
theorem md_:as_ Tryz.prog 82=some (47,[.tmp 2],gh_):=by kernel_rfl
def gK_:ad_:=(sR [oo 4 (.mv (ci 0)),oo 5 (.mv (ci 0))]
(.seq (sR [om 9 0,oo 10 (.nilc (.t 9)),fA 11 0 10,lF 12 1 11,kA 13 96 12,om 6 13]
(sR [om 14 6,bC 15 .neq 14 (ci 0)]
(cN 15
(sR [om 16 6,oo 4 (.mv (ci 0)),om 5 16]
.ret)
.skip)))
(.seq (sR [om 17 1,lN 18 17,oo 19 (.mv (ci 0))]
(.block 0 (.loop (sR [bI 20 .lss 19 18]
(.seq (cN 20
.skip
(.exit 0))
(.seq (.block 1 (sR [iX 21 1 17 19,lF 22 1 21,om 8 22]
(sR [om 23 8,oo 24 (.call (cf 74) [(.t 23),(ci 1024)]),bC 25 .neq 24 (ci 0)]
(cN 25
(sR [oo 4 (.mv (ci 0)),oo 5 (.mv (ci 2))]
.ret)
.skip))))
(.reg [bC 26 .add 19 (ci 1),om 19 26])))))))
(.seq (.dreg [(om 27 0,0),(oo 28 (.nilc (.t 27)),1),(fA 29 1 28,3),(lF 30 1 29,7),(om 31 0,0),(oo 32 (.nilc (.t 31)),16),(fA 33 0 32,48),(lF 34 1 33,112),(kA 35 109 34,240),(bI 36 .sub 30 35,511),(om 4 36,1023),(oo 5 (.mv (ci 0)),2047)])
.ret))))
theorem mL_:as_ Tryz.prog 83=some (37,[.tmp 4,.tmp 5],gK_):=by kernel_rfl
def lK_:ad_:=(sR [oo 4 (.mv (cb false))]
(.seq (sR [om 6 0,lN 7 6,om 8 1,lN 9 8,bI 10 .neq 7 9]
(cN 10
(sR [oo 4 (.mv (cb false))]
.ret)
.skip))
(.seq (sR [oo 5 (.mv (ci 0))]
(.block 0 (.loop (.seq (sR [om 11 5,om 12 0,lN 13 12,bI 14 .lss 11 13]
(cN 14
.skip
(.exit 0)))
(.seq (.block 1 (.seq (.dreg [(om 17 0,0),(om 18 5,0),(iX 19 1 17 18,3),(lF 20 1 19,7),(om 21 1,0),(om 22 5,0),(iX 23 1 21 22,48),(lF 24 1 23,112),(bI 25 .neq 20 24,255)])
(cN 25
(sR [oo 4 (.mv (cb false))]
.ret)
.skip)))
(.reg [om 15 5,bC 16 .add 15 (ci 1),om 5 16]))))))
(sR [oo 4 (.mv (cb true))]
.ret))))
theorem tS_:as_ Tryz.prog 91=some (26,[.tmp 4],lK_):=by kernel_rfl
def kZ_:ad_:=(sR [oo 3 (.box 35 (.t 1)),oo 4 (.mv (.c (.sl 0 true [])))]
(.seq (.dreg [(om 5 0,0),(fA 6 0 3,0),(lF 7 1 6,2),(kB 8 32 5 7,7),(fA 9 1 3,0),(lF 10 1 9,16),(kB 11 32 8 10,63),(fA 12 2 3,0),(lA 13 32 12,128),(kB 14 31 11 13,511),(fA 15 34 3,0),(lF 16 1 15,1024),(kB 17 40 14 16,4095),(om 4 17,8191)])
.ret))
theorem qQ_:as_ Tryz.prog 42=some (18,[.tmp 4],kZ_):=by kernel_rfl
def fJ_:ad_:=(sR [oo 2 (.new (bC_ rS_))]
(sR [om 4 0,kA 5 79 4,om 6 0,kA 7 79 6,oo 8 (.bld (bC_ rS_) [(0,1,(.t 5)),(1,1,(.t 7))]),oo 3 (.new (bC_ rS_)),sO 35 3 8]
(sR [om 9 0,oo 10 (.nilc (.t 9)),fA 11 0 10,lF 12 1 11,kA 13 80 12,fA 14 2 3,sO 32 14 13]
(sR [om 15 0,kA 16 82 15,fA 17 34 3,sO 1 17 16]
(sR [lA 18 35 3,sO 35 2 18]
.ret)))))
theorem lf_:as_ Tryz.prog 92=some (19,[.cell 2 true 35],fJ_):=by kernel_rfl
def kv_:ad_:=(sR [oo 2 (.box 35 (.t 0)),oo 3 (.box 35 (.t 1)),oo 4 (.mv (cb false))]
(sR [fA 5 0 2,lF 6 1 5,fA 7 0 3,lF 8 1 7,bI 9 .eql 6 8,om 10 9,og 11 (.fldA 1 (.t 2)) 10 true,og 12 (.ld false 1 (.t 11)) 10 true,og 13 (.fldA 1 (.t 3)) 10 true,og 14 (.ld false 1 (.t 13)) 10 true,og 15 (.bin .eql (.t 12) (.t 14)) 10 true,oo 16 (.pick (.t 10) (.t 15) (cb false)),om 17 16,og 18 (.fldA 2 (.t 2)) 17 true,og 19 (.ld true 32 (.t 18)) 17 true,og 20 (.fldA 2 (.t 3)) 17 true,og 21 (.ld true 32 (.t 20)) 17 true,og 22 (.eqa [(32,1)] false (.t 19) (.t 21)) 17 true,oo 23 (.pick (.t 17) (.t 22) (cb false)),om 24 23,og 25 (.fldA 34 (.t 2)) 24 true,og 26 (.ld false 1 (.t 25)) 24 true,og 27 (.fldA 34 (.t 3)) 24 true,og 28 (.ld false 1 (.t 27)) 24 true,og 29 (.call (cf 91) [(.t 26),(.t 28)]) 24 true,oo 30 (.pick (.t 24) (.t 29) (cb false)),om 4 30]
.ret))
theorem sg_:as_ Tryz.prog 94=some (31,[.tmp 4],kv_):=by kernel_rfl
def ix_:ad_:=(sR [oo 4 (.mv (cb false))]
(.seq (sR [om 6 0,lN 7 6,om 8 1,lN 9 8,bI 10 .neq 7 9]
(cN 10
(sR [oo 4 (.mv (cb false))]
.ret)
.skip))
(.seq (sR [oo 5 (.mv (ci 0))]
(.block 0 (.loop (.seq (sR [om 11 5,om 12 0,lN 13 12,bI 14 .lss 11 13]
(cN 14
.skip
(.exit 0)))
(.seq (.block 1 (.seq (.dreg [(om 17 0,0),(om 18 5,0),(iX 19 1 17 18,3),(lF 20 1 19,7),(om 21 1,0),(om 22 5,0),(iX 23 1 21 22,48),(lF 24 1 23,112),(bI 25 .neq 20 24,255)])
(cN 25
(sR [oo 4 (.mv (cb false))]
.ret)
.skip)))
(.reg [om 15 5,bC 16 .add 15 (ci 1),om 5 16]))))))
(sR [oo 4 (.mv (cb true))]
.ret))))
theorem px_:as_ Tryz.prog 98=some (26,[.tmp 4],ix_):=by kernel_rfl
def kt_:ad_:=(sR [oo 2 (.new (aw_ bj_))]
(sR [om 4 0,oo 5 (.call (cf 87) [(.t 4),(cu 18446744073709551615)]),om 6 0,kA 7 88 6,om 8 0,kA 9 88 8,om 10 0,kA 11 88 10,om 12 0,kA 13 117 12,om 14 0,kA 15 117 14,om 16 0,kA 17 89 16,om 18 0,kA 19 89 18,oo 20 (.bld (aw_ bj_) [(66,1,(.t 5)),(67,32,(.t 7)),(99,32,(.t 9)),(131,32,(.t 11)),(163,4,(.t 13)),(167,4,(.t 15)),(171,33,(.t 17)),(204,33,(.t 19))]),oo 3 (.new (aw_ bj_)),sO 238 3 20]
(sR [om 21 0,kA 22 89 21,fA 23 0 3,fA 24 0 23,sO 33 24 22]
(sR [om 25 0,kA 26 89 25,fA 27 0 3,fA 28 33 27,sO 33 28 26]
(sR [om 29 0,kA 30 118 29,fA 31 237 3,sO 1 31 30]
(sR [lA 32 238 3,sO 238 2 32]
.ret))))))
theorem se_:as_ Tryz.prog 86=some (33,[.cell 2 true 238],kt_):=by kernel_rfl
def lL_:ad_:=(sR [oo 2 (.mv (.c (.sl 0 true [])))]
(sR [om 7 0,oo 8 (.call (cf 87) [(.t 7),(cu 1024)]),oo 9 (.cvt .i64 (.t 8)),om 3 9]
(sR [oo 4 (.mv (.c (.sl 0 true [])))]
(sR [oo 5 (.mv (ci (-1)))]
(.seq (sR [oo 6 (.mv (ci 0))]
(.block 0 (.loop (.seq (sR [om 10 6,om 11 3,bI 12 .lss 10 11,om 13 12,omg 14 0 13 true,og 15 (.nilc (.t 14)) 13 true,og 16 (.fldA 2 (.t 15)) 13 true,og 17 (.ld false 1 (.t 16)) 13 true,og 18 (.bin .eql (.t 17) (ci 0)) 13 true,oo 19 (.pick (.t 13) (.t 18) (cb false))]
(cN 19
.skip
(.exit 0)))
(.seq (.block 1 (sR [om 22 5,bC 23 .add 22 (ci 1),om 24 0,oo 25 (.call (cf 87) [(.t 24),(cu 1024)]),oo 26 (.cvt .i64 (.t 25)),bI 27 .add 23 26,om 5 27]
(.reg [om 28 4,om 29 5,oo 30 (.bldS 1 1 [(.int .i64 (0))] [(0,(.t 29))]),oo 31 (.app 1 8 (.t 28) (.t 30)),om 4 31])))
(.reg [om 20 6,bC 21 .add 20 (ci 1),om 6 21]))))))
(sR [om 32 4,om 2 32]
.ret))))))
theorem tT_:as_ Tryz.prog 90=some (33,[.tmp 2],lL_):=by kernel_rfl
def kx_:ad_:=(sR [oo 2 (.new (bC_ rS_))]
(sR [om 4 0,oo 5 (.call (cf 87) [(.t 4),(cu 18446744073709551615)]),om 6 0,oo 7 (.call (cf 87) [(.t 6),(cu 18446744073709551615)]),om 8 0,kA 9 88 8,oo 10 (.bld (bC_ rS_) [(0,1,(.t 5)),(1,1,(.t 7)),(2,32,(.t 9))]),oo 3 (.new (bC_ rS_)),sO 35 3 10]
(sR [om 11 0,kA 12 90 11,fA 13 34 3,sO 1 13 12]
(sR [lA 14 35 3,sO 35 2 14]
.ret))))
theorem si_:as_ Tryz.prog 93=some (15,[.cell 2 true 35],kx_):=by kernel_rfl
def ku_:ad_:=(sR [oo 2 (.new (aS_ ca_))]
(sR [om 6 0,oo 7 (.call (cf 87) [(.t 6),(cu 18446744073709551615)]),om 8 0,kA 9 88 8,oo 10 (.bld (cpC cp0) [(0,1,(.t 7)),(1,32,(.t 9))]),oo 11 (.bld (aS_ ca_) [(0,33,(.t 10))]),oo 3 (.new (aS_ ca_)),sO 34 3 11]
(sR [om 12 0,oo 13 (.call (cf 87) [(.t 12),(cu 1024)]),oo 14 (.cvt .i64 (.t 13)),om 4 14]
(.seq (sR [oo 5 (.mv (ci 0))]
(.block 0 (.loop (.seq (sR [om 15 5,om 16 4,bI 17 .lss 15 16,om 18 17,omg 19 0 18 true,og 20 (.nilc (.t 19)) 18 true,og 21 (.fldA 2 (.t 20)) 18 true,og 22 (.ld false 1 (.t 21)) 18 true,og 23 (.bin .eql (.t 22) (ci 0)) 18 true,oo 24 (.pick (.t 18) (.t 23) (cb false))]
(cN 24
.skip
(.exit 0)))
(.seq (.block 1 (.dreg [(fA 27 33 3,0),(lF 28 1 27,1),(om 29 0,0),(oo 30 (.call (cf 87) [(.t 29),(cu 18446744073709551615)]),4),(oo 31 (.bldS 1 1 [(.int .u64 (0))] [(0,(.t 30))]),12),(oo 32 (.app 1 8 (.t 28) (.t 31)),31),(fA 33 33 3,63),(sO 1 33 32,127)]))
(.reg [om 25 5,bC 26 .add 25 (ci 1),om 5 26]))))))
(sR [lA 34 34 3,sO 34 2 34]
.ret)))))
theorem sf_:as_ Tryz.prog 97=some (35,[.cell 2 true 34],ku_):=by kernel_rfl
def fw_:ad_:=(sR [oo 2 (.box 70 (.t 0)),oo 4 (.mv (ci 0))]
(.seq (sR [fA 7 0 2,fA 8 34 7,lF 9 1 8,om 10 1,kB 11 39 9 10,om 5 11]
(sR [om 12 5,bC 13 .neq 12 (ci 0)]
(cN 13
(sR [om 14 5,om 4 14]
.ret)
.skip)))
(.seq (sR [fA 15 35 2,fA 16 34 15,lF 17 1 16,om 18 1,kB 19 39 17 18,om 6 19]
(sR [om 20 6,bC 21 .neq 20 (ci 0)]
(cN 21
(sR [om 22 6,om 4 22]
.ret)
.skip)))
(.seq (sR [fA 23 0 2,fA 24 0 23,lF 25 1 24,fA 26 0 2,fA 27 1 26,lF 28 1 27,bI 29 .gtr 25 28,om 30 29,og 31 (.fldA 35 (.t 2)) 30 false,og 32 (.fldA 0 (.t 31)) 30 false,og 33 (.ld false 1 (.t 32)) 30 false,og 34 (.fldA 35 (.t 2)) 30 false,og 35 (.fldA 1 (.t 34)) 30 false,og 36 (.ld false 1 (.t 35)) 30 false,og 37 (.bin .gtr (.t 33) (.t 36)) 30 false,oo 38 (.pick (.t 30) (cb true) (.t 37))]
(cN 38
(sR [oo 4 (.mv (ci 2))]
.ret)
.skip))
(.seq (sR [fA 39 0 2,lA 40 35 39,fA 41 35 2,lA 42 35 41,kB 43 179 40 42,oo 44 (.un .not (.t 43)),om 45 44,og 46 (.ld true 70 (.t 2)) 45 false,og 47 (.call (cf 159) [(.t 46)]) 45 false,og 48 (.len false (.t 47)) 45 false,og 49 (.bin .eql (.t 48) (ci 0)) 45 false,oo 50 (.pick (.t 45) (cb true) (.t 49))]
(cN 50
(sR [oo 4 (.mv (ci 20))]
.ret)
.skip))
(sR [oo 4 (.mv (ci 0))]
.ret))))))
theorem kJ_:as_ Tryz.prog 156=some (51,[.tmp 4],fw_):=by kernel_rfl
def lM_:ad_:=(sR [oo 1 (.box 70 (.t 0)),oo 2 (.mv (.c (.sl 0 true [])))]
(sR [oo 3 (.mv (.c (.sl 0 true [])))]
(.seq (sR [oo 4 (.mv (ci 0))]
(.block 0 (.loop (.seq (sR [om 5 4,fA 6 0 1,fA 7 34 6,lF 8 1 7,lN 9 8,bI 10 .lss 5 9]
(cN 10
.skip
(.exit 0)))
(.seq (.block 1 (.seq (.dreg [(fA 13 35 1,0),(fA 14 34 13,1),(lF 15 1 14,3),(fA 16 0 1,0),(fA 17 34 16,8),(lF 18 1 17,24),(om 19 4,0),(iX 20 1 18 19,120),(lF 21 1 20,248),(kB 22 181 15 21,511)])
(cN 22
(.reg [om 23 3,fA 24 0 1,fA 25 34 24,lF 26 1 25,om 27 4,iX 28 1 26 27,lF 29 1 28,kB 30 180 23 29,om 3 30])
.skip)))
(.reg [om 11 4,bC 12 .add 11 (ci 1),om 4 12]))))))
(sR [om 31 3,om 2 31]
.ret))))
theorem tV_:as_ Tryz.prog 159=some (32,[.tmp 2],lM_):=by kernel_rfl
def az_:ad_:=(sR [oo 2 (.box 35 (.t 0)),oo 3 (.box 35 (.t 1)),oo 4 (.mv (cb false))]
(sR [fA 8 1 2,lF 9 1 8,fA 10 1 3,lF 11 1 10,bI 12 .eql 9 11,om 13 12,og 14 (.fldA 0 (.t 2)) 13 true,og 15 (.ld false 1 (.t 14)) 13 true,og 16 (.fldA 0 (.t 3)) 13 true,og 17 (.ld false 1 (.t 16)) 13 true,og 18 (.bin .neq (.t 15) (.t 17)) 13 true,omg 19 18 13 true,og 20 (.fldA 2 (.t 2)) 19 false,og 21 (.ld true 32 (.t 20)) 19 false,og 22 (.fldA 2 (.t 3)) 19 false,og 23 (.ld true 32 (.t 22)) 19 false,og 24 (.eqa [(32,1)] true (.t 21) (.t 23)) 19 false,og 25 (.pick (.t 19) (cb true) (.t 24)) 13 true,oo 26 (.pick (.t 13) (.t 25) (cb false)),om 5 26]
(sR [fA 27 0 2,lF 28 1 27,fA 29 0 3,lF 30 1 29,bI 31 .lss 28 30,om 32 31,og 33 (.fldA 1 (.t 2)) 32 true,og 34 (.ld false 1 (.t 33)) 32 true,og 35 (.fldA 1 (.t 3)) 32 true,og 36 (.ld false 1 (.t 35)) 32 true,og 37 (.bin .gtr (.t 34) (.t 36)) 32 true,oo 38 (.pick (.t 32) (.t 37) (cb false)),om 6 38]
(sR [fA 39 0 3,lF 40 1 39,fA 41 0 2,lF 42 1 41,bI 43 .lss 40 42,om 44 43,og 45 (.fldA 1 (.t 3)) 44 true,og 46 (.ld false 1 (.t 45)) 44 true,og 47 (.fldA 1 (.t 2)) 44 true,og 48 (.ld false 1 (.t 47)) 44 true,og 49 (.bin .gtr (.t 46) (.t 48)) 44 true,oo 50 (.pick (.t 44) (.t 49) (cb false)),om 7 50]
(sR [om 51 5,om 52 51,omg 53 6 52 false,oo 54 (.pick (.t 52) (cb true) (.t 53)),om 55 54,omg 56 7 55 false,oo 57 (.pick (.t 55) (cb true) (.t 56)),om 4 57]
.ret)))))
theorem sl_:as_ Tryz.prog 179=some (58,[.tmp 4],az_):=by kernel_rfl
def oP_:ad_:=(sR [oo 4 (.mv (.c (.sl 0 true [])))]
(sR [oo 5 (.mv (ci 0))]
(.seq (.block 0 (.loop (.seq (sR [om 6 5,om 7 0,lN 8 7,bI 9 .lss 6 8,om 10 9,omg 11 0 10 true,omg 12 5 10 true,og 13 (.idxS 1 (.t 11) (.t 12)) 10 true,og 14 (.ld false 1 (.t 13)) 10 true,omg 15 1 10 true,og 16 (.bin .lss (.t 14) (.t 15)) 10 true,oo 17 (.pick (.t 10) (.t 16) (cb false))]
(cN 17
.skip
(.exit 0)))
(.block 1 (.reg [om 18 5,bC 19 .add 18 (ci 1),om 5 19])))))
(.seq (sR [om 20 5,om 21 0,lN 22 21,bI 23 .lss 20 22,om 24 23,omg 25 0 24 true,omg 26 5 24 true,og 27 (.idxS 1 (.t 25) (.t 26)) 24 true,og 28 (.ld false 1 (.t 27)) 24 true,omg 29 1 24 true,og 30 (.bin .eql (.t 28) (.t 29)) 24 true,oo 31 (.pick (.t 24) (.t 30) (cb false))]
(cN 31
(sR [om 32 0,om 4 32]
.ret)
.skip))
(.seq (.dreg [(om 33 0,0),(om 34 5,0),(oo 35 (.sli 1 (.t 33) none (some (.t 34)) none),3),(oo 36 (.app 1 8 (.c (.sl 0 true [])) (.t 35)),7),(om 37 1,0),(oo 38 (.bldS 1 1 [(.int .i64 (0))] [(0,(.t 37))]),16),(oo 39 (.app 1 8 (.t 36) (.t 38)),63),(om 40 0,0),(om 41 5,0),(oo 42 (.sli 1 (.t 40) (some (.t 41)) none none),384),(oo 43 (.app 1 8 (.t 39) (.t 42)),1023),(om 4 43,2047)])
.ret)))))
theorem yx_:as_ Tryz.prog 180=some (44,[.tmp 4],oP_):=by kernel_rfl
def vh_:ad_:=(sR [oo 4 (.mv (cb false))]
(.seq (sR [oo 5 (.mv (ci 0))]
(.block 0 (.loop (.seq (sR [om 6 5,om 7 0,lN 8 7,bI 9 .lss 6 8]
(cN 9
.skip
(.exit 0)))
(.seq (.block 1 (sR [om 12 0,om 13 5,iX 14 1 12 13,lF 15 1 14,om 16 1,bI 17 .eql 15 16]
(cN 17
(sR [oo 4 (.mv (cb true))]
.ret)
.skip)))
(.reg [om 10 5,bC 11 .add 10 (ci 1),om 5 11]))))))
(sR [oo 4 (.mv (cb false))]
.ret)))
theorem GD_:as_ Tryz.prog 181=some (18,[.tmp 4],vh_):=by kernel_rfl
def ly_:ad_:=(sR [oo 4 (.new (bI_ cz_))]
(sR [oo 6 (.call (cf 36) [(ci 2)]),om 7 0,om 8 1,kB 9 41 7 8,oo 10 (.bld (bC_ rS_) [(0,1,(cu 1)),(1,1,(cu 5)),(2,32,(.t 6)),(34,1,(.t 9))]),oo 11 (.call (cf 36) [(ci 2)]),om 12 0,om 13 1,bC 14 .shr 13 (cu 6),kB 15 41 12 14,oo 16 (.bld (bC_ rS_) [(0,1,(cu 2)),(1,1,(cu 4)),(2,32,(.t 11)),(34,1,(.t 15))]),oo 17 (.bld (bI_ cz_) [(0,35,(.t 10)),(35,35,(.t 16))]),oo 5 (.new (bI_ cz_)),sO 70 5 17]
(.seq (sR [om 18 1,bC 19 .shr 18 (cu 12),bC 20 .rem 19 (ci 8)]
(.block 0 (sR [bC 22 .eql 20 (ci 0),om 21 22]
(cN 21
(.reg [fA 23 35 5,lA 24 35 23,fA 25 0 5,lA 26 35 25,fA 27 0 5,sO 35 27 24,fA 28 35 5,sO 35 28 26])
(sR [bC 30 .eql 20 (ci 1),om 29 30]
(cN 29
(.reg [fA 31 35 5,fA 32 1 31,on (.sto 1 (.t 32) (cu 5))])
(sR [bC 34 .eql 20 (ci 2),om 33 34]
(cN 33
(.reg [fA 35 0 5,lA 36 35 35,fA 37 35 5,sO 35 37 36])
(sR [bC 39 .eql 20 (ci 3),om 38 39]
(cN 38
(.reg [fA 40 35 5,fA 41 0 40,on (.sto 1 (.t 41) (cu 6))])
(sR [bC 43 .eql 20 (ci 4),om 42 43]
(cN 42
(.reg [oo 44 (.call (cf 36) [(ci 3)]),fA 45 35 5,fA 46 1 45,on (.sto 1 (.t 46) (cu 5)),fA 47 35 5,fA 48 0 47,on (.sto 1 (.t 48) (cu 1)),fA 49 35 5,fA 50 2 49,sO 32 50 44])
.skip))))))))))))
(sR [lA 51 70 5,sO 70 4 51]
.ret))))
theorem tG_:as_ Tryz.prog 13=some (52,[.cell 4 true 70],ly_):=by kernel_rfl
def cn_:ad_:=(sR [oo 4 (.mv (.c (.sl 0 true [])))]
(sR [oo 5 (.mv (.c (.sl 0 true [])))]
(.seq (sR [oo 6 (.mv (ci 0))]
(.block 0 (.loop (.seq (sR [om 7 6,om 8 0,bI 9 .lss 7 8]
(cN 9
.skip
(.exit 0)))
(.seq (.block 1 (sR [om 12 1,om 13 6,oo 14 (.cvt .u64 (.t 13)),bI 15 .shr 12 14,bC 16 .and 15 (ci 1),bC 17 .eql 16 (ci 1)]
(cN 17
(.reg [om 18 5,om 19 6,oo 20 (.bldS 1 1 [(.int .i64 (0))] [(0,(.t 19))]),oo 21 (.app 1 8 (.t 18) (.t 20)),om 5 21])
.skip)))
(.reg [om 10 6,bC 11 .add 10 (ci 1),om 6 11]))))))
(.seq (sR [om 22 5,lN 23 22,bC 24 .eql 23 (ci 0),om 25 24,omg 26 0 25 true,og 27 (.bin .gtr (.t 26) (ci 0)) 25 true,oo 28 (.pick (.t 25) (.t 27) (cb false))]
(cN 28
(.reg [oo 29 (.bldS 1 1 [(.int .i64 (0))] [(0,(ci 0))]),om 5 29])
.skip))
(sR [om 30 5,om 4 30]
.ret)))))
theorem mI_:as_ Tryz.prog 41=some (31,[.tmp 4],cn_):=by kernel_rfl
def sU_:ad_:=(sR [oo 2 (.new (rtc rt0))]
(sR [om 3 0,oo 4 (.cvt .u8 (.t 3)),om 5 0,bC 6 .shr 5 (cu 8),oo 7 (.cvt .u8 (.t 6)),om 8 0,bC 9 .mul 8 (ci 7),oo 10 (.cvt .u8 (.t 9)),oo 11 (.bld (rtc rt0) [(0,1,(.t 4)),(1,1,(.t 7)),(31,1,(.t 10))]),sO 32 2 11]
.ret))
theorem DZ_:as_ Tryz.prog 36=some (12,[.cell 2 true 32],sU_):=by kernel_rfl
end Go.Proofs.YtipiipgpnkpejaaGreat
