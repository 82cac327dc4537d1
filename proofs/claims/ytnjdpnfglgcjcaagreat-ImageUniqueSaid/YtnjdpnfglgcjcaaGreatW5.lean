/- Joined. -/
import Derived.Test.YtnjdpnfglgcjcaaGreatW3
import Derived.Test.YtnjdpnfglgcjcaaGreatChecked
import Derived.KernelRfl
set_option maxRecDepth 100000
set_option maxHeartbeats 200000
namespace Go.Proofs.YtnjdpnfglgcjcaaGreat
open Go Go.FH
def Ha:ab:=nfO (P:=Tryz.prog) 240
theorem Ug:aJ Tryz.prog 240=some (28,[.tmp 2,.tmp 3],Ha):=by kernel_rfl
def G8:ab:=nfO (P:=Tryz.prog) 330
theorem Ue:aJ Tryz.prog 330=some (13,[.tmp 4,.tmp 5],G8):=by kernel_rfl
def vc:ab:=nfO (P:=Tryz.prog) 331
theorem HG:aJ Tryz.prog 331=some (14,[.tmp 4,.tmp 5],vc):=by kernel_rfl
def yV:ab:=nfO (P:=Tryz.prog) 388
theorem Ky:aJ Tryz.prog 388=some (9,[.tmp 2],yV):=by kernel_rfl
def G9:ab:=nfO (P:=Tryz.prog) 389
theorem Uf:aJ Tryz.prog 389=some (17,[.tmp 4,.tmp 5],G9):=by kernel_rfl
def tL:ab:=nfO (P:=Tryz.prog) 245
theorem FV:aJ Tryz.prog 245=some (18,[.tmp 4],tL):=by kernel_rfl
def J9:ab:=nfO (P:=Tryz.prog) 395
theorem TQ:aJ Tryz.prog 395=some (24,[.tmp 4],J9):=by kernel_rfl
def nK:ab:=nfO (P:=Tryz.prog) 241
theorem yc:aJ Tryz.prog 241=some (24,[.tmp 4],nK):=by kernel_rfl
def mJ:ab:=nfO (P:=Tryz.prog) 112
theorem vT:aJ Tryz.prog 112=some (24,[.tmp 4],mJ):=by kernel_rfl
def rF:ab:=nfO (P:=Tryz.prog) 238
theorem DL:aJ Tryz.prog 238=some (8,[.cell 2 true 34],rF):=by kernel_rfl
def Jy:ab:=nfO (P:=Tryz.prog) 144
theorem So:aJ Tryz.prog 144=some (32,[.tmp 8,.tmp 9],Jy):=by kernel_rfl
def G0:ab:=nfO (P:=Tryz.prog) 361
theorem OC:aJ Tryz.prog 361=some (29,[.tmp 4],G0):=by kernel_rfl
def QP:ab:=nfO (P:=Tryz.prog) 258
theorem aax:aJ Tryz.prog 258=some (51,[.tmp 8,.tmp 9],QP):=by kernel_rfl
def kF:ab:=nfO (P:=Tryz.prog) 138
theorem IK:aJ Tryz.prog 138=some (28,[.tmp 4,.tmp 5],kF):=by kernel_rfl
def rG:ab:=(sR [wZ 3 33 1,wR 4 0]
(.seq (sR [wR 5 0]
(.block 0 (.loop (.seq (sR [om 6 5,om 7 0,lN 8 7,bI 9 .lss 6 8]
(cN 9
.skip
(.exit 0)))
(.seq (.block 1 (.seq (.dreg [(om 12 0,0),(om 13 5,0),(iX 14 34 12 13,3),(fA 15 0 14,7),(lA 16 33 15,15),(lA 17 33 3,0),(oo 18 (.eqa [(33,1)] false (.t 16) (.t 17)),63)])
(cN 18
(sR [om 19 5,om 4 19]
.ret)
.skip)))
(.reg [om 10 5,bC 11 .add 10 (ci 1),om 5 11]))))))
(sR [wR 4 (-1)]
.ret)))
theorem DM:aJ Tryz.prog 111=some (20,[.tmp 4],rG):=by kernel_rfl
def AS:ab:=nfO (P:=Tryz.prog) 265
theorem RY:aJ Tryz.prog 265=some (35,[.tmp 4],AS):=by kernel_rfl
def iT:ab:=nfO (P:=Tryz.prog) 114
theorem pW:aJ Tryz.prog 114=some (20,[.tmp 4],iT):=by kernel_rfl
def za:ab:=nfO (P:=Tryz.prog) 121
theorem KI:aJ Tryz.prog 121=some (52,[.tmp 6],za):=by kernel_rfl
def AL:ab:=nfO (P:=Tryz.prog) 110
theorem OE:aJ Tryz.prog 110=some (23,[.tmp 4],AL):=by kernel_rfl
def ky:ab:=nfO (P:=Tryz.prog) 211
theorem ou:aJ Tryz.prog 211=some (23,[.tmp 4],ky):=by kernel_rfl
def G6:ab:=nfO (P:=Tryz.prog) 312
theorem Uc:aJ Tryz.prog 312=some (14,[.tmp 4],G6):=by kernel_rfl
def E4:ab:=nfO (P:=Tryz.prog) 256
theorem QJ:aJ Tryz.prog 256=some (36,[.tmp 6],E4):=by kernel_rfl
def ET:ab:=nfO (P:=Tryz.prog) 237
theorem Q3:aJ Tryz.prog 237=some (10,[.cell 4 true 1],ET):=by kernel_rfl
def Ml:ab:=nfO (P:=Tryz.prog) 309
theorem UO:aJ Tryz.prog 309=some (76,[.cell 8 true 1,.tmp 9],Ml):=by kernel_rfl
def Mo:ab:=nfO (P:=Tryz.prog) 362
theorem UQ:aJ Tryz.prog 362=some (60,[.cell 4 true 1,.tmp 5,.tmp 6],Mo):=by kernel_rfl
def NC:ab:=nfO (P:=Tryz.prog) 365
theorem X8:aJ Tryz.prog 365=some (32,[.tmp 6],NC):=by kernel_rfl
def JV:ab:=nfO (P:=Tryz.prog) 366
theorem TL:aJ Tryz.prog 366=some (52,[.cell 6 true 1,.tmp 7],JV):=by kernel_rfl
def Hg:ab:=nfO (P:=Tryz.prog) 367
theorem Pv:aJ Tryz.prog 367=some (7,[.tmp 2],Hg):=by kernel_rfl
def Mt:ab:=nfO (P:=Tryz.prog) 369
theorem U3:aJ Tryz.prog 369=some (25,[.cell 4 true 1,.tmp 5],Mt):=by kernel_rfl
def Mu:ab:=nfO (P:=Tryz.prog) 370
theorem U7:aJ Tryz.prog 370=some (81,[.tmp 6,.tmp 7],Mu):=by kernel_rfl
def o6:ab:=nfO (P:=Tryz.prog) 371
theorem zJ:aJ Tryz.prog 371=some (12,[.tmp 6],o6):=by kernel_rfl
def I0:ab:=nfO (P:=Tryz.prog) 372
theorem RA:aJ Tryz.prog 372=some (25,[.cell 4 true 1,.tmp 5],I0):=by kernel_rfl
def uS:ab:=nfO (P:=Tryz.prog) 398
theorem Hv:aJ Tryz.prog 398=some (40,[.tmp 4,.tmp 5],uS):=by kernel_rfl
def uU:ab:=nfO (P:=Tryz.prog) 41
theorem Hx:aJ Tryz.prog 41=some (40,[.tmp 6],uU):=by kernel_rfl
def tG:ab:=nfO (P:=Tryz.prog) 399
theorem FP:aJ Tryz.prog 399=some (40,[.tmp 4],tG):=by kernel_rfl
def tE:ab:=nfO (P:=Tryz.prog) 400
theorem FN:aJ Tryz.prog 400=some (42,[.tmp 8],tE):=by kernel_rfl
def ru:ab:=nfO (P:=Tryz.prog) 402
theorem DA:aJ Tryz.prog 402=some (32,[.tmp 4],ru):=by kernel_rfl
def Fg:ab:=nfO (P:=Tryz.prog) 394
theorem KB:aJ Tryz.prog 394=some (15,[.tmp 4],Fg):=by kernel_rfl
def YI:ab:=nfO (P:=Tryz.prog) 329
theorem DD:aJ Tryz.prog 329=some (9,[.tmp 2],YI):=by kernel_rfl
def QM:ab:=nfO (P:=Tryz.prog) 396
theorem aao:aJ Tryz.prog 396=some (44,[.cell 8 true 1,.tmp 9],QM):=by kernel_rfl
def nJ:ab:=nfO (P:=Tryz.prog) 397
theorem yb:aJ Tryz.prog 397=some (23,[.tmp 4],nJ):=by kernel_rfl
def GX:ab:=nfO (P:=Tryz.prog) 82
theorem Oy:aJ Tryz.prog 82=some (64,[.tmp 2],GX):=by kernel_rfl
def Oi:ab:=nfO (P:=Tryz.prog) 202
theorem YR:aJ Tryz.prog 202=some (67,[.tmp 2,.tmp 3],Oi):=by kernel_rfl
def MS:ab:=(sR [wZ 2 446 0,wZ 3 446 1,wS 4 false]
(sR [fA 5 0 2,lF 6 1 5,fA 7 0 3,lF 8 1 7,bI 9 .eql 6 8,om 10 9,wB 11 1 2 10,wF 12 238 11 10,wB 13 1 3 10,wF 14 238 13 10,og 15 (.eqa [(237,1),(1,0)] false (.t 12) (.t 14)) 10 true,wN 16 10 15,om 17 16,wB 18 239 2 17,wF 19 67 18 17,wB 20 239 3 17,wF 21 67 20 17,wY 22 136 19 21 17,wN 23 17 22,om 24 23,wB 25 306 2 24,wF 26 70 25 24,wB 27 306 3 24,wF 28 70 27 24,wY 29 298 26 28 24,wN 30 24 29,om 31 30,wB 32 376 2 31,wF 33 34 32 31,wB 34 376 3 31,wF 35 34 34 31,wY 36 259 33 35 31,wN 37 31 36,om 38 37,wB 39 410 2 38,wF 40 34 39 38,wB 41 410 3 38,wF 42 34 41 38,og 43 (.eqa [(34,1)] false (.t 40) (.t 42)) 38 true,wN 44 38 43,om 45 44,wB 46 444 2 45,wD 47 1 46 45,wB 48 444 3 45,wD 49 1 48 45,wJ 50 .eql 47 49 45,wN 51 45 50,om 52 51,wB 53 445 2 52,wD 54 1 53 52,wB 55 445 3 52,wD 56 1 55 52,wJ 57 .eql 54 56 52,wN 58 52 57,om 4 58]
.ret))
theorem Vo:aJ Tryz.prog 203=some (59,[.tmp 4],MS):=by kernel_rfl
def qm:ab:=nfO (P:=Tryz.prog) 287
theorem BK:aJ Tryz.prog 287=some (7,[.tmp 2],qm):=by kernel_rfl
def kv:ab:=nfO (P:=Tryz.prog) 285
theorem qB:aJ Tryz.prog 285=some (27,[],kv):=by kernel_rfl
def ff:ab:=nfO (P:=Tryz.prog) 271
theorem iZ:aJ Tryz.prog 271=some (19,[.tmp 4],ff):=by kernel_rfl
def fg:ab:=nfO (P:=Tryz.prog) 387
theorem i8:aJ Tryz.prog 387=some (19,[.tmp 4],fg):=by kernel_rfl
def eH:ab:=nfO (P:=Tryz.prog) 327
theorem hZ:aJ Tryz.prog 327=some (9,[.tmp 4],eH):=by kernel_rfl
def eI:ab:=nfO (P:=Tryz.prog) 325
theorem ia:aJ Tryz.prog 325=some (9,[.tmp 4],eI):=by kernel_rfl
def rl:ab:=nfO (P:=Tryz.prog) 150
theorem Dw:aJ Tryz.prog 150=some (9,[.tmp 4],rl):=by kernel_rfl
def oZ:ab:=nfO (P:=Tryz.prog) 272
theorem zF:aJ Tryz.prog 272=some (9,[.tmp 3],oZ):=by kernel_rfl
def mm:ab:=nfO (P:=Tryz.prog) 347
theorem vC:aJ Tryz.prog 347=some (9,[.tmp 2],mm):=by kernel_rfl
end Go.Proofs.YtnjdpnfglgcjcaaGreat
