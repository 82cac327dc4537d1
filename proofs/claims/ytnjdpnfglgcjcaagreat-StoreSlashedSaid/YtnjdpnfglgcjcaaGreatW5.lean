/-
 My texts Kj, Kd, Kp, Kq, joined.
-/
import Derived.Test.YtnjdpnfglgcjcaaGreatW3
import Derived.Test.YtnjdpnfglgcjcaaGreatChecked
import Derived.KernelRfl
set_option maxRecDepth 100000
set_option maxHeartbeats 200000
namespace Go.Proofs.YtnjdpnfglgcjcaaGreat
open Go Go.FH
def DV:ab:=nfO (P:=Tryz.prog) 240
theorem QP:aJ Tryz.prog 240=some (28,[.tmp 2,.tmp 3],DV):=by kernel_rfl
def DT:ab:=nfO (P:=Tryz.prog) 330
theorem QN:aJ Tryz.prog 330=some (13,[.tmp 4,.tmp 5],DT):=by kernel_rfl
def sC:ab:=nfO (P:=Tryz.prog) 331
theorem EJ:aJ Tryz.prog 331=some (14,[.tmp 4,.tmp 5],sC):=by kernel_rfl
def vD:ab:=nfO (P:=Tryz.prog) 388
theorem Hs:aJ Tryz.prog 388=some (9,[.tmp 2],vD):=by kernel_rfl
def DU:ab:=nfO (P:=Tryz.prog) 389
theorem QO:aJ Tryz.prog 389=some (17,[.tmp 4,.tmp 5],DU):=by kernel_rfl
def rl:ab:=nfO (P:=Tryz.prog) 245
theorem CG:aJ Tryz.prog 245=some (18,[.tmp 4],rl):=by kernel_rfl
def sB:ab:=nfO (P:=Tryz.prog) 395
theorem EI:aJ Tryz.prog 395=some (24,[.tmp 4],sB):=by kernel_rfl
def mw:ab:=nfO (P:=Tryz.prog) 241
theorem uH:aJ Tryz.prog 241=some (24,[.tmp 4],mw):=by kernel_rfl
def lL:ab:=nfO (P:=Tryz.prog) 112
theorem s7:aJ Tryz.prog 112=some (24,[.tmp 4],lL):=by kernel_rfl
def pS:ab:=nfO (P:=Tryz.prog) 238
theorem Aa:aJ Tryz.prog 238=some (8,[.cell 2 true 34],pS):=by kernel_rfl
def rv:ab:=nfO (P:=Tryz.prog) 144
theorem CN:aJ Tryz.prog 144=some (32,[.tmp 8,.tmp 9],rv):=by kernel_rfl
def oI:ab:=nfO (P:=Tryz.prog) 361
theorem yL:aJ Tryz.prog 361=some (29,[.tmp 4],oI):=by kernel_rfl
def BF:ab:=nfO (P:=Tryz.prog) 258
theorem N2:aJ Tryz.prog 258=some (51,[.tmp 8,.tmp 9],BF):=by kernel_rfl
def vK:ab:=nfO (P:=Tryz.prog) 138
theorem HA:aJ Tryz.prog 138=some (28,[.tmp 4,.tmp 5],vK):=by kernel_rfl
def pT:ab:=(sR [wZ 3 33 1,wR 4 0]
(.seq (sR [wR 5 0]
(.block 0 (.loop (.seq (sR [om 6 5,om 7 0,lN 8 7,bI 9 .lss 6 8]
(cN 9
.skip
(.exit 0)))
(.seq (.block 1 (.seq (.dreg [(om 12 0,0),(om 13 5,0),(iX 14 34 12 13,3),(fA 15 0 14,7),(lA 16 33 15,15),(lA 17 33 3,0),(oo 18 (.eqa [(33,1)] false (.t 16) (.t 17)),63)])
(cN 18
(sR [om 19 5,om 4 19]
.ret)
.skip)))
(.reg [om 10 5,bC 11 .add 10 (ci 1),om 5 11]))))))
(sR [wR 4 (-1)]
.ret)))
theorem Ab:aJ Tryz.prog 111=some (20,[.tmp 4],pT):=by kernel_rfl
def dJ:ab:=nfO (P:=Tryz.prog) 265
theorem CL:aJ Tryz.prog 265=some (35,[.tmp 4],dJ):=by kernel_rfl
def iQ:ab:=nfO (P:=Tryz.prog) 114
theorem ow:aJ Tryz.prog 114=some (20,[.tmp 4],iQ):=by kernel_rfl
def vL:ab:=nfO (P:=Tryz.prog) 121
theorem HB:aJ Tryz.prog 121=some (52,[.tmp 6],vL):=by kernel_rfl
def ye:ab:=nfO (P:=Tryz.prog) 110
theorem LA:aJ Tryz.prog 110=some (23,[.tmp 4],ye):=by kernel_rfl
def j8:ab:=nfO (P:=Tryz.prog) 211
theorem mP:aJ Tryz.prog 211=some (23,[.tmp 4],j8):=by kernel_rfl
def DR:ab:=nfO (P:=Tryz.prog) 312
theorem QL:aJ Tryz.prog 312=some (14,[.tmp 4],DR):=by kernel_rfl
def DQ:ab:=nfO (P:=Tryz.prog) 256
theorem QK:aJ Tryz.prog 256=some (36,[.tmp 6],DQ):=by kernel_rfl
def BA:ab:=nfO (P:=Tryz.prog) 237
theorem NW:aJ Tryz.prog 237=some (10,[.cell 4 true 1],BA):=by kernel_rfl
def vo:ab:=nfO (P:=Tryz.prog) 309
theorem Hf:aJ Tryz.prog 309=some (76,[.cell 8 true 1,.tmp 9],vo):=by kernel_rfl
def vq:ab:=nfO (P:=Tryz.prog) 362
theorem Hg:aJ Tryz.prog 362=some (60,[.cell 4 true 1,.tmp 5,.tmp 6],vq):=by kernel_rfl
def yf:ab:=nfO (P:=Tryz.prog) 365
theorem LB:aJ Tryz.prog 365=some (32,[.tmp 6],yf):=by kernel_rfl
def sr:ab:=nfO (P:=Tryz.prog) 366
theorem EB:aJ Tryz.prog 366=some (52,[.cell 6 true 1,.tmp 7],sr):=by kernel_rfl
def pK:ab:=nfO (P:=Tryz.prog) 367
theorem zS:aJ Tryz.prog 367=some (7,[.tmp 2],pK):=by kernel_rfl
def vt:ab:=nfO (P:=Tryz.prog) 369
theorem Hh:aJ Tryz.prog 369=some (25,[.cell 4 true 1,.tmp 5],vt):=by kernel_rfl
def vu:ab:=nfO (P:=Tryz.prog) 370
theorem Hi:aJ Tryz.prog 370=some (81,[.tmp 6,.tmp 7],vu):=by kernel_rfl
def nB:ab:=nfO (P:=Tryz.prog) 371
theorem xg:aJ Tryz.prog 371=some (12,[.tmp 6],nB):=by kernel_rfl
def rf:ab:=nfO (P:=Tryz.prog) 372
theorem CA:aJ Tryz.prog 372=some (25,[.cell 4 true 1,.tmp 5],rf):=by kernel_rfl
def sn:ab:=nfO (P:=Tryz.prog) 398
theorem Ey:aJ Tryz.prog 398=some (40,[.tmp 4,.tmp 5],sn):=by kernel_rfl
def sq:ab:=nfO (P:=Tryz.prog) 41
theorem EA:aJ Tryz.prog 41=some (40,[.tmp 6],sq):=by kernel_rfl
def rg:ab:=nfO (P:=Tryz.prog) 399
theorem CB:aJ Tryz.prog 399=some (40,[.tmp 4],rg):=by kernel_rfl
def re:ab:=nfO (P:=Tryz.prog) 400
theorem Cz:aJ Tryz.prog 400=some (42,[.tmp 8],re):=by kernel_rfl
def pJ:ab:=nfO (P:=Tryz.prog) 402
theorem zR:aJ Tryz.prog 402=some (32,[.tmp 4],pJ):=by kernel_rfl
def lI:ab:=nfO (P:=Tryz.prog) 394
theorem sZ:aJ Tryz.prog 394=some (15,[.tmp 4],lI):=by kernel_rfl
def pM:ab:=nfO (P:=Tryz.prog) 329
theorem zU:aJ Tryz.prog 329=some (9,[.tmp 2],pM):=by kernel_rfl
def BB:ab:=nfO (P:=Tryz.prog) 396
theorem NX:aJ Tryz.prog 396=some (44,[.cell 8 true 1,.tmp 9],BB):=by kernel_rfl
def mu:ab:=nfO (P:=Tryz.prog) 397
theorem uG:aJ Tryz.prog 397=some (23,[.tmp 4],mu):=by kernel_rfl
def oH:ab:=nfO (P:=Tryz.prog) 82
theorem yJ:aJ Tryz.prog 82=some (64,[.tmp 2],oH):=by kernel_rfl
def yv:ab:=nfO (P:=Tryz.prog) 202
theorem LQ:aJ Tryz.prog 202=some (67,[.tmp 2,.tmp 3],yv):=by kernel_rfl
def vI:ab:=(sR [wZ 2 446 0,wZ 3 446 1,wS 4 false]
(sR [fA 5 0 2,lF 6 1 5,fA 7 0 3,lF 8 1 7,bI 9 .eql 6 8,om 10 9,wB 11 1 2 10,wF 12 238 11 10,wB 13 1 3 10,wF 14 238 13 10,og 15 (.eqa [(237,1),(1,0)] false (.t 12) (.t 14)) 10 true,wN 16 10 15,om 17 16,wB 18 239 2 17,wF 19 67 18 17,wB 20 239 3 17,wF 21 67 20 17,wY 22 136 19 21 17,wN 23 17 22,om 24 23,wB 25 306 2 24,wF 26 70 25 24,wB 27 306 3 24,wF 28 70 27 24,wY 29 298 26 28 24,wN 30 24 29,om 31 30,wB 32 376 2 31,wF 33 34 32 31,wB 34 376 3 31,wF 35 34 34 31,wY 36 259 33 35 31,wN 37 31 36,om 38 37,wB 39 410 2 38,wF 40 34 39 38,wB 41 410 3 38,wF 42 34 41 38,og 43 (.eqa [(34,1)] false (.t 40) (.t 42)) 38 true,wN 44 38 43,om 45 44,wB 46 444 2 45,wD 47 1 46 45,wB 48 444 3 45,wD 49 1 48 45,wJ 50 .eql 47 49 45,wN 51 45 50,om 52 51,wB 53 445 2 52,wD 54 1 53 52,wB 55 445 3 52,wD 56 1 55 52,wJ 57 .eql 54 56 52,wN 58 52 57,om 4 58]
.ret))
theorem Hy:aJ Tryz.prog 203=some (59,[.tmp 4],vI):=by kernel_rfl
def fe:ab:=nfO (P:=Tryz.prog) 271
theorem iS:aJ Tryz.prog 271=some (19,[.tmp 4],fe):=by kernel_rfl
def dA:ab:=nfO (P:=Tryz.prog) 336
theorem eN:aJ Tryz.prog 336=some (19,[.tmp 4],dA):=by kernel_rfl
def cM:ab:=nfO (P:=Tryz.prog) 148
theorem dC:aJ Tryz.prog 148=some (19,[.tmp 4],cM):=by kernel_rfl
def ff:ab:=nfO (P:=Tryz.prog) 387
theorem iT:aJ Tryz.prog 387=some (19,[.tmp 4],ff):=by kernel_rfl
def eE:ab:=nfO (P:=Tryz.prog) 327
theorem gV:aJ Tryz.prog 327=some (9,[.tmp 4],eE):=by kernel_rfl
def el:ab:=nfO (P:=Tryz.prog) 333
theorem gE:aJ Tryz.prog 333=some (9,[.tmp 4],el):=by kernel_rfl
def ek:ab:=nfO (P:=Tryz.prog) 341
theorem gD:aJ Tryz.prog 341=some (9,[.tmp 4],ek):=by kernel_rfl
def eF:ab:=nfO (P:=Tryz.prog) 325
theorem gW:aJ Tryz.prog 325=some (9,[.tmp 4],eF):=by kernel_rfl
def pI:ab:=nfO (P:=Tryz.prog) 150
theorem zQ:aJ Tryz.prog 150=some (9,[.tmp 4],pI):=by kernel_rfl
def nk:ab:=nfO (P:=Tryz.prog) 272
theorem w4:aJ Tryz.prog 272=some (9,[.tmp 3],nk):=by kernel_rfl
def sa:ab:=nfO (P:=Tryz.prog) 338
theorem Eb:aJ Tryz.prog 338=some (14,[.tmp 4],sa):=by kernel_rfl
def vk:ab:=nfO (P:=Tryz.prog) 255
theorem Hb:aJ Tryz.prog 255=some (26,[.tmp 6],vk):=by kernel_rfl
def kJ:ab:=nfO (P:=Tryz.prog) 335
theorem rK:aJ Tryz.prog 335=some (29,[.tmp 6],kJ):=by kernel_rfl
def qZ:ab:=nfO (P:=Tryz.prog) 229
theorem Cs:aJ Tryz.prog 229=some (10,[.cell 4 true 1],qZ):=by kernel_rfl
def rd:ab:=nfO (P:=Tryz.prog) 250
theorem Cy:aJ Tryz.prog 250=some (68,[.cell 4 true 1,.tmp 5,.tmp 6],rd):=by kernel_rfl
def np:ab:=nfO (P:=Tryz.prog) 269
theorem w9:aJ Tryz.prog 269=some (52,[.cell 6 true 1,.tmp 7],np):=by kernel_rfl
def fY:ab:=nfO (P:=Tryz.prog) 348
theorem kG:aJ Tryz.prog 348=some (9,[.tmp 2],fY):=by kernel_rfl
def lC:ab:=nfO (P:=Tryz.prog) 347
theorem sU:aJ Tryz.prog 347=some (9,[.tmp 2],lC):=by kernel_rfl
def sj:ab:=nfO (P:=Tryz.prog) 270
theorem Eu:aJ Tryz.prog 270=some (6,[.tmp 2],sj):=by kernel_rfl
def lH:ab:=nfO (P:=Tryz.prog) 345
theorem sY:aJ Tryz.prog 345=some (14,[.tmp 4],lH):=by kernel_rfl
def yd:ab:=nfO (P:=Tryz.prog) 268
theorem Lv:aJ Tryz.prog 268=some (31,[.tmp 6],yd):=by kernel_rfl
def sK:ab:=nfO (P:=Tryz.prog) 346
theorem EP:aJ Tryz.prog 346=some (26,[.tmp 4],sK):=by kernel_rfl
def dx:ab:=nfO (P:=Tryz.prog) 248
theorem eH:aJ Tryz.prog 248=some (42,[.tmp 4],dx):=by kernel_rfl
def dw:ab:=nfO (P:=Tryz.prog) 252
theorem eG:aJ Tryz.prog 252=some (42,[.tmp 4],dw):=by kernel_rfl
def kL:ab:=nfO (P:=Tryz.prog) 343
theorem rM:aJ Tryz.prog 343=some (62,[.tmp 4],kL):=by kernel_rfl
def nq:ab:=nfO (P:=Tryz.prog) 267
theorem xa:aJ Tryz.prog 267=some (53,[.tmp 4],nq):=by kernel_rfl
def mq:ab:=nfO (P:=Tryz.prog) 344
theorem uE:aJ Tryz.prog 344=some (52,[.tmp 8],mq):=by kernel_rfl
def nr:ab:=nfO (P:=Tryz.prog) 332
theorem xb:aJ Tryz.prog 332=some (50,[.tmp 4,.tmp 5],nr):=by kernel_rfl
def bA:ab:=nfO (P:=Tryz.prog) 247
theorem qa:aJ Tryz.prog 247=some (94,[.cell 6 true 33,.cell 7 true 33,.tmp 8],bA):=by kernel_rfl
def iP:ab:=(sR [wZ 2 34 0,wS 3 false]
(sR [fA 4 0 2,lA 5 33 4,lA 6 33 1,oo 7 (.eqa [(33,1)] false (.t 5) (.t 6)),om 3 7]
.ret))
theorem ov:aJ Tryz.prog 334=some (8,[.tmp 3],iP):=by kernel_rfl
def fO:ab:=(sR [wZ 3 150 0,wZ 4 33 1,wZ 5 33 2,oo 6 (.new (aw gY))]
(sR [lA 13 150 3,kA 14 102 13,oo 7 (.new (aw gY)),sO 150 7 14]
(sR [lA 16 150 3,lA 17 33 4,lA 18 33 5,kC 19 247 16 17 18,om 15 19,eX 20 0 15,eX 21 1 15,eX 22 2 15,oo 8 (.new (cpC cp0)),oo 9 (.new (cpC cp0)),sO 33 8 20,sO 33 9 21,om 10 22]
(.seq (sR [om 23 10,wO 24 23]
(cN 24
(sR [lA 25 150 7,sO 150 6 25]
.ret)
.skip))
(.seq (.dreg [(lA 26 33 8,0),(lA 27 33 9,0),(fA 28 47 7,1),(fA 29 0 28,5),(sO 33 29 26,13),(fA 30 47 7,31),(fA 31 33 30,63),(sO 33 31 27,127)])
(sR [fA 32 149 7,lF 33 1 32,oo 34 (.mkf (.func 249) [(.t 8)]),kB 35 248 33 34,fA 36 149 7,sO 1 36 35]
(.seq (sR [lA 37 33 9,fA 38 47 3,fA 39 33 38,lA 40 33 39,oo 41 (.eqa [(33,1)] false (.t 37) (.t 40))]
(cN 41
(sR [lA 42 150 7,sO 150 6 42]
.ret)
.skip))
(.seq (.dreg [(fA 44 115 3,0),(lA 45 1 44,1),(fA 46 115 3,0),(lA 47 1 46,4),(fA 48 1 9,0),(lA 49 32 48,16),(kB 50 150 47 49,60),(kB 51 250 45 50,127),(om 43 51,255),(eX 52 0 43,511),(eX 53 1 43,511),(eX 54 2 43,511),(fA 55 115 7,1023),(sO 1 55 52,5119)])
(.seq (sR [fA 56 115 7,lA 57 1 56,fA 58 117 7,lA 59 32 58,kB 60 150 57 59,bC 61 .lss 60 (ci 0)]
(cN 61
(.reg [oo 62 (.bld (rtc rt0) []),fA 63 117 7,sO 32 63 62])
.skip))
(sR [fA 65 0 9,lF 66 1 65,fA 67 0 3,fA 68 6 67,lF 69 1 68,kB 70 251 66 69,om 64 70,eX 71 0 64,eX 72 1 64,oo 11 (.new [(.int .u64 (0))]),sO 1 11 71,om 12 72]
(sR [fA 73 113 7,fA 74 1 73,lF 75 1 74,oo 76 (.mkf (.func 253) [(.t 11)]),kB 77 252 75 76,fA 78 113 7,fA 79 1 78,sO 1 79 77]
(sR [lA 80 150 7,sO 150 6 80]
.ret))))))))))))
theorem ik:aJ Tryz.prog 124=some (81,[.cell 6 true 150],fO):=by kernel_rfl
def j5:ab:=nfO (P:=Tryz.prog) 249
theorem qH:aJ Tryz.prog 249=some (10,[.tmp 3],j5):=by kernel_rfl
def j6:ab:=nfO (P:=Tryz.prog) 253
theorem qI:aJ Tryz.prog 253=some (8,[.tmp 3],j6):=by kernel_rfl
def kK:ab:=nfO (P:=Tryz.prog) 123
theorem rL:aJ Tryz.prog 123=some (56,[.cell 2 true 66],kK):=by kernel_rfl
def qX:ab:=nfO (P:=Tryz.prog) 125
theorem Cq:aJ Tryz.prog 125=some (107,[.tmp 4,.tmp 5],qX):=by kernel_rfl
def sc:ab:=nfO (P:=Tryz.prog) 126
theorem Ej:aJ Tryz.prog 126=some (49,[.cell 4 true 150],sc):=by kernel_rfl
def oE:ab:=nfO (P:=Tryz.prog) 266
theorem yE:aJ Tryz.prog 266=some (17,[.tmp 4],oE):=by kernel_rfl
def mo:ab:=nfO (P:=Tryz.prog) 342
theorem uD:aJ Tryz.prog 342=some (8,[.tmp 3],mo):=by kernel_rfl
def oD:ab:=nfO (P:=Tryz.prog) 145
theorem yD:aJ Tryz.prog 145=some (88,[.tmp 4],oD):=by kernel_rfl
end Go.Proofs.YtnjdpnfglgcjcaaGreat
