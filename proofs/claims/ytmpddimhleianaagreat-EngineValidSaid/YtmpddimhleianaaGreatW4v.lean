/- Joined. -/
import Derived.Test.YtmpddimhleianaaGreatW3v
import Derived.Test.YtmpddimhleianaaGreatChecked
import Derived.KernelRfl
set_option maxRecDepth 100000
set_option maxHeartbeats 200000
namespace Go.Proofs.YtmpddimhleianaaGreat
open Go Go.FH
def rM:am:=nfO (P:=Tryz.prog) 342
theorem BC:cE Tryz.prog 342=some (23,[.cell 2 true 32],rM):=by kernel_rfl
def rO:am:=nfO (P:=Tryz.prog) 317
theorem BE:cE Tryz.prog 317=some (22,[.cell 2 true 32],rO):=by kernel_rfl
def kL:am:=nfO (P:=Tryz.prog) 234
theorem qt:cE Tryz.prog 234=some (36,[.tmp 4],kL):=by kernel_rfl
def mR:am:=nfO (P:=Tryz.prog) 132
theorem tM:cE Tryz.prog 132=some (42,[.tmp 4],mR):=by kernel_rfl
def iI:am:=nfO (P:=Tryz.prog) 159
theorem nf:cE Tryz.prog 159=some (25,[.tmp 2,.tmp 3],iI):=by kernel_rfl
def jA:am:=nfO (P:=Tryz.prog) 195
theorem ph:cE Tryz.prog 195=some (23,[.tmp 2,.tmp 3],jA):=by kernel_rfl
def kN:am:=(sR [wZ 2 67 0,wZ 3 67 1,wS 4 false]
(sR [fA 5 0 2,lF 6 1 5,fA 7 0 3,lF 8 1 7,bI 9 .eql 6 8,om 10 9,wB 11 1 2 10,wF 12 32 11 10,wB 13 1 3 10,wF 14 32 13 10,og 15 (.eqa [(32,1)] false (.t 12) (.t 14)) 10 true,wN 16 10 15,om 17 16,wB 18 33 2 17,wF 19 33 18 17,wB 20 33 3 17,wF 21 33 20 17,og 22 (.eqa [(33,1)] false (.t 19) (.t 21)) 17 true,wN 23 17 22,om 24 23,wB 25 66 2 24,wD 26 1 25 24,wB 27 66 3 24,wD 28 1 27 24,wY 29 93 26 28 24,wN 30 24 29,om 4 30]
.ret))
theorem qu:cE Tryz.prog 96=some (31,[.tmp 4],kN):=by kernel_rfl
def ls:am:=nfO (P:=Tryz.prog) 161
theorem rr:cE Tryz.prog 161=some (31,[.tmp 2,.tmp 3],ls):=by kernel_rfl
def jz:am:=nfO (P:=Tryz.prog) 160
theorem pd:cE Tryz.prog 160=some (40,[.tmp 2,.tmp 3],jz):=by kernel_rfl
def lu:am:=nfO (P:=Tryz.prog) 196
theorem ru:cE Tryz.prog 196=some (26,[.tmp 2,.tmp 3],lu):=by kernel_rfl
def mQ:am:=nfO (P:=Tryz.prog) 200
theorem tL:cE Tryz.prog 200=some (17,[.tmp 4],mQ):=by kernel_rfl
def nN:am:=nfO (P:=Tryz.prog) 197
theorem uU:cE Tryz.prog 197=some (38,[.tmp 2,.tmp 3],nN):=by kernel_rfl
def jZ:am:=nfO (P:=Tryz.prog) 162
theorem pJ:cE Tryz.prog 162=some (23,[.tmp 2,.tmp 3],jZ):=by kernel_rfl
def mi:am:=nfO (P:=Tryz.prog) 198
theorem rX:cE Tryz.prog 198=some (23,[.tmp 2,.tmp 3],mi):=by kernel_rfl
def pz:am:=(sR [wZ 2 34 0,wZ 3 34 1,wS 4 false]
(sR [fA 5 0 2,lA 6 33 5,fA 7 0 3,lA 8 33 7,oo 9 (.eqa [(33,1)] false (.t 6) (.t 8)),om 10 9,wB 11 33 2 10,wD 12 1 11 10,wB 13 33 3 10,wD 14 1 13 10,wY 15 91 12 14 10,wN 16 10 15,om 4 16]
.ret))
theorem xO:cE Tryz.prog 156=some (17,[.tmp 4],pz):=by kernel_rfl
def lq:am:=nfO (P:=Tryz.prog) 158
theorem rp:cE Tryz.prog 158=some (58,[.tmp 2],lq):=by kernel_rfl
def vH:am:=nfO (P:=Tryz.prog) 194
theorem HL:cE Tryz.prog 194=some (44,[.tmp 4],vH):=by kernel_rfl
def qV:am:=nfO (P:=Tryz.prog) 93
theorem zB:cE Tryz.prog 93=some (26,[.tmp 4],qV):=by kernel_rfl
def qk:am:=nfO (P:=Tryz.prog) 284
theorem vV:cE Tryz.prog 284=some (18,[.tmp 4],qk):=by kernel_rfl
def px:am:=nfO (P:=Tryz.prog) 285
theorem xN:cE Tryz.prog 285=some (31,[.tmp 4],px):=by kernel_rfl
def nO:am:=nfO (P:=Tryz.prog) 91
theorem uV:cE Tryz.prog 91=some (26,[.tmp 4],nO):=by kernel_rfl
def ce:am:=nfO (P:=Tryz.prog) 182
theorem pI:cE Tryz.prog 182=some (54,[.tmp 4],ce):=by kernel_rfl
def jY:am:=nfO (P:=Tryz.prog) 183
theorem pH:cE Tryz.prog 183=some (58,[.tmp 2],jY):=by kernel_rfl
def bU:am:=nfO (P:=Tryz.prog) 263
theorem o8:cE Tryz.prog 263=some (36,[.tmp 4],bU):=by kernel_rfl
def jy:am:=nfO (P:=Tryz.prog) 330
theorem o9:cE Tryz.prog 330=some (17,[.tmp 4],jy):=by kernel_rfl
def j4:am:=nfO (P:=Tryz.prog) 211
theorem pK:cE Tryz.prog 211=some (51,[.tmp 4],j4):=by kernel_rfl
def qW:am:=nfO (P:=Tryz.prog) 213
theorem zD:cE Tryz.prog 213=some (32,[.tmp 2],qW):=by kernel_rfl
def aU:am:=nfO (P:=Tryz.prog) 295
theorem xR:cE Tryz.prog 295=some (58,[.tmp 4],aU):=by kernel_rfl
def ur:am:=nfO (P:=Tryz.prog) 296
theorem Ek:cE Tryz.prog 296=some (44,[.tmp 4],ur):=by kernel_rfl
def AX:am:=nfO (P:=Tryz.prog) 64
theorem Mf:cE Tryz.prog 64=some (18,[.tmp 4],AX):=by kernel_rfl
def qR:am:=nfO (P:=Tryz.prog) 51
theorem zw:cE Tryz.prog 51=some (52,[.cell 4 true 70],qR):=by kernel_rfl
def d9:am:=nfO (P:=Tryz.prog) 99
theorem rU:cE Tryz.prog 99=some (31,[.tmp 4],d9):=by kernel_rfl
def yM:am:=nfO (P:=Tryz.prog) 35
theorem JD:cE Tryz.prog 35=some (12,[.cell 2 true 32],yM):=by kernel_rfl
end Go.Proofs.YtmpddimhleianaaGreat
