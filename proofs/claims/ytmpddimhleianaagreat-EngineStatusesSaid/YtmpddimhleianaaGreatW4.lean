/- Joined. -/
import Derived.Test.YtmpddimhleianaaGreatW3
import Derived.Test.YtmpddimhleianaaGreatChecked
import Derived.KernelRfl
set_option maxRecDepth 100000
set_option maxHeartbeats 200000
namespace Go.Proofs.YtmpddimhleianaaGreat
open Go Go.FH
def vd:ab:=nfO (P:=Tryz.prog) 342
theorem HH:aJ Tryz.prog 342=some (23,[.cell 2 true 32],vd):=by kernel_rfl
def vn:ab:=nfO (P:=Tryz.prog) 317
theorem HL:aJ Tryz.prog 317=some (22,[.cell 2 true 32],vn):=by kernel_rfl
def kx:ab:=nfO (P:=Tryz.prog) 234
theorem sT:aJ Tryz.prog 234=some (36,[.tmp 4],kx):=by kernel_rfl
def nM:ab:=nfO (P:=Tryz.prog) 132
theorem ye:aJ Tryz.prog 132=some (42,[.tmp 4],nM):=by kernel_rfl
def gX:ab:=nfO (P:=Tryz.prog) 159
theorem ot:aJ Tryz.prog 159=some (25,[.tmp 2,.tmp 3],gX):=by kernel_rfl
def jk:ab:=nfO (P:=Tryz.prog) 195
theorem qW:aJ Tryz.prog 195=some (23,[.tmp 2,.tmp 3],jk):=by kernel_rfl
def kE:ab:=(sR [wZ 2 67 0,wZ 3 67 1,wS 4 false]
(sR [fA 5 0 2,lF 6 1 5,fA 7 0 3,lF 8 1 7,bI 9 .eql 6 8,om 10 9,wB 11 1 2 10,wF 12 32 11 10,wB 13 1 3 10,wF 14 32 13 10,og 15 (.eqa [(32,1)] false (.t 12) (.t 14)) 10 true,wN 16 10 15,om 17 16,wB 18 33 2 17,wF 19 33 18 17,wB 20 33 3 17,wF 21 33 20 17,og 22 (.eqa [(33,1)] false (.t 19) (.t 21)) 17 true,wN 23 17 22,om 24 23,wB 25 66 2 24,wD 26 1 25 24,wB 27 66 3 24,wD 28 1 27 24,wY 29 93 26 28 24,wN 30 24 29,om 4 30]
.ret))
theorem sU:aJ Tryz.prog 96=some (31,[.tmp 4],kE):=by kernel_rfl
def lm:ab:=nfO (P:=Tryz.prog) 161
theorem uy:aJ Tryz.prog 161=some (31,[.tmp 2,.tmp 3],lm):=by kernel_rfl
def kh:ab:=nfO (P:=Tryz.prog) 160
theorem mF:aJ Tryz.prog 160=some (40,[.tmp 2,.tmp 3],kh):=by kernel_rfl
def kX:ab:=nfO (P:=Tryz.prog) 196
theorem o0:aJ Tryz.prog 196=some (26,[.tmp 2,.tmp 3],kX):=by kernel_rfl
def mo:ab:=nfO (P:=Tryz.prog) 200
theorem qm:aJ Tryz.prog 200=some (17,[.tmp 4],mo):=by kernel_rfl
def iU:ab:=nfO (P:=Tryz.prog) 197
theorem zN:aJ Tryz.prog 197=some (38,[.tmp 2,.tmp 3],iU):=by kernel_rfl
def ku:ab:=nfO (P:=Tryz.prog) 162
theorem m0:aJ Tryz.prog 162=some (23,[.tmp 2,.tmp 3],ku):=by kernel_rfl
def lC:ab:=nfO (P:=Tryz.prog) 198
theorem px:aJ Tryz.prog 198=some (23,[.tmp 2,.tmp 3],lC):=by kernel_rfl
def rE:ab:=(sR [wZ 2 34 0,wZ 3 34 1,wS 4 false]
(sR [fA 5 0 2,lA 6 33 5,fA 7 0 3,lA 8 33 7,oo 9 (.eqa [(33,1)] false (.t 6) (.t 8)),om 10 9,wB 11 33 2 10,wD 12 1 11 10,wB 13 33 3 10,wD 14 1 13 10,wY 15 91 12 14 10,wN 16 10 15,om 4 16]
.ret))
theorem DK:aJ Tryz.prog 156=some (17,[.tmp 4],rE):=by kernel_rfl
def lk:ab:=nfO (P:=Tryz.prog) 158
theorem ux:aJ Tryz.prog 158=some (58,[.tmp 2],lk):=by kernel_rfl
def sE:ab:=nfO (P:=Tryz.prog) 194
theorem BR:aJ Tryz.prog 194=some (44,[.tmp 4],sE):=by kernel_rfl
def tP:ab:=nfO (P:=Tryz.prog) 93
theorem FZ:aJ Tryz.prog 93=some (26,[.tmp 4],tP):=by kernel_rfl
def nI:ab:=nfO (P:=Tryz.prog) 284
theorem sF:aJ Tryz.prog 284=some (18,[.tmp 4],nI):=by kernel_rfl
def mI:ab:=nfO (P:=Tryz.prog) 285
theorem tO:aJ Tryz.prog 285=some (31,[.tmp 4],mI):=by kernel_rfl
def ph:ab:=nfO (P:=Tryz.prog) 91
theorem zO:aJ Tryz.prog 91=some (26,[.tmp 4],ph):=by kernel_rfl
def bL:ab:=nfO (P:=Tryz.prog) 182
theorem jZ:aJ Tryz.prog 182=some (54,[.tmp 4],bL):=by kernel_rfl
def ee:ab:=nfO (P:=Tryz.prog) 183
theorem jS:aJ Tryz.prog 183=some (58,[.tmp 2],ee):=by kernel_rfl
def bD:ab:=nfO (P:=Tryz.prog) 263
theorem i7:aJ Tryz.prog 263=some (36,[.tmp 4],bD):=by kernel_rfl
def ec:ab:=nfO (P:=Tryz.prog) 330
theorem jo:aJ Tryz.prog 330=some (17,[.tmp 4],ec):=by kernel_rfl
def kv:ab:=nfO (P:=Tryz.prog) 211
theorem ni:aJ Tryz.prog 211=some (51,[.tmp 4],kv):=by kernel_rfl
def ou:ab:=nfO (P:=Tryz.prog) 213
theorem ve:aJ Tryz.prog 213=some (32,[.tmp 2],ou):=by kernel_rfl
def aR:ab:=nfO (P:=Tryz.prog) 295
theorem tQ:aJ Tryz.prog 295=some (58,[.tmp 4],aR):=by kernel_rfl
def MT:ab:=nfO (P:=Tryz.prog) 296
theorem II:aJ Tryz.prog 296=some (44,[.tmp 4],MT):=by kernel_rfl
def Hb:ab:=nfO (P:=Tryz.prog) 64
theorem Uh:aJ Tryz.prog 64=some (18,[.tmp 4],Hb):=by kernel_rfl
def nQ:ab:=nfO (P:=Tryz.prog) 51
theorem uY:aJ Tryz.prog 51=some (52,[.cell 4 true 70],nQ):=by kernel_rfl
def dm:ab:=nfO (P:=Tryz.prog) 99
theorem pl:aJ Tryz.prog 99=some (31,[.tmp 4],dm):=by kernel_rfl
def EQ:ab:=nfO (P:=Tryz.prog) 35
theorem QZ:aJ Tryz.prog 35=some (12,[.cell 2 true 32],EQ):=by kernel_rfl
end Go.Proofs.YtmpddimhleianaaGreat
