/- Joined. -/
import Derived.Test.YtflhnmleodkjiaaGreatW3
import Derived.Test.YtflhnmleodkjiaaGreatChecked
import Derived.KernelRfl
set_option maxRecDepth 100000
set_option maxHeartbeats 200000
namespace Go.Proofs.YtflhnmleodkjiaaGreat
open Go Go.FH
def Ha:ab:=nfO (P:=Tryz.prog) 237
theorem Ug:aJ Tryz.prog 237=some (28,[.tmp 2,.tmp 3],Ha):=by kernel_rfl
def G8:ab:=nfO (P:=Tryz.prog) 326
theorem Ue:aJ Tryz.prog 326=some (13,[.tmp 4,.tmp 5],G8):=by kernel_rfl
def vc:ab:=nfO (P:=Tryz.prog) 397
theorem HG:aJ Tryz.prog 397=some (14,[.tmp 4,.tmp 5],vc):=by kernel_rfl
def yV:ab:=nfO (P:=Tryz.prog) 446
theorem Ky:aJ Tryz.prog 446=some (9,[.tmp 2],yV):=by kernel_rfl
def G9:ab:=nfO (P:=Tryz.prog) 447
theorem Uf:aJ Tryz.prog 447=some (17,[.tmp 4,.tmp 5],G9):=by kernel_rfl
def tL:ab:=nfO (P:=Tryz.prog) 468
theorem FV:aJ Tryz.prog 468=some (18,[.tmp 4],tL):=by kernel_rfl
def nK:ab:=nfO (P:=Tryz.prog) 307
theorem yc:aJ Tryz.prog 307=some (24,[.tmp 4],nK):=by kernel_rfl
def mJ:ab:=nfO (P:=Tryz.prog) 150
theorem vT:aJ Tryz.prog 150=some (24,[.tmp 4],mJ):=by kernel_rfl
def rF:ab:=nfO (P:=Tryz.prog) 152
theorem DL:aJ Tryz.prog 152=some (8,[.cell 2 true 34],rF):=by kernel_rfl
def kF:ab:=nfO (P:=Tryz.prog) 292
theorem IK:aJ Tryz.prog 292=some (28,[.tmp 4,.tmp 5],kF):=by kernel_rfl
def rG:ab:=(sR [wZ 3 33 1,wR 4 0]
(.seq (sR [wR 5 0]
(.block 0 (.loop (.seq (sR [om 6 5,om 7 0,lN 8 7,bI 9 .lss 6 8]
(cN 9
.skip
(.exit 0)))
(.seq (.block 1 (.seq (.dreg [(om 12 0,0),(om 13 5,0),(iX 14 34 12 13,3),(fA 15 0 14,7),(lA 16 33 15,15),(lA 17 33 3,0),(oo 18 (.eqa [(33,1)] false (.t 16) (.t 17)),63)])
(cN 18
(sR [om 19 5,om 4 19]
.ret)
.skip)))
(.reg [om 10 5,bC 11 .add 10 (ci 1),om 5 11]))))))
(sR [wR 4 (-1)]
.ret)))
theorem DM:aJ Tryz.prog 186=some (20,[.tmp 4],rG):=by kernel_rfl
def iT:ab:=nfO (P:=Tryz.prog) 188
theorem pW:aJ Tryz.prog 188=some (20,[.tmp 4],iT):=by kernel_rfl
def za:ab:=nfO (P:=Tryz.prog) 448
theorem KI:aJ Tryz.prog 448=some (52,[.tmp 6],za):=by kernel_rfl
def AL:ab:=nfO (P:=Tryz.prog) 92
theorem OE:aJ Tryz.prog 92=some (23,[.tmp 4],AL):=by kernel_rfl
def ky:ab:=nfO (P:=Tryz.prog) 158
theorem ou:aJ Tryz.prog 158=some (23,[.tmp 4],ky):=by kernel_rfl
def G6:ab:=nfO (P:=Tryz.prog) 245
theorem Uc:aJ Tryz.prog 245=some (14,[.tmp 4],G6):=by kernel_rfl
def E4:ab:=nfO (P:=Tryz.prog) 244
theorem QJ:aJ Tryz.prog 244=some (36,[.tmp 6],E4):=by kernel_rfl
def ET:ab:=nfO (P:=Tryz.prog) 151
theorem Q3:aJ Tryz.prog 151=some (10,[.cell 4 true 1],ET):=by kernel_rfl
def o6:ab:=nfO (P:=Tryz.prog) 387
theorem zJ:aJ Tryz.prog 387=some (12,[.tmp 6],o6):=by kernel_rfl
def uS:ab:=nfO (P:=Tryz.prog) 400
theorem Hv:aJ Tryz.prog 400=some (40,[.tmp 4,.tmp 5],uS):=by kernel_rfl
def uU:ab:=nfO (P:=Tryz.prog) 401
theorem Hx:aJ Tryz.prog 401=some (40,[.tmp 6],uU):=by kernel_rfl
def tG:ab:=nfO (P:=Tryz.prog) 402
theorem FP:aJ Tryz.prog 402=some (40,[.tmp 4],tG):=by kernel_rfl
def tE:ab:=nfO (P:=Tryz.prog) 403
theorem FN:aJ Tryz.prog 403=some (42,[.tmp 8],tE):=by kernel_rfl
def ru:ab:=nfO (P:=Tryz.prog) 405
theorem DA:aJ Tryz.prog 405=some (32,[.tmp 4],ru):=by kernel_rfl
def YI:ab:=nfO (P:=Tryz.prog) 396
theorem DD:aJ Tryz.prog 396=some (9,[.tmp 2],YI):=by kernel_rfl
def nJ:ab:=nfO (P:=Tryz.prog) 444
theorem yb:aJ Tryz.prog 444=some (23,[.tmp 4],nJ):=by kernel_rfl
def qm:ab:=nfO (P:=Tryz.prog) 215
theorem BK:aJ Tryz.prog 215=some (7,[.tmp 2],qm):=by kernel_rfl
def kv:ab:=nfO (P:=Tryz.prog) 213
theorem qB:aJ Tryz.prog 213=some (27,[],kv):=by kernel_rfl
def ff:ab:=nfO (P:=Tryz.prog) 333
theorem iZ:aJ Tryz.prog 333=some (19,[.tmp 4],ff):=by kernel_rfl
def fg:ab:=nfO (P:=Tryz.prog) 445
theorem i8:aJ Tryz.prog 445=some (19,[.tmp 4],fg):=by kernel_rfl
def eH:ab:=nfO (P:=Tryz.prog) 393
theorem hZ:aJ Tryz.prog 393=some (9,[.tmp 4],eH):=by kernel_rfl
def eI:ab:=nfO (P:=Tryz.prog) 391
theorem ia:aJ Tryz.prog 391=some (9,[.tmp 4],eI):=by kernel_rfl
def rl:ab:=nfO (P:=Tryz.prog) 242
theorem Dw:aJ Tryz.prog 242=some (9,[.tmp 4],rl):=by kernel_rfl
def oZ:ab:=nfO (P:=Tryz.prog) 334
theorem zF:aJ Tryz.prog 334=some (9,[.tmp 3],oZ):=by kernel_rfl
def mm:ab:=nfO (P:=Tryz.prog) 427
theorem vC:aJ Tryz.prog 427=some (9,[.tmp 2],mm):=by kernel_rfl
end Go.Proofs.YtflhnmleodkjiaaGreat
