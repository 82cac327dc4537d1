/- Joined. -/
import Derived.Test.YtflhnmleodkjiaaGreatW3
import Derived.Test.YtflhnmleodkjiaaGreatChecked
import Derived.KernelRfl
set_option maxRecDepth 100000
set_option maxHeartbeats 200000
namespace Go.Proofs.YtflhnmleodkjiaaGreat
open Go Go.FH
def EV:ab:=nfO (P:=Tryz.prog) 75
theorem Q5:aJ Tryz.prog 75=some (126,[.cell 2 true 150,.tmp 3],EV):=by kernel_rfl
def u7:ab:=nfO (P:=Tryz.prog) 149
theorem HE:aJ Tryz.prog 149=some (15,[.tmp 6],u7):=by kernel_rfl
def AP:ab:=nfO (P:=Tryz.prog) 238
theorem OI:aJ Tryz.prog 238=some (28,[.tmp 2],AP):=by kernel_rfl
def o9:ab:=nfO (P:=Tryz.prog) 187
theorem zL:aJ Tryz.prog 187=some (7,[.tmp 2],o9):=by kernel_rfl
def tI:ab:=nfO (P:=Tryz.prog) 327
theorem FR:aJ Tryz.prog 327=some (39,[.tmp 2],tI):=by kernel_rfl
def AQ:ab:=nfO (P:=Tryz.prog) 328
theorem OJ:aJ Tryz.prog 328=some (20,[.tmp 2],AQ):=by kernel_rfl
def uX:ab:=nfO (P:=Tryz.prog) 329
theorem HA:aJ Tryz.prog 329=some (76,[.tmp 8],uX):=by kernel_rfl
def yT:ab:=nfO (P:=Tryz.prog) 308
theorem Kv:aJ Tryz.prog 308=some (19,[.tmp 4,.tmp 5],yT):=by kernel_rfl
def yR:ab:=nfO (P:=Tryz.prog) 190
theorem Ks:aJ Tryz.prog 190=some (10,[.tmp 4],yR):=by kernel_rfl
def rz:ab:=nfO (P:=Tryz.prog) 399
theorem DE:aJ Tryz.prog 399=some (18,[.tmp 2],rz):=by kernel_rfl
def AT:ab:=nfO (P:=Tryz.prog) 404
theorem OM:aJ Tryz.prog 404=some (26,[.tmp 4],AT):=by kernel_rfl
def yQ:ab:=nfO (P:=Tryz.prog) 191
theorem Kq:aJ Tryz.prog 191=some (29,[.tmp 6],yQ):=by kernel_rfl
def tJ:ab:=nfO (P:=Tryz.prog) 309
theorem FS:aJ Tryz.prog 309=some (49,[.tmp 4],tJ):=by kernel_rfl
def qr:ab:=nfO (P:=Tryz.prog) 449
theorem BP:aJ Tryz.prog 449=some (54,[.tmp 4],qr):=by kernel_rfl
def G7:ab:=nfO (P:=Tryz.prog) 469
theorem Ud:aJ Tryz.prog 469=some (15,[.tmp 4],G7):=by kernel_rfl
def uY:ab:=nfO (P:=Tryz.prog) 470
theorem HB:aJ Tryz.prog 470=some (34,[.cell 4 true 33],uY):=by kernel_rfl
def yW:ab:=nfO (P:=Tryz.prog) 28
theorem Kz:aJ Tryz.prog 28=some (26,[.cell 2 true 252,.tmp 3,.tmp 4],yW):=by kernel_rfl
def kz:ab:=(sR [wZ 1 252 0,oo 2 (.new (aV rD)),oo 3 (.mv (.c (.sl 0 true [])))]
(sR [fA 5 0 1,lA 6 150 5,kA 7 153 6,oo 4 (.new (AZ fS)),sO 96 4 7]
(.seq (sR [fA 8 153 1,lF 9 1 8,om 10 9,wB 11 154 1 10,wF 12 96 11 10,wF 13 96 4 10,og 14 (.eqa [(96,1)] false (.t 12) (.t 13)) 10 true,wN 15 10 14]
(cN 15
(sR [lA 16 252 1,sO 252 2 16,oo 3 (.mv (.c (.sl 0 true [])))]
.ret)
.skip))
(.seq (.dreg [(lA 17 96 4,0),(fA 18 153 1,0),(on (.sto 1 (.t 18) (cb true)),2),(fA 19 154 1,7),(sO 96 19 17,15)])
(.seq (.dreg [(lA 20 252 1,0),(lA 21 96 4,0),(oo 22 (.bldS 96 1 (AZ fS) [(0,(.t 21))]),2),(sO 252 2 20,1),(om 3 22,15)])
.ret)))))
theorem OO:aJ Tryz.prog 76=some (23,[.cell 2 true 252,.tmp 3],kz):=by kernel_rfl
def tM:ab:=nfO (P:=Tryz.prog) 153
theorem FW:aJ Tryz.prog 153=some (19,[.cell 2 true 96],tM):=by kernel_rfl
def AX:ab:=nfO (P:=Tryz.prog) 239
theorem OQ:aJ Tryz.prog 239=some (28,[.cell 2 true 32],AX):=by kernel_rfl
def oM:ab:=nfO (P:=Tryz.prog) 285
theorem xR:aJ Tryz.prog 285=some (24,[.tmp 4],oM):=by kernel_rfl
def dl:ab:=nfO (P:=Tryz.prog) 296
theorem H2:aJ Tryz.prog 296=some (117,[.cell 4 true 252],dl):=by kernel_rfl
def jM:ab:=nfO (P:=Tryz.prog) 384
theorem HF:aJ Tryz.prog 384=some (23,[.tmp 4],jM):=by kernel_rfl
def yG:ab:=nfO (P:=Tryz.prog) 26
theorem J4:aJ Tryz.prog 26=some (67,[.cell 2 true 45],yG):=by kernel_rfl
def Mj:ab:=nfO (P:=Tryz.prog) 71
theorem afa:aJ Tryz.prog 71=some (23,[.tmp 4],Mj):=by kernel_rfl
end Go.Proofs.YtflhnmleodkjiaaGreat
