/-
 My texts Kk, Kl, joined.
-/
import Derived.Test.YtnjdpnfglgcjcaaGreatW3
import Derived.Test.YtnjdpnfglgcjcaaGreatChecked
import Derived.KernelRfl
set_option maxRecDepth 100000
set_option maxHeartbeats 200000
namespace Go.Proofs.YtnjdpnfglgcjcaaGreat
open Go Go.FH
def EV:ab:=nfO (P:=Tryz.prog) 108
theorem Q5:aJ Tryz.prog 108=some (126,[.cell 2 true 150,.tmp 3],EV):=by kernel_rfl
def u7:ab:=nfO (P:=Tryz.prog) 236
theorem HE:aJ Tryz.prog 236=some (15,[.tmp 6],u7):=by kernel_rfl
def AP:ab:=nfO (P:=Tryz.prog) 310
theorem OI:aJ Tryz.prog 310=some (28,[.tmp 2],AP):=by kernel_rfl
def o9:ab:=nfO (P:=Tryz.prog) 113
theorem zL:aJ Tryz.prog 113=some (7,[.tmp 2],o9):=by kernel_rfl
def tI:ab:=nfO (P:=Tryz.prog) 373
theorem FR:aJ Tryz.prog 373=some (39,[.tmp 2],tI):=by kernel_rfl
def AQ:ab:=nfO (P:=Tryz.prog) 374
theorem OJ:aJ Tryz.prog 374=some (20,[.tmp 2],AQ):=by kernel_rfl
def uX:ab:=nfO (P:=Tryz.prog) 375
theorem HA:aJ Tryz.prog 375=some (76,[.tmp 8],uX):=by kernel_rfl
def yT:ab:=nfO (P:=Tryz.prog) 243
theorem Kv:aJ Tryz.prog 243=some (19,[.tmp 4,.tmp 5],yT):=by kernel_rfl
def yR:ab:=nfO (P:=Tryz.prog) 116
theorem Ks:aJ Tryz.prog 116=some (10,[.tmp 4],yR):=by kernel_rfl
def rz:ab:=nfO (P:=Tryz.prog) 42
theorem DE:aJ Tryz.prog 42=some (18,[.tmp 2],rz):=by kernel_rfl
def AT:ab:=nfO (P:=Tryz.prog) 401
theorem OM:aJ Tryz.prog 401=some (26,[.tmp 4],AT):=by kernel_rfl
def yQ:ab:=nfO (P:=Tryz.prog) 117
theorem Kq:aJ Tryz.prog 117=some (29,[.tmp 6],yQ):=by kernel_rfl
def tJ:ab:=nfO (P:=Tryz.prog) 244
theorem FS:aJ Tryz.prog 244=some (49,[.tmp 4],tJ):=by kernel_rfl
def qr:ab:=nfO (P:=Tryz.prog) 409
theorem BP:aJ Tryz.prog 409=some (54,[.tmp 4],qr):=by kernel_rfl
def G7:ab:=nfO (P:=Tryz.prog) 411
theorem Ud:aJ Tryz.prog 411=some (15,[.tmp 4],G7):=by kernel_rfl
def uY:ab:=nfO (P:=Tryz.prog) 412
theorem HB:aJ Tryz.prog 412=some (34,[.cell 4 true 33],uY):=by kernel_rfl
def yW:ab:=nfO (P:=Tryz.prog) 78
theorem Kz:aJ Tryz.prog 78=some (26,[.cell 2 true 252,.tmp 3,.tmp 4],yW):=by kernel_rfl
def kz:ab:=(sR [wZ 1 252 0,oo 2 (.new (aV rD)),oo 3 (.mv (.c (.sl 0 true [])))]
(sR [fA 5 0 1,lA 6 150 5,kA 7 210 6,oo 4 (.new (co fS)),sO 96 4 7]
(.seq (sR [fA 8 153 1,lF 9 1 8,om 10 9,wB 11 154 1 10,wF 12 96 11 10,wF 13 96 4 10,og 14 (.eqa [(96,1)] false (.t 12) (.t 13)) 10 true,wN 15 10 14]
(cN 15
(sR [lA 16 252 1,sO 252 2 16,oo 3 (.mv (.c (.sl 0 true [])))]
.ret)
.skip))
(.seq (.dreg [(lA 17 96 4,0),(fA 18 153 1,0),(on (.sto 1 (.t 18) (cb true)),2),(fA 19 154 1,7),(sO 96 19 17,15)])
(.seq (.dreg [(lA 20 252 1,0),(lA 21 96 4,0),(oo 22 (.bldS 96 1 (co fS) [(0,(.t 21))]),2),(sO 252 2 20,1),(om 3 22,15)])
.ret)))))
theorem OO:aJ Tryz.prog 84=some (23,[.cell 2 true 252,.tmp 3],kz):=by kernel_rfl
def tM:ab:=nfO (P:=Tryz.prog) 210
theorem FW:aJ Tryz.prog 210=some (19,[.cell 2 true 96],tM):=by kernel_rfl
def AX:ab:=nfO (P:=Tryz.prog) 311
theorem OQ:aJ Tryz.prog 311=some (28,[.cell 2 true 32],AX):=by kernel_rfl
def yG:ab:=nfO (P:=Tryz.prog) 79
theorem J4:aJ Tryz.prog 79=some (67,[.cell 2 true 45],yG):=by kernel_rfl
def Mj:ab:=nfO (P:=Tryz.prog) 153
theorem Yf:aJ Tryz.prog 153=some (23,[.tmp 4],Mj):=by kernel_rfl
end Go.Proofs.YtnjdpnfglgcjcaaGreat
