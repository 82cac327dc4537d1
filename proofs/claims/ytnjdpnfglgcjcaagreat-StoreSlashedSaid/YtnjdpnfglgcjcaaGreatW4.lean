/-
 My texts Kn, Ka, Kc, Ki, Ko, joined.
-/
import Derived.Test.YtnjdpnfglgcjcaaGreatW3
import Derived.Test.YtnjdpnfglgcjcaaGreatChecked
import Derived.KernelRfl
set_option maxRecDepth 100000
set_option maxHeartbeats 200000
namespace Go.Proofs.YtnjdpnfglgcjcaaGreat
open Go Go.FH
def yx:ab:=nfO (P:=Tryz.prog) 246
theorem LS:aJ Tryz.prog 246=some (9,[.tmp 2],yx):=by kernel_rfl
def rz:ab:=nfO (P:=Tryz.prog) 254
theorem CQ:aJ Tryz.prog 254=some (12,[.tmp 4,.tmp 5],rz):=by kernel_rfl
def oF:ab:=nfO (P:=Tryz.prog) 390
theorem yF:aJ Tryz.prog 390=some (51,[.tmp 4,.tmp 5],oF):=by kernel_rfl
def BH:ab:=nfO (P:=Tryz.prog) 337
theorem N4:aJ Tryz.prog 337=some (17,[.tmp 4,.tmp 5],BH):=by kernel_rfl
def rB:ab:=nfO (P:=Tryz.prog) 251
theorem CS:aJ Tryz.prog 251=some (14,[.tmp 4,.tmp 5],rB):=by kernel_rfl
def rA:ab:=nfO (P:=Tryz.prog) 122
theorem CR:aJ Tryz.prog 122=some (13,[.tmp 4],rA):=by kernel_rfl
def sH:ab:=nfO (P:=Tryz.prog) 146
theorem EL:aJ Tryz.prog 146=some (6,[.tmp 2],sH):=by kernel_rfl
def ra:ab:=nfO (P:=Tryz.prog) 391
theorem Ct:aJ Tryz.prog 391=some (8,[.tmp 4],ra):=by kernel_rfl
def rx:ab:=nfO (P:=Tryz.prog) 339
theorem CO:aJ Tryz.prog 339=some (8,[.tmp 4],rx):=by kernel_rfl
def nu:ab:=nfO (P:=Tryz.prog) 349
theorem xc:aJ Tryz.prog 349=some (6,[.tmp 2],nu):=by kernel_rfl
def lD:ab:=nfO (P:=Tryz.prog) 274
theorem sV:aJ Tryz.prog 274=some (20,[.tmp 4],lD):=by kernel_rfl
def yc:ab:=nfO (P:=Tryz.prog) 273
theorem K9:aJ Tryz.prog 273=some (18,[.tmp 2],yc):=by kernel_rfl
def mr:ab:=nfO (P:=Tryz.prog) 262
theorem uF:aJ Tryz.prog 262=some (17,[.tmp 4],mr):=by kernel_rfl
def sk:ab:=nfO (P:=Tryz.prog) 141
theorem Ew:aJ Tryz.prog 141=some (10,[.tmp 4],sk):=by kernel_rfl
def sb:ab:=nfO (P:=Tryz.prog) 261
theorem Ec:aJ Tryz.prog 261=some (22,[.tmp 2,.tmp 3],sb):=by kernel_rfl
def ja:ab:=nfO (P:=Tryz.prog) 139
theorem ph:aJ Tryz.prog 139=some (20,[.tmp 4],ja):=by kernel_rfl
def sF:ab:=nfO (P:=Tryz.prog) 90
theorem BP:aJ Tryz.prog 90=some (21,[.tmp 4],sF):=by kernel_rfl
def lJ:ab:=nfO (P:=Tryz.prog) 169
theorem oP:aJ Tryz.prog 169=some (12,[.tmp 4],lJ):=by kernel_rfl
def sE:ab:=nfO (P:=Tryz.prog) 167
theorem BO:aJ Tryz.prog 167=some (8,[.tmp 4],sE):=by kernel_rfl
def sG:ab:=nfO (P:=Tryz.prog) 168
theorem BQ:aJ Tryz.prog 168=some (11,[.tmp 4],sG):=by kernel_rfl
def kc:ab:=nfO (P:=Tryz.prog) 170
theorem oQ:aJ Tryz.prog 170=some (12,[.tmp 4],kc):=by kernel_rfl
def sD:ab:=nfO (P:=Tryz.prog) 277
theorem EK:aJ Tryz.prog 277=some (23,[.cell 2 true 32],sD):=by kernel_rfl
def j7:ab:=nfO (P:=Tryz.prog) 215
theorem qJ:aJ Tryz.prog 215=some (36,[.tmp 4],j7):=by kernel_rfl
def mz:ab:=nfO (P:=Tryz.prog) 242
theorem uJ:aJ Tryz.prog 242=some (42,[.tmp 4],mz):=by kernel_rfl
def jc:ab:=nfO (P:=Tryz.prog) 171
theorem pn:aJ Tryz.prog 171=some (23,[.tmp 2,.tmp 3],jc):=by kernel_rfl
def kf:ab:=(sR [wZ 2 67 0,wZ 3 67 1,wS 4 false]
(sR [fA 5 0 2,lF 6 1 5,fA 7 0 3,lF 8 1 7,bI 9 .eql 6 8,om 10 9,wB 11 1 2 10,wF 12 32 11 10,wB 13 1 3 10,wF 14 32 13 10,og 15 (.eqa [(32,1)] false (.t 12) (.t 14)) 10 true,wN 16 10 15,om 17 16,wB 18 33 2 17,wF 19 33 18 17,wB 20 33 3 17,wF 21 33 20 17,og 22 (.eqa [(33,1)] false (.t 19) (.t 21)) 17 true,wN 23 17 22,om 24 23,wB 25 66 2 24,wD 26 1 25 24,wB 27 66 3 24,wD 28 1 27 24,wY 29 133 26 28 24,wN 30 24 29,om 4 30]
.ret))
theorem qK:aJ Tryz.prog 136=some (31,[.tmp 4],kf):=by kernel_rfl
def kM:ab:=nfO (P:=Tryz.prog) 296
theorem rN:aJ Tryz.prog 296=some (26,[.tmp 2,.tmp 3],kM):=by kernel_rfl
def my:ab:=nfO (P:=Tryz.prog) 298
theorem uI:aJ Tryz.prog 298=some (17,[.tmp 4],my):=by kernel_rfl
def nG:ab:=nfO (P:=Tryz.prog) 174
theorem xl:aJ Tryz.prog 174=some (38,[.tmp 2,.tmp 3],nG):=by kernel_rfl
def lK:ab:=nfO (P:=Tryz.prog) 297
theorem s6:aJ Tryz.prog 297=some (23,[.tmp 2,.tmp 3],lK):=by kernel_rfl
def pR:ab:=(sR [wZ 2 34 0,wZ 3 34 1,wS 4 false]
(sR [fA 5 0 2,lA 6 33 5,fA 7 0 3,lA 8 33 7,oo 9 (.eqa [(33,1)] false (.t 6) (.t 8)),om 10 9,wB 11 33 2 10,wD 12 1 11 10,wB 13 33 3 10,wD 14 1 13 10,wY 15 131 12 14 10,wN 16 10 15,om 4 16]
.ret))
theorem zZ:aJ Tryz.prog 259=some (17,[.tmp 4],pR):=by kernel_rfl
def yu:ab:=nfO (P:=Tryz.prog) 173
theorem LP:aJ Tryz.prog 173=some (44,[.tmp 4],yu):=by kernel_rfl
def BE:ab:=nfO (P:=Tryz.prog) 278
theorem N1:aJ Tryz.prog 278=some (40,[.tmp 4],BE):=by kernel_rfl
def rr:ab:=nfO (P:=Tryz.prog) 133
theorem CK:aJ Tryz.prog 133=some (26,[.tmp 4],rr):=by kernel_rfl
def qC:ab:=nfO (P:=Tryz.prog) 358
theorem yK:aJ Tryz.prog 358=some (18,[.tmp 4],qC):=by kernel_rfl
def pQ:ab:=nfO (P:=Tryz.prog) 359
theorem zY:aJ Tryz.prog 359=some (31,[.tmp 4],pQ):=by kernel_rfl
def nH:ab:=nfO (P:=Tryz.prog) 131
theorem xm:aJ Tryz.prog 131=some (26,[.tmp 4],nH):=by kernel_rfl
def bQ:ab:=nfO (P:=Tryz.prog) 101
theorem qd:aJ Tryz.prog 101=some (54,[.tmp 4],bQ):=by kernel_rfl
def jH:ab:=nfO (P:=Tryz.prog) 103
theorem qc:aJ Tryz.prog 103=some (58,[.tmp 2],jH):=by kernel_rfl
def bL:ab:=nfO (P:=Tryz.prog) 216
theorem pi:aJ Tryz.prog 216=some (36,[.tmp 4],bL):=by kernel_rfl
def jb:ab:=nfO (P:=Tryz.prog) 314
theorem pl:aJ Tryz.prog 314=some (17,[.tmp 4],jb):=by kernel_rfl
def jI:ab:=nfO (P:=Tryz.prog) 137
theorem qe:aJ Tryz.prog 137=some (51,[.tmp 4],jI):=by kernel_rfl
def ru:ab:=nfO (P:=Tryz.prog) 39
theorem CM:aJ Tryz.prog 39=some (32,[.tmp 2],ru):=by kernel_rfl
def aT:ab:=nfO (P:=Tryz.prog) 260
theorem Ad:aJ Tryz.prog 260=some (58,[.tmp 4],aT):=by kernel_rfl
def vJ:ab:=nfO (P:=Tryz.prog) 120
theorem Hz:aJ Tryz.prog 120=some (44,[.tmp 4],vJ):=by kernel_rfl
def DW:ab:=nfO (P:=Tryz.prog) 40
theorem QQ:aJ Tryz.prog 40=some (18,[.tmp 4],DW):=by kernel_rfl
def qY:ab:=nfO (P:=Tryz.prog) 35
theorem Cr:aJ Tryz.prog 35=some (52,[.cell 4 true 70],qY):=by kernel_rfl
def dW:ab:=nfO (P:=Tryz.prog) 100
theorem sS:aJ Tryz.prog 100=some (31,[.tmp 4],dW):=by kernel_rfl
def A9:ab:=nfO (P:=Tryz.prog) 21
theorem NT:aJ Tryz.prog 21=some (12,[.cell 2 true 32],A9):=by kernel_rfl
def gC:ab:=nfO (P:=Tryz.prog) 217
theorem mi:aJ Tryz.prog 217=some (8,[.tmp 2],gC):=by kernel_rfl
def kg:ab:=nfO (P:=Tryz.prog) 257
theorem qL:aJ Tryz.prog 257=some (8,[.tmp 2],kg):=by kernel_rfl
def fQ:ab:=nfO (P:=Tryz.prog) 315
theorem ku:aJ Tryz.prog 315=some (8,[.tmp 2],fQ):=by kernel_rfl
def fP:ab:=nfO (P:=Tryz.prog) 316
theorem kr:aJ Tryz.prog 316=some (8,[.tmp 2],fP):=by kernel_rfl
def fB:ab:=nfO (P:=Tryz.prog) 220
theorem jA:aJ Tryz.prog 220=some (8,[.tmp 2],fB):=by kernel_rfl
def sg:ab:=nfO (P:=Tryz.prog) 143
theorem Es:aJ Tryz.prog 143=some (8,[.cell 2 true 34],sg):=by kernel_rfl
def lE:ab:=nfO (P:=Tryz.prog) 128
theorem sW:aJ Tryz.prog 128=some (8,[.cell 2 true 67],lE):=by kernel_rfl
def jG:ab:=nfO (P:=Tryz.prog) 317
theorem qb:aJ Tryz.prog 317=some (22,[.tmp 4],jG):=by kernel_rfl
def gk:ab:=nfO (P:=Tryz.prog) 219
theorem lR:aJ Tryz.prog 219=some (22,[.tmp 4],gk):=by kernel_rfl
def rc:ab:=nfO (P:=Tryz.prog) 222
theorem Cw:aJ Tryz.prog 222=some (5,[.tmp 2],rc):=by kernel_rfl
def vm:ab:=nfO (P:=Tryz.prog) 221
theorem Hd:aJ Tryz.prog 221=some (7,[.cell 2 true 1],vm):=by kernel_rfl
def si:ab:=nfO (P:=Tryz.prog) 218
theorem Et:aJ Tryz.prog 218=some (10,[.cell 2 true 2],si):=by kernel_rfl
def sf:ab:=nfO (P:=Tryz.prog) 102
theorem Er:aJ Tryz.prog 102=some (34,[.cell 2 true 150],sf):=by kernel_rfl
end Go.Proofs.YtnjdpnfglgcjcaaGreat
