/- Joined. -/
import Derived.Test.YtblipkgpoaonaaaGreatW3
import Derived.Test.YtblipkgpoaonaaaGreatChecked
import Derived.KernelRfl
set_option maxRecDepth 100000
set_option maxHeartbeats 200000
namespace Go.Proofs.YtblipkgpoaonaaaGreat
open Go Go.FH
def o4:ab:=nfO (P:=Tryz.prog) 201
theorem zH:aJ Tryz.prog 201=some (63,[.tmp 4],o4):=by kernel_rfl
def jK:ab:=nfO (P:=Tryz.prog) 99
theorem rQ:aJ Tryz.prog 99=some (26,[.cell 2 true 33],jK):=by kernel_rfl
def vd:ab:=nfO (P:=Tryz.prog) 181
theorem HH:aJ Tryz.prog 181=some (23,[.cell 2 true 32],vd):=by kernel_rfl
def rJ:ab:=nfO (P:=Tryz.prog) 305
theorem DQ:aJ Tryz.prog 305=some (25,[.cell 2 true 4],rJ):=by kernel_rfl
def vn:ab:=nfO (P:=Tryz.prog) 302
theorem HL:aJ Tryz.prog 302=some (22,[.cell 2 true 32],vn):=by kernel_rfl
def tF:ab:=nfO (P:=Tryz.prog) 209
theorem Bv:aJ Tryz.prog 209=some (32,[.tmp 4],tF):=by kernel_rfl
def tz:ab:=nfO (P:=Tryz.prog) 119
theorem Bu:aJ Tryz.prog 119=some (21,[.cell 2 true 32],tz):=by kernel_rfl
def f8:ab:=nfO (P:=Tryz.prog) 113
theorem uW:aJ Tryz.prog 113=some (25,[.cell 2 true 33],f8):=by kernel_rfl
def tH:ab:=nfO (P:=Tryz.prog) 208
theorem Bw:aJ Tryz.prog 208=some (6,[.cell 2 true 4],tH):=by kernel_rfl
def tc:ab:=nfO (P:=Tryz.prog) 122
theorem Bt:aJ Tryz.prog 122=some (30,[.tmp 2],tc):=by kernel_rfl
def vq:ab:=nfO (P:=Tryz.prog) 310
theorem CL:aJ Tryz.prog 310=some (28,[.cell 2 true 4],vq):=by kernel_rfl
def kx:ab:=nfO (P:=Tryz.prog) 303
theorem sT:aJ Tryz.prog 303=some (36,[.tmp 4],kx):=by kernel_rfl
def nM:ab:=nfO (P:=Tryz.prog) 182
theorem ye:aJ Tryz.prog 182=some (42,[.tmp 4],nM):=by kernel_rfl
def gX:ab:=nfO (P:=Tryz.prog) 190
theorem ot:aJ Tryz.prog 190=some (25,[.tmp 2,.tmp 3],gX):=by kernel_rfl
def jk:ab:=nfO (P:=Tryz.prog) 83
theorem qW:aJ Tryz.prog 83=some (23,[.tmp 2,.tmp 3],jk):=by kernel_rfl
def gW:ab:=nfO (P:=Tryz.prog) 202
theorem oq:aJ Tryz.prog 202=some (40,[.cell 2 true 67,.tmp 3,.tmp 4],gW):=by kernel_rfl
def kE:ab:=(sR [wZ 2 67 0,wZ 3 67 1,wS 4 false]
(sR [fA 5 0 2,lF 6 1 5,fA 7 0 3,lF 8 1 7,bI 9 .eql 6 8,om 10 9,wB 11 1 2 10,wF 12 32 11 10,wB 13 1 3 10,wF 14 32 13 10,og 15 (.eqa [(32,1)] false (.t 12) (.t 14)) 10 true,wN 16 10 15,om 17 16,wB 18 33 2 17,wF 19 33 18 17,wB 20 33 3 17,wF 21 33 20 17,og 22 (.eqa [(33,1)] false (.t 19) (.t 21)) 17 true,wN 23 17 22,om 24 23,wB 25 66 2 24,wD 26 1 25 24,wB 27 66 3 24,wD 28 1 27 24,wY 29 125 26 28 24,wN 30 24 29,om 4 30]
.ret))
theorem sU:aJ Tryz.prog 128=some (31,[.tmp 4],kE):=by kernel_rfl
def lm:ab:=nfO (P:=Tryz.prog) 194
theorem uy:aJ Tryz.prog 194=some (31,[.tmp 2,.tmp 3],lm):=by kernel_rfl
def kh:ab:=nfO (P:=Tryz.prog) 226
theorem mF:aJ Tryz.prog 226=some (40,[.tmp 2,.tmp 3],kh):=by kernel_rfl
def kX:ab:=nfO (P:=Tryz.prog) 262
theorem o0:aJ Tryz.prog 262=some (26,[.tmp 2,.tmp 3],kX):=by kernel_rfl
def mo:ab:=nfO (P:=Tryz.prog) 264
theorem qm:aJ Tryz.prog 264=some (17,[.tmp 4],mo):=by kernel_rfl
def iU:ab:=nfO (P:=Tryz.prog) 86
theorem zN:aJ Tryz.prog 86=some (38,[.tmp 2,.tmp 3],iU):=by kernel_rfl
def ku:ab:=nfO (P:=Tryz.prog) 227
theorem m0:aJ Tryz.prog 227=some (23,[.tmp 2,.tmp 3],ku):=by kernel_rfl
def lC:ab:=nfO (P:=Tryz.prog) 263
theorem px:aJ Tryz.prog 263=some (23,[.tmp 2,.tmp 3],lC):=by kernel_rfl
def lj:ab:=nfO (P:=Tryz.prog) 206
theorem uw:aJ Tryz.prog 206=some (57,[.cell 2 true 34,.tmp 3,.tmp 4],lj):=by kernel_rfl
def rE:ab:=(sR [wZ 2 34 0,wZ 3 34 1,wS 4 false]
(sR [fA 5 0 2,lA 6 33 5,fA 7 0 3,lA 8 33 7,oo 9 (.eqa [(33,1)] false (.t 6) (.t 8)),om 10 9,wB 11 33 2 10,wD 12 1 11 10,wB 13 33 3 10,wD 14 1 13 10,wY 15 123 12 14 10,wN 16 10 15,om 4 16]
.ret))
theorem DK:aJ Tryz.prog 214=some (17,[.tmp 4],rE):=by kernel_rfl
def lk:ab:=nfO (P:=Tryz.prog) 193
theorem ux:aJ Tryz.prog 193=some (58,[.tmp 2],lk):=by kernel_rfl
def li:ab:=nfO (P:=Tryz.prog) 204
theorem uv:aJ Tryz.prog 204=some (84,[.cell 2 true 238,.tmp 3,.tmp 4],li):=by kernel_rfl
def sE:ab:=nfO (P:=Tryz.prog) 85
theorem BR:aJ Tryz.prog 85=some (44,[.tmp 4],sE):=by kernel_rfl
def f7:ab:=nfO (P:=Tryz.prog) 211
theorem uV:aJ Tryz.prog 211=some (40,[.cell 2 true 67,.tmp 3,.tmp 4],f7):=by kernel_rfl
def tP:ab:=nfO (P:=Tryz.prog) 125
theorem FZ:aJ Tryz.prog 125=some (26,[.tmp 4],tP):=by kernel_rfl
def nI:ab:=nfO (P:=Tryz.prog) 354
theorem sF:aJ Tryz.prog 354=some (18,[.tmp 4],nI):=by kernel_rfl
def mI:ab:=nfO (P:=Tryz.prog) 355
theorem tO:aJ Tryz.prog 355=some (31,[.tmp 4],mI):=by kernel_rfl
def ph:ab:=nfO (P:=Tryz.prog) 123
theorem zO:aJ Tryz.prog 123=some (26,[.tmp 4],ph):=by kernel_rfl
def kv:ab:=nfO (P:=Tryz.prog) 275
theorem ni:aJ Tryz.prog 275=some (51,[.tmp 4],kv):=by kernel_rfl
def ou:ab:=nfO (P:=Tryz.prog) 277
theorem ve:aJ Tryz.prog 277=some (32,[.tmp 2],ou):=by kernel_rfl
def ar:ab:=nfO (P:=Tryz.prog) 365
theorem tQ:aJ Tryz.prog 365=some (58,[.tmp 4],ar):=by kernel_rfl
def MT:ab:=nfO (P:=Tryz.prog) 366
theorem II:aJ Tryz.prog 366=some (44,[.tmp 4],MT):=by kernel_rfl
def Hb:ab:=nfO (P:=Tryz.prog) 367
theorem Uh:aJ Tryz.prog 367=some (18,[.tmp 4],Hb):=by kernel_rfl
def nQ:ab:=nfO (P:=Tryz.prog) 60
theorem uY:aJ Tryz.prog 60=some (52,[.cell 4 true 70],nQ):=by kernel_rfl
def f9:ab:=nfO (P:=Tryz.prog) 138
theorem pl:aJ Tryz.prog 138=some (31,[.tmp 4],f9):=by kernel_rfl
def EQ:ab:=nfO (P:=Tryz.prog) 72
theorem QZ:aJ Tryz.prog 72=some (12,[.cell 2 true 32],EQ):=by kernel_rfl
end Go.Proofs.YtblipkgpoaonaaaGreat
