/- Joined. -/
import Derived.Test.YtflhnmleodkjiaaGreatW3
import Derived.Test.YtflhnmleodkjiaaGreatChecked
import Derived.KernelRfl
set_option maxRecDepth 100000
set_option maxHeartbeats 200000
namespace Go.Proofs.YtflhnmleodkjiaaGreat
open Go Go.FH
def u9:ab:=nfO (P:=Tryz.prog) 60
theorem CE:aJ Tryz.prog 60=some (28,[.tmp 2],u9):=by kernel_rfl
def yC:ab:=nfO (P:=Tryz.prog) 63
theorem Dc:aJ Tryz.prog 63=some (29,[.tmp 2],yC):=by kernel_rfl
def vh:ab:=nfO (P:=Tryz.prog) 61
theorem E9:aJ Tryz.prog 61=some (21,[.tmp 4],vh):=by kernel_rfl
def mH:ab:=nfO (P:=Tryz.prog) 96
theorem qC:aJ Tryz.prog 96=some (12,[.tmp 4],mH):=by kernel_rfl
def vg:ab:=nfO (P:=Tryz.prog) 94
theorem E8:aJ Tryz.prog 94=some (8,[.tmp 4],vg):=by kernel_rfl
def vk:ab:=nfO (P:=Tryz.prog) 95
theorem Fa:aJ Tryz.prog 95=some (11,[.tmp 4],vk):=by kernel_rfl
def kD:ab:=nfO (P:=Tryz.prog) 97
theorem mI:aJ Tryz.prog 97=some (12,[.tmp 4],kD):=by kernel_rfl
def sF:ab:=nfO (P:=Tryz.prog) 99
theorem BS:aJ Tryz.prog 99=some (12,[.tmp 4],sF):=by kernel_rfl
def o4:ab:=nfO (P:=Tryz.prog) 211
theorem zH:aJ Tryz.prog 211=some (63,[.tmp 4],o4):=by kernel_rfl
def YG:ab:=nfO (P:=Tryz.prog) 121
theorem Dz:aJ Tryz.prog 121=some (7,[.tmp 2],YG):=by kernel_rfl
def YD:ab:=nfO (P:=Tryz.prog) 398
theorem BI:aJ Tryz.prog 398=some (8,[.tmp 2],YD):=by kernel_rfl
def qn:ab:=nfO (P:=Tryz.prog) 122
theorem BL:aJ Tryz.prog 122=some (41,[.tmp 4],qn):=by kernel_rfl
def qh:ab:=nfO (P:=Tryz.prog) 49
theorem BH:aJ Tryz.prog 49=some (42,[.tmp 2],qh):=by kernel_rfl
def qk:ab:=nfO (P:=Tryz.prog) 50
theorem BJ:aJ Tryz.prog 50=some (34,[.cell 2 true 32],qk):=by kernel_rfl
def qo:ab:=nfO (P:=Tryz.prog) 207
theorem BM:aJ Tryz.prog 207=some (6,[.cell 2 true 4],qo):=by kernel_rfl
def jK:ab:=nfO (P:=Tryz.prog) 112
theorem rQ:aJ Tryz.prog 112=some (26,[.cell 2 true 33],jK):=by kernel_rfl
def o5:ab:=nfO (P:=Tryz.prog) 51
theorem zI:aJ Tryz.prog 51=some (20,[.tmp 2],o5):=by kernel_rfl
def zB:ab:=nfO (P:=Tryz.prog) 58
theorem Ht:aJ Tryz.prog 58=some (20,[.tmp 4],zB):=by kernel_rfl
def o3:ab:=nfO (P:=Tryz.prog) 205
theorem sS:aJ Tryz.prog 205=some (12,[.tmp 4],o3):=by kernel_rfl
def zA:ab:=nfO (P:=Tryz.prog) 206
theorem Hs:aJ Tryz.prog 206=some (8,[.tmp 4],zA):=by kernel_rfl
def zC:ab:=nfO (P:=Tryz.prog) 198
theorem Hu:aJ Tryz.prog 198=some (11,[.tmp 4],zC):=by kernel_rfl
def vd:ab:=nfO (P:=Tryz.prog) 194
theorem HH:aJ Tryz.prog 194=some (23,[.cell 2 true 32],vd):=by kernel_rfl
def lC:ab:=nfO (P:=Tryz.prog) 199
theorem rP:aJ Tryz.prog 199=some (12,[.tmp 4],lC):=by kernel_rfl
def uR:ab:=nfO (P:=Tryz.prog) 201
theorem E6:aJ Tryz.prog 201=some (12,[.tmp 4],uR):=by kernel_rfl
def Mm:ab:=nfO (P:=Tryz.prog) 42
theorem YS:aJ Tryz.prog 42=some (6,[.tmp 2],Mm):=by kernel_rfl
def co:ab:=nfO (P:=Tryz.prog) 70
theorem ip:aJ Tryz.prog 70=some (8,[.tmp 2],co):=by kernel_rfl
def qp:ab:=nfO (P:=Tryz.prog) 123
theorem BN:aJ Tryz.prog 123=some (8,[],qp):=by kernel_rfl
def nH:ab:=nfO (P:=Tryz.prog) 217
theorem xZ:aJ Tryz.prog 217=some (51,[.tmp 2,.tmp 3,.tmp 4],nH):=by kernel_rfl
def rJ:ab:=nfO (P:=Tryz.prog) 313
theorem DQ:aJ Tryz.prog 313=some (25,[.cell 2 true 4],rJ):=by kernel_rfl
def vn:ab:=nfO (P:=Tryz.prog) 310
theorem HL:aJ Tryz.prog 310=some (22,[.cell 2 true 32],vn):=by kernel_rfl
def tF:ab:=nfO (P:=Tryz.prog) 219
theorem Bv:aJ Tryz.prog 219=some (32,[.tmp 4],tF):=by kernel_rfl
def tz:ab:=nfO (P:=Tryz.prog) 132
theorem Bu:aJ Tryz.prog 132=some (21,[.cell 2 true 32],tz):=by kernel_rfl
def f8:ab:=nfO (P:=Tryz.prog) 126
theorem uW:aJ Tryz.prog 126=some (25,[.cell 2 true 33],f8):=by kernel_rfl
def tH:ab:=nfO (P:=Tryz.prog) 218
theorem Bw:aJ Tryz.prog 218=some (6,[.cell 2 true 4],tH):=by kernel_rfl
def tc:ab:=nfO (P:=Tryz.prog) 135
theorem Bt:aJ Tryz.prog 135=some (30,[.tmp 2],tc):=by kernel_rfl
def uC:ab:=nfO (P:=Tryz.prog) 319
theorem B8:aJ Tryz.prog 319=some (90,[.tmp 2,.tmp 3],uC):=by kernel_rfl
def tK:ab:=nfO (P:=Tryz.prog) 223
theorem Bx:aJ Tryz.prog 223=some (13,[],tK):=by kernel_rfl
def tO:ab:=nfO (P:=Tryz.prog) 222
theorem By:aJ Tryz.prog 222=some (50,[.tmp 4],tO):=by kernel_rfl
def vq:ab:=nfO (P:=Tryz.prog) 318
theorem CL:aJ Tryz.prog 318=some (28,[.cell 2 true 4],vq):=by kernel_rfl
def kx:ab:=nfO (P:=Tryz.prog) 311
theorem sT:aJ Tryz.prog 311=some (36,[.tmp 4],kx):=by kernel_rfl
def nM:ab:=nfO (P:=Tryz.prog) 195
theorem ye:aJ Tryz.prog 195=some (42,[.tmp 4],nM):=by kernel_rfl
def gX:ab:=nfO (P:=Tryz.prog) 200
theorem ot:aJ Tryz.prog 200=some (25,[.tmp 2,.tmp 3],gX):=by kernel_rfl
def jk:ab:=nfO (P:=Tryz.prog) 98
theorem qW:aJ Tryz.prog 98=some (23,[.tmp 2,.tmp 3],jk):=by kernel_rfl
def gW:ab:=nfO (P:=Tryz.prog) 212
theorem oq:aJ Tryz.prog 212=some (40,[.cell 2 true 67,.tmp 3,.tmp 4],gW):=by kernel_rfl
def kE:ab:=(sR [wZ 2 67 0,wZ 3 67 1,wS 4 false]
(sR [fA 5 0 2,lF 6 1 5,fA 7 0 3,lF 8 1 7,bI 9 .eql 6 8,om 10 9,wB 11 1 2 10,wF 12 32 11 10,wB 13 1 3 10,wF 14 32 13 10,og 15 (.eqa [(32,1)] false (.t 12) (.t 14)) 10 true,wN 16 10 15,om 17 16,wB 18 33 2 17,wF 19 33 18 17,wB 20 33 3 17,wF 21 33 20 17,og 22 (.eqa [(33,1)] false (.t 19) (.t 21)) 17 true,wN 23 17 22,om 24 23,wB 25 66 2 24,wD 26 1 25 24,wB 27 66 3 24,wD 28 1 27 24,wY 29 138 26 28 24,wN 30 24 29,om 4 30]
.ret))
theorem sU:aJ Tryz.prog 141=some (31,[.tmp 4],kE):=by kernel_rfl
def lm:ab:=nfO (P:=Tryz.prog) 204
theorem uy:aJ Tryz.prog 204=some (31,[.tmp 2,.tmp 3],lm):=by kernel_rfl
def iU:ab:=nfO (P:=Tryz.prog) 101
theorem zN:aJ Tryz.prog 101=some (38,[.tmp 2,.tmp 3],iU):=by kernel_rfl
def lj:ab:=nfO (P:=Tryz.prog) 216
theorem uw:aJ Tryz.prog 216=some (57,[.cell 2 true 34,.tmp 3,.tmp 4],lj):=by kernel_rfl
def rE:ab:=(sR [wZ 2 34 0,wZ 3 34 1,wS 4 false]
(sR [fA 5 0 2,lA 6 33 5,fA 7 0 3,lA 8 33 7,oo 9 (.eqa [(33,1)] false (.t 6) (.t 8)),om 10 9,wB 11 33 2 10,wD 12 1 11 10,wB 13 33 3 10,wD 14 1 13 10,wY 15 136 12 14 10,wN 16 10 15,om 4 16]
.ret))
theorem DK:aJ Tryz.prog 224=some (17,[.tmp 4],rE):=by kernel_rfl
def lk:ab:=nfO (P:=Tryz.prog) 203
theorem ux:aJ Tryz.prog 203=some (58,[.tmp 2],lk):=by kernel_rfl
def li:ab:=nfO (P:=Tryz.prog) 214
theorem uv:aJ Tryz.prog 214=some (84,[.cell 2 true 238,.tmp 3,.tmp 4],li):=by kernel_rfl
def sE:ab:=nfO (P:=Tryz.prog) 100
theorem BR:aJ Tryz.prog 100=some (44,[.tmp 4],sE):=by kernel_rfl
def f7:ab:=nfO (P:=Tryz.prog) 221
theorem uV:aJ Tryz.prog 221=some (40,[.cell 2 true 67,.tmp 3,.tmp 4],f7):=by kernel_rfl
def mD:ab:=nfO (P:=Tryz.prog) 312
theorem vN:aJ Tryz.prog 312=some (35,[.tmp 4],mD):=by kernel_rfl
def EX:ab:=nfO (P:=Tryz.prog) 196
theorem Q7:aJ Tryz.prog 196=some (40,[.tmp 4],EX):=by kernel_rfl
def nI:ab:=nfO (P:=Tryz.prog) 314
theorem ya:aJ Tryz.prog 314=some (9,[.tmp 2],nI):=by kernel_rfl
def jL:ab:=nfO (P:=Tryz.prog) 315
theorem rR:aJ Tryz.prog 315=some (8,[.tmp 2],jL):=by kernel_rfl
def lq:ab:=nfO (P:=Tryz.prog) 316
theorem uz:aJ Tryz.prog 316=some (47,[.tmp 2],lq):=by kernel_rfl
def mE:ab:=nfO (P:=Tryz.prog) 317
theorem vO:aJ Tryz.prog 317=some (37,[.tmp 4,.tmp 5],mE):=by kernel_rfl
def tP:ab:=nfO (P:=Tryz.prog) 138
theorem FZ:aJ Tryz.prog 138=some (26,[.tmp 4],tP):=by kernel_rfl
def ph:ab:=nfO (P:=Tryz.prog) 136
theorem zO:aJ Tryz.prog 136=some (26,[.tmp 4],ph):=by kernel_rfl
def vA:ab:=nfO (P:=Tryz.prog) 129
theorem CS:aJ Tryz.prog 129=some (33,[.cell 2 true 238],vA):=by kernel_rfl
def yF:ab:=nfO (P:=Tryz.prog) 320
theorem Dd:aJ Tryz.prog 320=some (33,[.tmp 2],yF):=by kernel_rfl
def vS:ab:=nfO (P:=Tryz.prog) 133
theorem CT:aJ Tryz.prog 133=some (35,[.cell 2 true 34],vS):=by kernel_rfl
def MT:ab:=nfO (P:=Tryz.prog) 381
theorem II:aJ Tryz.prog 381=some (44,[.tmp 4],MT):=by kernel_rfl
def Hb:ab:=nfO (P:=Tryz.prog) 382
theorem Uh:aJ Tryz.prog 382=some (18,[.tmp 4],Hb):=by kernel_rfl
def EQ:ab:=nfO (P:=Tryz.prog) 72
theorem QZ:aJ Tryz.prog 72=some (12,[.cell 2 true 32],EQ):=by kernel_rfl
def BA:ab:=nfO (P:=Tryz.prog) 337
theorem OU:aJ Tryz.prog 337=some (9,[.tmp 2],BA):=by kernel_rfl
def tT:ab:=nfO (P:=Tryz.prog) 345
theorem F4:aJ Tryz.prog 345=some (12,[.tmp 4,.tmp 5],tT):=by kernel_rfl
def qg:ab:=nfO (P:=Tryz.prog) 451
theorem BG:aJ Tryz.prog 451=some (51,[.tmp 4,.tmp 5],qg):=by kernel_rfl
def EZ:ab:=nfO (P:=Tryz.prog) 419
theorem Q9:aJ Tryz.prog 419=some (17,[.tmp 4,.tmp 5],EZ):=by kernel_rfl
def tU:ab:=nfO (P:=Tryz.prog) 342
theorem F5:aJ Tryz.prog 342=some (14,[.tmp 4,.tmp 5],tU):=by kernel_rfl
def vl:ab:=nfO (P:=Tryz.prog) 227
theorem HJ:aJ Tryz.prog 227=some (6,[.tmp 2],vl):=by kernel_rfl
def tC:ab:=nfO (P:=Tryz.prog) 453
theorem FL:aJ Tryz.prog 453=some (8,[.tmp 4],tC):=by kernel_rfl
def tS:ab:=nfO (P:=Tryz.prog) 414
theorem F3:aJ Tryz.prog 414=some (8,[.tmp 4],tS):=by kernel_rfl
def sm:ab:=nfO (P:=Tryz.prog) 395
theorem zG:aJ Tryz.prog 395=some (6,[.tmp 2],sm):=by kernel_rfl
def mo:ab:=nfO (P:=Tryz.prog) 305
theorem vD:aJ Tryz.prog 305=some (20,[.tmp 4],mo):=by kernel_rfl
def AK:ab:=nfO (P:=Tryz.prog) 304
theorem OD:aJ Tryz.prog 304=some (18,[.tmp 2],AK):=by kernel_rfl
def nG:ab:=nfO (P:=Tryz.prog) 359
theorem xY:aJ Tryz.prog 359=some (17,[.tmp 4],nG):=by kernel_rfl
def uQ:ab:=nfO (P:=Tryz.prog) 271
theorem Hr:aJ Tryz.prog 271=some (10,[.tmp 4],uQ):=by kernel_rfl
def uM:ab:=nfO (P:=Tryz.prog) 321
theorem Hn:aJ Tryz.prog 321=some (22,[.tmp 2,.tmp 3],uM):=by kernel_rfl
def jj:ab:=nfO (P:=Tryz.prog) 228
theorem qU:aJ Tryz.prog 228=some (20,[.tmp 4],jj):=by kernel_rfl
end Go.Proofs.YtflhnmleodkjiaaGreat
