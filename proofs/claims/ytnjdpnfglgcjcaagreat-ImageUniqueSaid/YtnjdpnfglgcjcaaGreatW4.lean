/- Joined. -/
import Derived.Test.YtnjdpnfglgcjcaaGreatW3
import Derived.Test.YtnjdpnfglgcjcaaGreatChecked
import Derived.KernelRfl
set_option maxRecDepth 100000
set_option maxHeartbeats 200000
namespace Go.Proofs.YtnjdpnfglgcjcaaGreat
open Go Go.FH
def vh:ab:=nfO (P:=Tryz.prog) 90
theorem E9:aJ Tryz.prog 90=some (21,[.tmp 4],vh):=by kernel_rfl
def mH:ab:=nfO (P:=Tryz.prog) 169
theorem qC:aJ Tryz.prog 169=some (12,[.tmp 4],mH):=by kernel_rfl
def vg:ab:=nfO (P:=Tryz.prog) 167
theorem E8:aJ Tryz.prog 167=some (8,[.tmp 4],vg):=by kernel_rfl
def vk:ab:=nfO (P:=Tryz.prog) 168
theorem Fa:aJ Tryz.prog 168=some (11,[.tmp 4],vk):=by kernel_rfl
def kD:ab:=nfO (P:=Tryz.prog) 170
theorem mI:aJ Tryz.prog 170=some (12,[.tmp 4],kD):=by kernel_rfl
def sF:ab:=nfO (P:=Tryz.prog) 172
theorem BS:aJ Tryz.prog 172=some (12,[.tmp 4],sF):=by kernel_rfl
def o4:ab:=nfO (P:=Tryz.prog) 283
theorem zH:aJ Tryz.prog 283=some (63,[.tmp 4],o4):=by kernel_rfl
def YG:ab:=nfO (P:=Tryz.prog) 187
theorem Dz:aJ Tryz.prog 187=some (7,[.tmp 2],YG):=by kernel_rfl
def YD:ab:=nfO (P:=Tryz.prog) 393
theorem BI:aJ Tryz.prog 393=some (8,[.tmp 2],YD):=by kernel_rfl
def qn:ab:=nfO (P:=Tryz.prog) 188
theorem BL:aJ Tryz.prog 188=some (41,[.tmp 4],qn):=by kernel_rfl
def qh:ab:=nfO (P:=Tryz.prog) 73
theorem BH:aJ Tryz.prog 73=some (42,[.tmp 2],qh):=by kernel_rfl
def qk:ab:=nfO (P:=Tryz.prog) 74
theorem BJ:aJ Tryz.prog 74=some (34,[.cell 2 true 32],qk):=by kernel_rfl
def qo:ab:=nfO (P:=Tryz.prog) 279
theorem BM:aJ Tryz.prog 279=some (6,[.cell 2 true 4],qo):=by kernel_rfl
def jK:ab:=nfO (P:=Tryz.prog) 178
theorem rQ:aJ Tryz.prog 178=some (26,[.cell 2 true 33],jK):=by kernel_rfl
def o5:ab:=nfO (P:=Tryz.prog) 75
theorem zI:aJ Tryz.prog 75=some (20,[.tmp 2],o5):=by kernel_rfl
def zB:ab:=nfO (P:=Tryz.prog) 87
theorem Ht:aJ Tryz.prog 87=some (20,[.tmp 4],zB):=by kernel_rfl
def o3:ab:=nfO (P:=Tryz.prog) 164
theorem sS:aJ Tryz.prog 164=some (12,[.tmp 4],o3):=by kernel_rfl
def zA:ab:=nfO (P:=Tryz.prog) 165
theorem Hs:aJ Tryz.prog 165=some (8,[.tmp 4],zA):=by kernel_rfl
def zC:ab:=nfO (P:=Tryz.prog) 157
theorem Hu:aJ Tryz.prog 157=some (11,[.tmp 4],zC):=by kernel_rfl
def vd:ab:=nfO (P:=Tryz.prog) 277
theorem HH:aJ Tryz.prog 277=some (23,[.cell 2 true 32],vd):=by kernel_rfl
def lC:ab:=nfO (P:=Tryz.prog) 158
theorem rP:aJ Tryz.prog 158=some (12,[.tmp 4],lC):=by kernel_rfl
def uR:ab:=nfO (P:=Tryz.prog) 160
theorem E6:aJ Tryz.prog 160=some (12,[.tmp 4],uR):=by kernel_rfl
def Mm:ab:=nfO (P:=Tryz.prog) 66
theorem YS:aJ Tryz.prog 66=some (6,[.tmp 2],Mm):=by kernel_rfl
def qp:ab:=nfO (P:=Tryz.prog) 189
theorem BN:aJ Tryz.prog 189=some (8,[],qp):=by kernel_rfl
def nH:ab:=nfO (P:=Tryz.prog) 289
theorem xZ:aJ Tryz.prog 289=some (51,[.tmp 2,.tmp 3,.tmp 4],nH):=by kernel_rfl
def rJ:ab:=nfO (P:=Tryz.prog) 350
theorem DQ:aJ Tryz.prog 350=some (25,[.cell 2 true 4],rJ):=by kernel_rfl
def vn:ab:=nfO (P:=Tryz.prog) 275
theorem HL:aJ Tryz.prog 275=some (22,[.cell 2 true 32],vn):=by kernel_rfl
def kx:ab:=nfO (P:=Tryz.prog) 215
theorem sT:aJ Tryz.prog 215=some (36,[.tmp 4],kx):=by kernel_rfl
def nM:ab:=nfO (P:=Tryz.prog) 242
theorem ye:aJ Tryz.prog 242=some (42,[.tmp 4],nM):=by kernel_rfl
def gX:ab:=nfO (P:=Tryz.prog) 159
theorem ot:aJ Tryz.prog 159=some (25,[.tmp 2,.tmp 3],gX):=by kernel_rfl
def jk:ab:=nfO (P:=Tryz.prog) 171
theorem qW:aJ Tryz.prog 171=some (23,[.tmp 2,.tmp 3],jk):=by kernel_rfl
def gW:ab:=nfO (P:=Tryz.prog) 284
theorem oq:aJ Tryz.prog 284=some (40,[.cell 2 true 67,.tmp 3,.tmp 4],gW):=by kernel_rfl
def kE:ab:=(sR [wZ 2 67 0,wZ 3 67 1,wS 4 false]
(sR [fA 5 0 2,lF 6 1 5,fA 7 0 3,lF 8 1 7,bI 9 .eql 6 8,om 10 9,wB 11 1 2 10,wF 12 32 11 10,wB 13 1 3 10,wF 14 32 13 10,og 15 (.eqa [(32,1)] false (.t 12) (.t 14)) 10 true,wN 16 10 15,om 17 16,wB 18 33 2 17,wF 19 33 18 17,wB 20 33 3 17,wF 21 33 20 17,og 22 (.eqa [(33,1)] false (.t 19) (.t 21)) 17 true,wN 23 17 22,om 24 23,wB 25 66 2 24,wD 26 1 25 24,wB 27 66 3 24,wD 28 1 27 24,wY 29 133 26 28 24,wN 30 24 29,om 4 30]
.ret))
theorem sU:aJ Tryz.prog 136=some (31,[.tmp 4],kE):=by kernel_rfl
def lm:ab:=nfO (P:=Tryz.prog) 163
theorem uy:aJ Tryz.prog 163=some (31,[.tmp 2,.tmp 3],lm):=by kernel_rfl
def EG:ab:=nfO (P:=Tryz.prog) 296
theorem JS:aJ Tryz.prog 296=some (26,[.tmp 2,.tmp 3],EG):=by kernel_rfl
def Fy:ab:=nfO (P:=Tryz.prog) 298
theorem LS:aJ Tryz.prog 298=some (17,[.tmp 4],Fy):=by kernel_rfl
def iU:ab:=nfO (P:=Tryz.prog) 174
theorem zN:aJ Tryz.prog 174=some (38,[.tmp 2,.tmp 3],iU):=by kernel_rfl
def Fh:ab:=nfO (P:=Tryz.prog) 297
theorem KD:aJ Tryz.prog 297=some (23,[.tmp 2,.tmp 3],Fh):=by kernel_rfl
def lj:ab:=nfO (P:=Tryz.prog) 288
theorem uw:aJ Tryz.prog 288=some (57,[.cell 2 true 34,.tmp 3,.tmp 4],lj):=by kernel_rfl
def rE:ab:=(sR [wZ 2 34 0,wZ 3 34 1,wS 4 false]
(sR [fA 5 0 2,lA 6 33 5,fA 7 0 3,lA 8 33 7,oo 9 (.eqa [(33,1)] false (.t 6) (.t 8)),om 10 9,wB 11 33 2 10,wD 12 1 11 10,wB 13 33 3 10,wD 14 1 13 10,wY 15 131 12 14 10,wN 16 10 15,om 4 16]
.ret))
theorem DK:aJ Tryz.prog 259=some (17,[.tmp 4],rE):=by kernel_rfl
def lk:ab:=nfO (P:=Tryz.prog) 162
theorem ux:aJ Tryz.prog 162=some (58,[.tmp 2],lk):=by kernel_rfl
def li:ab:=nfO (P:=Tryz.prog) 286
theorem uv:aJ Tryz.prog 286=some (84,[.cell 2 true 238,.tmp 3,.tmp 4],li):=by kernel_rfl
def sE:ab:=nfO (P:=Tryz.prog) 173
theorem BR:aJ Tryz.prog 173=some (44,[.tmp 4],sE):=by kernel_rfl
def mD:ab:=nfO (P:=Tryz.prog) 276
theorem vN:aJ Tryz.prog 276=some (35,[.tmp 4],mD):=by kernel_rfl
def EX:ab:=nfO (P:=Tryz.prog) 278
theorem Q7:aJ Tryz.prog 278=some (40,[.tmp 4],EX):=by kernel_rfl
def nI:ab:=nfO (P:=Tryz.prog) 351
theorem ya:aJ Tryz.prog 351=some (9,[.tmp 2],nI):=by kernel_rfl
def jL:ab:=nfO (P:=Tryz.prog) 352
theorem rR:aJ Tryz.prog 352=some (8,[.tmp 2],jL):=by kernel_rfl
def lq:ab:=nfO (P:=Tryz.prog) 353
theorem uz:aJ Tryz.prog 353=some (47,[.tmp 2],lq):=by kernel_rfl
def mE:ab:=nfO (P:=Tryz.prog) 354
theorem vO:aJ Tryz.prog 354=some (37,[.tmp 4,.tmp 5],mE):=by kernel_rfl
def tP:ab:=nfO (P:=Tryz.prog) 133
theorem FZ:aJ Tryz.prog 133=some (26,[.tmp 4],tP):=by kernel_rfl
def IL:ab:=nfO (P:=Tryz.prog) 358
theorem Oz:aJ Tryz.prog 358=some (18,[.tmp 4],IL):=by kernel_rfl
def Hz:ab:=nfO (P:=Tryz.prog) 359
theorem Py:aJ Tryz.prog 359=some (31,[.tmp 4],Hz):=by kernel_rfl
def ph:ab:=nfO (P:=Tryz.prog) 131
theorem zO:aJ Tryz.prog 131=some (26,[.tmp 4],ph):=by kernel_rfl
def DT:ab:=nfO (P:=Tryz.prog) 137
theorem HD:aJ Tryz.prog 137=some (51,[.tmp 4],DT):=by kernel_rfl
def Jt:ab:=nfO (P:=Tryz.prog) 39
theorem R5:aJ Tryz.prog 39=some (32,[.tmp 2],Jt):=by kernel_rfl
def fD:ab:=nfO (P:=Tryz.prog) 260
theorem Pz:aJ Tryz.prog 260=some (58,[.tmp 4],fD):=by kernel_rfl
def MT:ab:=nfO (P:=Tryz.prog) 120
theorem II:aJ Tryz.prog 120=some (44,[.tmp 4],MT):=by kernel_rfl
def Hb:ab:=nfO (P:=Tryz.prog) 40
theorem Uh:aJ Tryz.prog 40=some (18,[.tmp 4],Hb):=by kernel_rfl
def IX:ab:=nfO (P:=Tryz.prog) 35
theorem Rw:aJ Tryz.prog 35=some (52,[.cell 4 true 70],IX):=by kernel_rfl
def AW:ab:=nfO (P:=Tryz.prog) 100
theorem Km:aJ Tryz.prog 100=some (31,[.tmp 4],AW):=by kernel_rfl
def EQ:ab:=nfO (P:=Tryz.prog) 21
theorem QZ:aJ Tryz.prog 21=some (12,[.cell 2 true 32],EQ):=by kernel_rfl
def BA:ab:=nfO (P:=Tryz.prog) 246
theorem OU:aJ Tryz.prog 246=some (9,[.tmp 2],BA):=by kernel_rfl
def tT:ab:=nfO (P:=Tryz.prog) 254
theorem F4:aJ Tryz.prog 254=some (12,[.tmp 4,.tmp 5],tT):=by kernel_rfl
def qg:ab:=nfO (P:=Tryz.prog) 390
theorem BG:aJ Tryz.prog 390=some (51,[.tmp 4,.tmp 5],qg):=by kernel_rfl
def EZ:ab:=nfO (P:=Tryz.prog) 337
theorem Q9:aJ Tryz.prog 337=some (17,[.tmp 4,.tmp 5],EZ):=by kernel_rfl
def tU:ab:=nfO (P:=Tryz.prog) 251
theorem F5:aJ Tryz.prog 251=some (14,[.tmp 4,.tmp 5],tU):=by kernel_rfl
def vl:ab:=nfO (P:=Tryz.prog) 146
theorem HJ:aJ Tryz.prog 146=some (6,[.tmp 2],vl):=by kernel_rfl
def tC:ab:=nfO (P:=Tryz.prog) 391
theorem FL:aJ Tryz.prog 391=some (8,[.tmp 4],tC):=by kernel_rfl
def tS:ab:=nfO (P:=Tryz.prog) 339
theorem F3:aJ Tryz.prog 339=some (8,[.tmp 4],tS):=by kernel_rfl
def o0:ab:=nfO (P:=Tryz.prog) 349
theorem zG:aJ Tryz.prog 349=some (6,[.tmp 2],o0):=by kernel_rfl
def mo:ab:=nfO (P:=Tryz.prog) 274
theorem vD:aJ Tryz.prog 274=some (20,[.tmp 4],mo):=by kernel_rfl
def AK:ab:=nfO (P:=Tryz.prog) 273
theorem OD:aJ Tryz.prog 273=some (18,[.tmp 2],AK):=by kernel_rfl
def nG:ab:=nfO (P:=Tryz.prog) 262
theorem xY:aJ Tryz.prog 262=some (17,[.tmp 4],nG):=by kernel_rfl
def uQ:ab:=nfO (P:=Tryz.prog) 141
theorem Hr:aJ Tryz.prog 141=some (10,[.tmp 4],uQ):=by kernel_rfl
def uM:ab:=nfO (P:=Tryz.prog) 261
theorem Hn:aJ Tryz.prog 261=some (22,[.tmp 2,.tmp 3],uM):=by kernel_rfl
def jj:ab:=nfO (P:=Tryz.prog) 139
theorem qU:aJ Tryz.prog 139=some (20,[.tmp 4],jj):=by kernel_rfl
end Go.Proofs.YtnjdpnfglgcjcaaGreat
