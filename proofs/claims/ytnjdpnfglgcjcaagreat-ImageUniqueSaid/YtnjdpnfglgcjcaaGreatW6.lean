/- Joined. -/
import Derived.Test.YtnjdpnfglgcjcaaGreatW3
import Derived.Test.YtnjdpnfglgcjcaaGreatChecked
import Derived.KernelRfl
set_option maxRecDepth 100000
set_option maxHeartbeats 200000
namespace Go.Proofs.YtnjdpnfglgcjcaaGreat
open Go Go.FH
def EV:ab:=nfO (P:=Tryz.prog) 108
theorem Q5:aJ Tryz.prog 108=some (126,[.cell 2 true 150,.tmp 3],EV):=by kernel_rfl
def u7:ab:=nfO (P:=Tryz.prog) 236
theorem HE:aJ Tryz.prog 236=some (15,[.tmp 6],u7):=by kernel_rfl
def NF:ab:=nfO (P:=Tryz.prog) 204
theorem Ys:aJ Tryz.prog 204=some (82,[.cell 2 true 150,.tmp 3],NF):=by kernel_rfl
def AE:ab:=nfO (P:=Tryz.prog) 207
theorem Vf:aJ Tryz.prog 207=some (108,[.cell 4 true 150,.tmp 5,.tmp 6],AE):=by kernel_rfl
def J3:ab:=nfO (P:=Tryz.prog) 48
theorem TM:aJ Tryz.prog 48=some (47,[.cell 4 true 150,.tmp 5],J3):=by kernel_rfl
def Mz:ab:=nfO (P:=Tryz.prog) 50
theorem Vj:aJ Tryz.prog 50=some (33,[.cell 4 true 150,.tmp 5],Mz):=by kernel_rfl
def Hh:ab:=nfO (P:=Tryz.prog) 52
theorem Pw:aJ Tryz.prog 52=some (46,[.cell 4 true 150,.tmp 5],Hh):=by kernel_rfl
def AP:ab:=nfO (P:=Tryz.prog) 310
theorem OI:aJ Tryz.prog 310=some (28,[.tmp 2],AP):=by kernel_rfl
def I1:ab:=nfO (P:=Tryz.prog) 299
theorem RD:aJ Tryz.prog 299=some (61,[.cell 2 true 66],I1):=by kernel_rfl
def AF:ab:=(sR [wZ 3 150 0,wZ 4 33 1,wZ 5 33 2,oo 6 (.new (aE kU))]
(sR [lA 16 150 3,lA 17 33 4,lA 18 33 5,kC 19 360 16 17 18,om 15 19,eX 20 0 15,eX 21 1 15,eX 22 2 15,oo 7 (.new (cpC cp0)),oo 8 (.new (cpC cp0)),sO 33 7 20,sO 33 8 21,om 9 22]
(.seq (sR [om 23 9,wO 24 23]
(cN 24
(sR [lA 25 150 3,sO 150 6 25]
.ret)
.skip))
(sR [fA 26 149 3,lF 27 1 26,fA 28 0 7,lF 29 1 28,kB 30 361 27 29,fA 31 149 3,sO 1 31 30]
(sR [lA 32 33 8,fA 33 47 3,fA 34 33 33,lA 35 33 34,oo 36 (.eqa [(33,1)] true (.t 32) (.t 35)),om 10 36]
(.seq (.dreg [(lA 37 33 7,0),(lA 38 33 8,0),(fA 39 47 3,1),(fA 40 0 39,5),(sO 33 40 37,13),(fA 41 47 3,31),(fA 42 33 41,63),(sO 33 42 38,127)])
(.seq (sR [om 43 10,wO 44 43]
(cN 44
(sR [lA 45 150 3,sO 150 6 45]
.ret)
.skip))
(.seq (.dreg [(fA 47 115 3,0),(lA 48 1 47,1),(fA 49 115 3,0),(lA 50 1 49,4),(fA 51 1 8,0),(lA 52 32 51,16),(kB 53 110 50 52,60),(kB 54 362 48 53,127),(om 46 54,255),(eX 55 0 46,511),(eX 56 1 46,511),(eX 57 2 46,511),(fA 58 115 3,1023),(sO 1 58 55,5119)])
(.seq (sR [fA 59 115 3,lA 60 1 59,fA 61 117 3,lA 62 32 61,kB 63 110 60 62,bC 64 .lss 63 (ci 0)]
(cN 64
(.reg [oo 65 (.bld (rtc rt0) []),fA 66 117 3,sO 32 66 65])
.skip))
(sR [lA 68 150 3,fA 69 0 8,lF 70 1 69,kB 71 243 68 70,om 67 71,eX 72 0 67,eX 73 1 67,om 11 72,om 12 73]
(sR [oo 13 (.mv (.c (.sl 0 true [])))]
(.seq (sR [wR 14 0]
(.block 0 (.loop (.seq (sR [om 74 14,fA 75 113 3,fA 76 1 75,lF 77 1 76,lN 78 77,bI 79 .lss 74 78]
(cN 79
.skip
(.exit 0)))
(.seq (.block 1 (sR [fA 82 113 3,fA 83 1 82,lF 84 1 83,om 85 14,iX 86 238 84 85,fA 87 66 86,lF 88 1 87,om 89 11,bI 90 .gtr 88 89]
(cN 90
(.reg [om 91 13,fA 92 113 3,fA 93 1 92,lF 94 1 93,om 95 14,iX 96 238 94 95,lA 97 238 96,oo 98 (.bldS 238 1 (aO cw) [(0,(.t 97))]),oo 99 (.app 238 336 (.t 91) (.t 98)),om 13 99])
.skip)))
(.reg [om 80 14,bC 81 .add 80 (ci 1),om 14 81]))))))
(sR [om 100 13,fA 101 113 3,fA 102 1 101,sO 1 102 100]
(sR [lA 103 150 3,sO 150 6 103]
.ret))))))))))))))
theorem TN:aJ Tryz.prog 300=some (104,[.cell 6 true 150],AF):=by kernel_rfl
def Ah:ab:=nfO (P:=Tryz.prog) 129
theorem G5:aJ Tryz.prog 129=some (99,[.tmp 4,.tmp 5],Ah):=by kernel_rfl
def F1:ab:=nfO (P:=Tryz.prog) 130
theorem KC:aJ Tryz.prog 130=some (22,[.cell 4 true 150],F1):=by kernel_rfl
def Gi:ab:=nfO (P:=Tryz.prog) 304
theorem M0:aJ Tryz.prog 304=some (96,[.tmp 4],Gi):=by kernel_rfl
def J8:ab:=nfO (P:=Tryz.prog) 305
theorem TO:aJ Tryz.prog 305=some (39,[.cell 4 true 150],J8):=by kernel_rfl
def I2:ab:=nfO (P:=Tryz.prog) 306
theorem RP:aJ Tryz.prog 306=some (24,[.tmp 2],I2):=by kernel_rfl
def o9:ab:=nfO (P:=Tryz.prog) 113
theorem zL:aJ Tryz.prog 113=some (7,[.tmp 2],o9):=by kernel_rfl
def tI:ab:=nfO (P:=Tryz.prog) 373
theorem FR:aJ Tryz.prog 373=some (39,[.tmp 2],tI):=by kernel_rfl
def AQ:ab:=nfO (P:=Tryz.prog) 374
theorem OJ:aJ Tryz.prog 374=some (20,[.tmp 2],AQ):=by kernel_rfl
def uX:ab:=nfO (P:=Tryz.prog) 375
theorem HA:aJ Tryz.prog 375=some (76,[.tmp 8],uX):=by kernel_rfl
def AM:ab:=nfO (P:=Tryz.prog) 360
theorem Om:aJ Tryz.prog 360=some (118,[.cell 6 true 33,.cell 7 true 33,.tmp 8],AM):=by kernel_rfl
def yT:ab:=nfO (P:=Tryz.prog) 243
theorem Kv:aJ Tryz.prog 243=some (19,[.tmp 4,.tmp 5],yT):=by kernel_rfl
def yR:ab:=nfO (P:=Tryz.prog) 116
theorem Ks:aJ Tryz.prog 116=some (10,[.tmp 4],yR):=by kernel_rfl
def Mw:ab:=nfO (P:=Tryz.prog) 363
theorem Vg:aJ Tryz.prog 363=some (28,[.tmp 4],Mw):=by kernel_rfl
def NE:ab:=nfO (P:=Tryz.prog) 364
theorem Yq:aJ Tryz.prog 364=some (88,[.tmp 4],NE):=by kernel_rfl
def rz:ab:=nfO (P:=Tryz.prog) 42
theorem DE:aJ Tryz.prog 42=some (18,[.tmp 2],rz):=by kernel_rfl
def AT:ab:=nfO (P:=Tryz.prog) 401
theorem OM:aJ Tryz.prog 401=some (26,[.tmp 4],AT):=by kernel_rfl
def yQ:ab:=nfO (P:=Tryz.prog) 117
theorem Kq:aJ Tryz.prog 117=some (29,[.tmp 6],yQ):=by kernel_rfl
def tJ:ab:=nfO (P:=Tryz.prog) 244
theorem FS:aJ Tryz.prog 244=some (49,[.tmp 4],tJ):=by kernel_rfl
def qr:ab:=nfO (P:=Tryz.prog) 409
theorem BP:aJ Tryz.prog 409=some (54,[.tmp 4],qr):=by kernel_rfl
def G7:ab:=nfO (P:=Tryz.prog) 411
theorem Ud:aJ Tryz.prog 411=some (15,[.tmp 4],G7):=by kernel_rfl
def uY:ab:=nfO (P:=Tryz.prog) 412
theorem HB:aJ Tryz.prog 412=some (34,[.cell 4 true 33],uY):=by kernel_rfl
def yW:ab:=nfO (P:=Tryz.prog) 78
theorem Kz:aJ Tryz.prog 78=some (26,[.cell 2 true 252,.tmp 3,.tmp 4],yW):=by kernel_rfl
def N1:ab:=nfO (P:=Tryz.prog) 23
theorem YN:aJ Tryz.prog 23=some (42,[.cell 4 true 252,.tmp 5,.tmp 6],N1):=by kernel_rfl
def kz:ab:=(sR [wZ 1 252 0,oo 2 (.new (aV rD)),oo 3 (.mv (.c (.sl 0 true [])))]
(sR [fA 5 0 1,lA 6 150 5,kA 7 210 6,oo 4 (.new (AZ fS)),sO 96 4 7]
(.seq (sR [fA 8 153 1,lF 9 1 8,om 10 9,wB 11 154 1 10,wF 12 96 11 10,wF 13 96 4 10,og 14 (.eqa [(96,1)] false (.t 12) (.t 13)) 10 true,wN 15 10 14]
(cN 15
(sR [lA 16 252 1,sO 252 2 16,oo 3 (.mv (.c (.sl 0 true [])))]
.ret)
.skip))
(.seq (.dreg [(lA 17 96 4,0),(fA 18 153 1,0),(on (.sto 1 (.t 18) (cb true)),2),(fA 19 154 1,7),(sO 96 19 17,15)])
(.seq (.dreg [(lA 20 252 1,0),(lA 21 96 4,0),(oo 22 (.bldS 96 1 (AZ fS) [(0,(.t 21))]),2),(sO 252 2 20,1),(om 3 22,15)])
.ret)))))
theorem OO:aJ Tryz.prog 84=some (23,[.cell 2 true 252,.tmp 3],kz):=by kernel_rfl
def Jn:ab:=nfO (P:=Tryz.prog) 83
theorem RQ:aJ Tryz.prog 83=some (87,[.cell 4 true 252,.tmp 5],Jn):=by kernel_rfl
def tM:ab:=nfO (P:=Tryz.prog) 210
theorem FW:aJ Tryz.prog 210=some (19,[.cell 2 true 96],tM):=by kernel_rfl
def QN:ab:=nfO (P:=Tryz.prog) 205
theorem aav:aJ Tryz.prog 205=some (52,[.cell 2 true 252],QN):=by kernel_rfl
def NK:ab:=nfO (P:=Tryz.prog) 206
theorem Yw:aJ Tryz.prog 206=some (14,[.cell 2 true 252],NK):=by kernel_rfl
def NT:ab:=nfO (P:=Tryz.prog) 208
theorem YL:aJ Tryz.prog 208=some (25,[.cell 4 true 252],NT):=by kernel_rfl
def Js:ab:=nfO (P:=Tryz.prog) 209
theorem RT:aJ Tryz.prog 209=some (95,[.cell 4 true 252,.tmp 5],Js):=by kernel_rfl
def AX:ab:=nfO (P:=Tryz.prog) 311
theorem OQ:aJ Tryz.prog 311=some (28,[.cell 2 true 32],AX):=by kernel_rfl
def oM:ab:=nfO (P:=Tryz.prog) 301
theorem xR:aJ Tryz.prog 301=some (24,[.tmp 4],oM):=by kernel_rfl
def Iy:ab:=nfO (P:=Tryz.prog) 302
theorem Oq:aJ Tryz.prog 302=some (26,[.cell 6 true 252],Iy):=by kernel_rfl
def MH:ab:=nfO (P:=Tryz.prog) 303
theorem Vm:aJ Tryz.prog 303=some (31,[.tmp 4],MH):=by kernel_rfl
def MA:ab:=nfO (P:=Tryz.prog) 307
theorem Vk:aJ Tryz.prog 307=some (48,[.cell 4 true 35,.cell 5 true 252,.tmp 6],MA):=by kernel_rfl
def dl:ab:=nfO (P:=Tryz.prog) 308
theorem H2:aJ Tryz.prog 308=some (117,[.cell 4 true 252],dl):=by kernel_rfl
def jM:ab:=nfO (P:=Tryz.prog) 368
theorem HF:aJ Tryz.prog 368=some (23,[.tmp 4],jM):=by kernel_rfl
def NA:ab:=nfO (P:=Tryz.prog) 15
theorem XX:aJ Tryz.prog 15=some (13,[.cell 2 true 252],NA):=by kernel_rfl
def Nz:ab:=nfO (P:=Tryz.prog) 54
theorem XW:aJ Tryz.prog 54=some (234,[.cell 6 true 238],Nz):=by kernel_rfl
def DS:ab:=nfO (P:=Tryz.prog) 45
theorem GG:aJ Tryz.prog 45=some (104,[.cell 4 true 67],DS):=by kernel_rfl
def NB:ab:=nfO (P:=Tryz.prog) 46
theorem X4:aJ Tryz.prog 46=some (73,[.cell 4 true 34],NB):=by kernel_rfl
def JU:ab:=nfO (P:=Tryz.prog) 85
theorem TJ:aJ Tryz.prog 85=some (106,[.cell 4 true 34],JU):=by kernel_rfl
def To:ab:=nfO (P:=Tryz.prog) 55
theorem aco:aJ Tryz.prog 55=some (59,[.cell 2 true 45,.tmp 3,.cell 4 true 252],To):=by kernel_rfl
def Wz:ab:=nfO (P:=Tryz.prog) 127
theorem afc:aJ Tryz.prog 127=some (32,[.cell 6 true 33],Wz):=by kernel_rfl
def QL:ab:=nfO (P:=Tryz.prog) 152
theorem aan:aJ Tryz.prog 152=some (38,[.cell 2 true 4],QL):=by kernel_rfl
def yG:ab:=nfO (P:=Tryz.prog) 79
theorem J4:aJ Tryz.prog 79=some (67,[.cell 2 true 45],yG):=by kernel_rfl
def Mj:ab:=nfO (P:=Tryz.prog) 153
theorem afa:aJ Tryz.prog 153=some (23,[.tmp 4],Mj):=by kernel_rfl
def V0:ab:=nfO (P:=Tryz.prog) 24
theorem afb:aJ Tryz.prog 24=some (59,[.cell 6 true 446],V0):=by kernel_rfl
end Go.Proofs.YtnjdpnfglgcjcaaGreat
