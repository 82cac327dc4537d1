/-
 My texts Kx, Kw, Kr, Kt, Ku, Ky, joined.
-/
import Derived.Test.YtnjdpnfglgcjcaaGreatW3
import Derived.Test.YtnjdpnfglgcjcaaGreatChecked
import Derived.KernelRfl
set_option maxRecDepth 100000
set_option maxHeartbeats 200000
namespace Go.Proofs.YtnjdpnfglgcjcaaGreat
open Go Go.FH
def jJ:ab:=nfO (P:=Tryz.prog) 105
theorem qf:aJ Tryz.prog 105=some (95,[.tmp 6],jJ):=by kernel_rfl
def fp:ab:=nfO (P:=Tryz.prog) 142
theorem jh:aJ Tryz.prog 142=some (95,[.tmp 6],fp):=by kernel_rfl
def gl:ab:=nfO (P:=Tryz.prog) 104
theorem lS:aJ Tryz.prog 104=some (54,[.tmp 4,.tmp 5],gl):=by kernel_rfl
def dj:ab:=nfO (P:=Tryz.prog) 140
theorem eT:aJ Tryz.prog 140=some (49,[.tmp 6,.tmp 7],dj):=by kernel_rfl
def se:ab:=nfO (P:=Tryz.prog) 224
theorem Eo:aJ Tryz.prog 224=some (17,[.tmp 4],se):=by kernel_rfl
def rb:ab:=nfO (P:=Tryz.prog) 320
theorem Cu:aJ Tryz.prog 320=some (6,[.tmp 2],rb):=by kernel_rfl
def nI:ab:=nfO (P:=Tryz.prog) 225
theorem xn:aJ Tryz.prog 225=some (6,[.tmp 2],nI):=by kernel_rfl
def vM:ab:=nfO (P:=Tryz.prog) 36
theorem HD:aJ Tryz.prog 36=some (62,[.cell 4 true 150,.tmp 5],vM):=by kernel_rfl
def pV:ab:=nfO (P:=Tryz.prog) 51
theorem Af:aJ Tryz.prog 51=some (58,[.cell 4 true 150,.tmp 5],pV):=by kernel_rfl
def pL:ab:=nfO (P:=Tryz.prog) 239
theorem zT:aJ Tryz.prog 239=some (97,[.tmp 2],pL):=by kernel_rfl
def sp:ab:=nfO (P:=Tryz.prog) 109
theorem Ez:aJ Tryz.prog 109=some (50,[.tmp 2],sp):=by kernel_rfl
def oK:ab:=(sR [wZ 2 2 0,wS 4 false]
(.seq (sR [fA 6 0 2,lF 7 1 6,lN 8 7,om 9 1,bI 10 .neq 8 9]
(cN 10
(sR [wS 4 false]
.ret)
.skip))
(.seq (sR [wR 5 0]
(.block 0 (.loop (.seq (sR [om 11 5,fA 12 0 2,lF 13 1 12,lN 14 13,bI 15 .lss 11 14]
(cN 15
.skip
(.exit 0)))
(.seq (.block 1 (sR [fA 18 0 2,lF 19 1 18,om 20 5,iX 21 34 19 20,fA 22 0 21,lF 23 1 22,wO 24 23,om 25 24,wB 26 0 2 25,wD 27 1 26 25,wH 28 5 25,wU 29 34 27 28 25,wF 30 34 29 25,og 31 (.bld (bM fg) []) 25 true,og 32 (.eqa [(1,0),(33,1)] true (.t 30) (.t 31)) 25 true,wN 33 25 32]
(cN 33
(sR [wS 4 false]
.ret)
.skip)))
(.reg [om 16 5,bC 17 .add 16 (ci 1),om 5 17]))))))
(sR [fA 34 1 2,lF 35 1 34,lN 36 35,bC 37 .eql 36 (ci 0),om 38 37,wA 39 1 2 38,wC 40 1 39 38,wG 41 1 38,wX 42 242 40 41 38,wK 43 .eql 42 (ci 0) 38,wM 44 38 43,om 4 44]
.ret))))
theorem yN:aJ Tryz.prog 115=some (45,[.tmp 4],oK):=by kernel_rfl
def vA:ab:=nfO (P:=Tryz.prog) 118
theorem Hp:aJ Tryz.prog 118=some (35,[.tmp 2],vA):=by kernel_rfl
def vC:ab:=nfO (P:=Tryz.prog) 119
theorem Hr:aJ Tryz.prog 119=some (103,[.tmp 2],vC):=by kernel_rfl
def sJ:ab:=nfO (P:=Tryz.prog) 322
theorem EO:aJ Tryz.prog 322=some (15,[.tmp 6],sJ):=by kernel_rfl
def mA:ab:=nfO (P:=Tryz.prog) 228
theorem uK:aJ Tryz.prog 228=some (77,[.tmp 2],mA):=by kernel_rfl
def BG:ab:=nfO (P:=Tryz.prog) 106
theorem N3:aJ Tryz.prog 106=some (44,[.cell 2 true 150,.tmp 3],BG):=by kernel_rfl
def yw:ab:=nfO (P:=Tryz.prog) 44
theorem LR:aJ Tryz.prog 44=some (74,[.cell 2 true 150,.tmp 3],yw):=by kernel_rfl
def nJ:ab:=nfO (P:=Tryz.prog) 147
theorem s8:aJ Tryz.prog 147=some (55,[.cell 4 true 150],nJ):=by kernel_rfl
def ce:ab:=nfO (P:=Tryz.prog) 53
theorem HC:aJ Tryz.prog 53=some (103,[.cell 4 true 150,.tmp 5,.tmp 6],ce):=by kernel_rfl
def ry:ab:=nfO (P:=Tryz.prog) 149
theorem CP:aJ Tryz.prog 149=some (10,[.tmp 3],ry):=by kernel_rfl
def sI:ab:=nfO (P:=Tryz.prog) 47
theorem EM:aJ Tryz.prog 47=some (46,[.cell 4 true 150,.tmp 5],sI):=by kernel_rfl
def fo:ab:=nfO (P:=Tryz.prog) 151
theorem jg:aJ Tryz.prog 151=some (33,[.tmp 6],fo):=by kernel_rfl
def lB:ab:=nfO (P:=Tryz.prog) 323
theorem sT:aJ Tryz.prog 323=some (89,[.tmp 2],lB):=by kernel_rfl
def oL:ab:=nfO (P:=Tryz.prog) 230
theorem yO:aJ Tryz.prog 230=some (44,[.tmp 2],oL):=by kernel_rfl
def vN:ab:=nfO (P:=Tryz.prog) 324
theorem HE:aJ Tryz.prog 324=some (16,[.tmp 4],vN):=by kernel_rfl
def kN:ab:=nfO (P:=Tryz.prog) 231
theorem rO:aJ Tryz.prog 231=some (102,[.tmp 2],kN):=by kernel_rfl
def mC:ab:=(sR [wZ 1 150 0,wS 2 false]
(sR [wS 3 false]
(.seq (sR [fA 6 149 1,lF 7 1 6,lN 8 7,wR 9 0]
(.block 0 (.loop (sR [bI 10 .lss 9 8]
(.seq (cN 10
.skip
(.exit 0))
(.seq (.block 1 (sR [om 11 9,iX 12 34 7 9,lA 13 34 12,oo 5 (.new (bE zw)),om 4 11,sO 34 5 13]
(.seq (.seq (.dreg [(om 14 4,0),(bC 15 .gtr 14 (ci 0),1),(om 16 15,3),(wB 17 149 1 16,7),(wD 18 1 17 16,15),(wH 19 4 16,7),(wL 20 .sub 19 (ci 1) 16,39),(wU 21 34 18 20 16,127),(wF 22 34 21 16,255),(wF 23 34 5 16,7),(wY 24 141 22 23 16,1023),(wL 25 .geq 24 (ci 0) 16,2047),(wN 26 16 25,4095),(om 27 26,8191),(wE 28 34 5 27,16383),(wA 29 0 1 27,16383),(wA 30 44 29 27,49151),(wC 31 1 30 27,114687),(og 32 (.len false (.t 31)) 27 false,245759),(wX 33 139 28 32 27,524287),(wK 34 .neq 33 (ci 0) 27,1048575),(wM 35 27 34,2097151)])
(cN 35
(sR [wS 2 false]
.ret)
.skip))
(.reg [om 36 3,om 37 36,wA 38 0 5 37,wE 39 33 38 37,wA 40 47 1 37,wA 41 0 40 37,wE 42 33 41 37,og 43 (.eqa [(33,1)] false (.t 39) (.t 42)) 37 false,wM 44 37 43,om 3 44]))))
(.reg [bC 45 .add 9 (ci 1),om 9 45])))))))
(sR [om 46 3,om 2 46]
.ret))))
theorem uM:aJ Tryz.prog 232=some (47,[.tmp 2],mC):=by kernel_rfl
def nL:ab:=nfO (P:=Tryz.prog) 233
theorem xp:aJ Tryz.prog 233=some (33,[.tmp 2],nL):=by kernel_rfl
def lO:ab:=(sR [wZ 1 34 0,wS 2 false]
(sR [fA 3 0 1,lF 4 1 3,wO 5 4,om 6 5,wF 7 34 1 6,og 8 (.bld (bM fg) []) 6 true,og 9 (.eqa [(1,0),(33,1)] true (.t 7) (.t 8)) 6 true,wN 10 6 9,om 2 10]
.ret))
theorem ta:aJ Tryz.prog 326=some (11,[.tmp 2],lO):=by kernel_rfl
def nK:ab:=nfO (P:=Tryz.prog) 234
theorem xo:aJ Tryz.prog 234=some (9,[.tmp 2],nK):=by kernel_rfl
def lM:ab:=nfO (P:=Tryz.prog) 328
theorem s9:aJ Tryz.prog 328=some (72,[.tmp 3],lM):=by kernel_rfl
def mB:ab:=nfO (P:=Tryz.prog) 235
theorem uL:aJ Tryz.prog 235=some (106,[.tmp 2],mB):=by kernel_rfl
def pW:ab:=nfO (P:=Tryz.prog) 107
theorem Ag:aJ Tryz.prog 107=some (81,[.tmp 2],pW):=by kernel_rfl
def vn:ab:=nfO (P:=Tryz.prog) 37
theorem He:aJ Tryz.prog 37=some (47,[.tmp 0],vn):=by kernel_rfl
def yk:ab:=(sR [wZ 2 150 0,wZ 3 150 1,wS 4 false]
(.seq (.dreg [(fA 9 0 2,0),(lA 10 45 9,1),(fA 11 0 3,0),(lA 12 45 11,4),(oo 5 (.new (cD qD)),0),(oo 6 (.new (cD qD)),0),(sO 45 5 10,51),(sO 45 6 12,127)])
(.seq (sR [fA 13 0 5,lA 14 6 13,fA 15 0 6,lA 16 6 15,oo 17 (.eqa [(6,1)] true (.t 14) (.t 16)),om 18 17,wA 19 6 5 18,wC 20 1 19 18,wA 21 6 6 18,wC 22 1 21 18,wI 23 .neq 20 22 18,wM 24 18 23,om 25 24,wA 26 7 5 25,wC 27 1 26 25,wA 28 7 6 25,wC 29 1 28 25,wI 30 .neq 27 29 25,wM 31 25 30,om 32 31,wA 33 8 5 32,wE 34 4 33 32,wA 35 8 6 32,wE 36 4 35 32,og 37 (.eqa [(4,1)] true (.t 34) (.t 36)) 32 false,wM 38 32 37,om 39 38,wA 40 12 5 39,wE 41 32 40 39,wA 42 12 6 39,wE 43 32 42 39,og 44 (.eqa [(32,1)] true (.t 41) (.t 43)) 39 false,wM 45 39 44,om 46 45,wA 47 44 5 46,wC 48 1 47 46,wA 49 44 6 46,wC 50 1 49 46,wX 51 131 48 50 46,wP 52 51 46,wM 53 46 52]
(cN 53
(sR [wS 4 false]
.ret)
.skip))
(.seq (sR [fA 54 45 2,fA 55 0 54,lF 56 1 55,fA 57 45 3,fA 58 0 57,lF 59 1 58,kB 60 132 56 59,wO 61 60,om 62 61,wA 63 45 2 62,wA 64 1 63 62,wC 65 1 64 62,wA 66 45 3 62,wA 67 1 66 62,wC 68 1 67 62,wX 69 133 65 68 62,wP 70 69 62,wM 71 62 70,om 72 71,wA 73 47 2 72,wE 74 66 73 72,wA 75 47 3 72,wE 76 66 75 72,og 77 (.eqa [(66,1)] true (.t 74) (.t 76)) 72 false,wM 78 72 77,om 79 78,wA 80 113 2 79,wA 81 0 80 79,wC 82 1 81 79,og 83 (.len false (.t 82)) 79 false,wA 84 113 3 79,wA 85 0 84 79,wC 86 1 85 79,og 87 (.len false (.t 86)) 79 false,wI 88 .neq 83 87 79,wM 89 79 88,om 90 89,wA 91 113 2 90,wA 92 1 91 90,wC 93 1 92 90,og 94 (.len false (.t 93)) 90 false,wA 95 113 3 90,wA 96 1 95 90,wC 97 1 96 90,og 98 (.len false (.t 97)) 90 false,wI 99 .neq 94 98 90,wM 100 90 99,om 101 100,wA 102 115 2 101,wE 103 1 102 101,wA 104 115 3 101,wE 105 1 104 101,wX 106 134 103 105 101,wP 107 106 101,wM 108 101 107,om 109 108,wA 110 116 2 109,wC 111 1 110 109,wA 112 116 3 109,wC 113 1 112 109,wI 114 .neq 111 113 109,wM 115 109 114,om 116 115,wA 117 117 2 116,wE 118 32 117 116,wA 119 117 3 116,wE 120 32 119 116,og 121 (.eqa [(32,1)] true (.t 118) (.t 120)) 116 false,wM 122 116 121,om 123 122,wA 124 149 2 123,wC 125 1 124 123,wA 126 149 3 123,wC 127 1 126 123,wX 128 135 125 127 123,wP 129 128 123,wM 130 123 129]
(cN 130
(sR [wS 4 false]
.ret)
.skip))
(.seq (sR [wR 7 0]
(.block 0 (.loop (.seq (sR [om 131 7,fA 132 113 2,fA 133 0 132,lF 134 1 133,lN 135 134,bI 136 .lss 131 135]
(cN 136
.skip
(.exit 0)))
(.seq (.block 1 (.seq (.dreg [(fA 139 113 2,0),(fA 140 0 139,1),(lF 141 1 140,3),(om 142 7,0),(iX 143 67 141 142,15),(lA 144 67 143,31),(fA 145 113 3,0),(fA 146 0 145,64),(lF 147 1 146,192),(om 148 7,0),(iX 149 67 147 148,960),(lA 150 67 149,1984),(kB 151 136 144 150,4095),(wO 152 151,8191)])
(cN 152
(sR [wS 4 false]
.ret)
.skip)))
(.reg [om 137 7,bC 138 .add 137 (ci 1),om 7 138]))))))
(.seq (sR [wR 8 0]
(.block 2 (.loop (.seq (sR [om 153 8,fA 154 113 2,fA 155 1 154,lF 156 1 155,lN 157 156,bI 158 .lss 153 157]
(cN 158
.skip
(.exit 2)))
(.seq (.block 3 (.seq (.dreg [(fA 161 113 2,0),(fA 162 1 161,1),(lF 163 1 162,3),(om 164 8,0),(iX 165 238 163 164,15),(lA 166 238 165,31),(fA 167 113 3,0),(fA 168 1 167,64),(lF 169 1 168,192),(om 170 8,0),(iX 171 238 169 170,960),(lA 172 238 171,1984),(oo 173 (.eqa [(237,1),(1,0)] true (.t 166) (.t 172)),4095)])
(cN 173
(sR [wS 4 false]
.ret)
.skip)))
(.reg [om 159 8,bC 160 .add 159 (ci 1),om 8 160]))))))
(sR [wS 4 true]
.ret)))))))
theorem LH:aJ Tryz.prog 49=some (174,[.tmp 4],yk):=by kernel_rfl
def pU:ab:=(sR [wS 4 false]
(.seq (sR [om 6 0,lN 7 6,om 8 1,lN 9 8,bI 10 .neq 7 9]
(cN 10
(sR [wS 4 false]
.ret)
.skip))
(.seq (sR [wR 5 0]
(.block 0 (.loop (.seq (sR [om 11 5,om 12 0,lN 13 12,bI 14 .lss 11 13]
(cN 14
.skip
(.exit 0)))
(.seq (.block 1 (.seq (.dreg [(om 17 0,0),(om 18 5,0),(iX 19 34 17 18,3),(lA 20 34 19,7),(om 21 1,0),(om 22 5,0),(iX 23 34 21 22,48),(lA 24 34 23,112),(oo 25 (.eqa [(1,0),(33,1)] true (.t 20) (.t 24)),255)])
(cN 25
(sR [wS 4 false]
.ret)
.skip)))
(.reg [om 15 5,bC 16 .add 15 (ci 1),om 5 16]))))))
(sR [wS 4 true]
.ret))))
theorem Ac:aJ Tryz.prog 132=some (26,[.tmp 4],pU):=by kernel_rfl
def oJ:ab:=nfO (P:=Tryz.prog) 135
theorem yM:aJ Tryz.prog 135=some (27,[.tmp 4],oJ):=by kernel_rfl
def yg:ab:=(sR [wZ 2 1 0,wZ 3 1 1,wS 4 false]
(.seq (sR [fA 6 0 2,lF 7 1 6,lN 8 7,fA 9 0 3,lF 10 1 9,lN 11 10,bI 12 .neq 8 11]
(cN 12
(sR [wS 4 false]
.ret)
.skip))
(.seq (sR [wR 5 0]
(.block 0 (.loop (.seq (sR [om 13 5,fA 14 0 2,lF 15 1 14,lN 16 15,bI 17 .lss 13 16]
(cN 17
.skip
(.exit 0)))
(.seq (.block 1 (.seq (.dreg [(fA 20 0 2,0),(lF 21 1 20,1),(om 22 5,0),(iX 23 240 21 22,7),(lA 24 240 23,15),(fA 25 0 3,0),(lF 26 1 25,32),(om 27 5,0),(iX 28 240 26 27,224),(lA 29 240 28,480),(oo 30 (.eqa [(237,1),(1,0),(2,1)] true (.t 24) (.t 29)),1023)])
(cN 30
(sR [wS 4 false]
.ret)
.skip)))
(.reg [om 18 5,bC 19 .add 18 (ci 1),om 5 19]))))))
(sR [wS 4 true]
.ret))))
theorem LC:aJ Tryz.prog 134=some (31,[.tmp 4],yg):=by kernel_rfl
def pP:ab:=nfO (P:=Tryz.prog) 38
theorem zX:aJ Tryz.prog 38=some (207,[.tmp 2],pP):=by kernel_rfl
def nz:ab:=nfO (P:=Tryz.prog) 13
theorem xf:aJ Tryz.prog 13=some (100,[.tmp 8],nz):=by kernel_rfl
def bK:ab:=nfO (P:=Tryz.prog) 14
theorem xd:aJ Tryz.prog 14=some (109,[.tmp 6],bK):=by kernel_rfl
def lG:ab:=nfO (P:=Tryz.prog) 12
theorem sX:aJ Tryz.prog 12=some (120,[.tmp 6],lG):=by kernel_rfl
def vv:ab:=nfO (P:=Tryz.prog) 43
theorem Hj:aJ Tryz.prog 43=some (25,[.tmp 4],vv):=by kernel_rfl
end Go.Proofs.YtnjdpnfglgcjcaaGreat
