/- Joined. -/
import Derived.Test.YtmpddimhleianaaGreatW3v
import Derived.Test.YtmpddimhleianaaGreatChecked
import Derived.KernelRfl
set_option maxRecDepth 100000
set_option maxHeartbeats 200000
namespace Go.Proofs.YtmpddimhleianaaGreat
open Go Go.FH
def dq:am:=(sR [wZ 1 252 0,wR 2 0]
(.seq (sR [fA 9 0 1,lA 10 150 9,kA 11 81 10,om 3 11]
(sR [om 12 3,bC 13 .neq 12 (ci 0)]
(cN 13
(sR [om 14 3,om 2 14]
.ret)
.skip)))
(.seq (sR [fA 15 152 1,lF 16 1 15,bC 17 .lss 16 (cu 1),om 18 17,wA 19 151 1 18,wC 20 1 19 18,og 21 (.len false (.t 20)) 18 false,wA 22 0 1 18,wA 23 0 22 18,wA 24 0 23 18,wA 25 4 24 18,wC 26 1 25 18,wI 27 .gtr 21 26 18,wM 28 18 27,om 29 28,wA 30 153 1 29,wC 31 1 30 29,wP 32 31 29,wG 33 32 29,wB 34 154 1 33,wF 35 96 34 33,og 36 (.bld (bH jB) []) 33 true,og 37 (.eqa [(96,1)] true (.t 35) (.t 36)) 33 true,og 38 (.pick (.t 33) (.t 37) (cb false)) 29 false,wM 39 29 38]
(cN 39
(sR [wR 2 2]
.ret)
.skip))
(sR [oo 40 (.mop .mkm []),om 4 40]
(.seq (sR [fA 41 150 1,lF 42 1 41,lN 43 42,wR 44 0]
(.block 0 (.loop (sR [bI 45 .lss 44 43]
(.seq (cN 45
.skip
(.exit 0))
(.seq (.block 1 (sR [om 46 44,iX 47 35 42 44,lA 48 35 47,oo 6 (.new (ay gU)),om 5 46,sO 35 6 48]
(.seq (.dreg [(om 49 5,0),(bC 50 .gtr 49 (ci 0),1),(om 51 50,3),(wB 52 0 6 51,7),(wB 53 0 52 51,15),(wD 54 1 53 51,31),(wB 55 150 1 51,7),(wD 56 1 55 51,71),(wH 57 5 51,7),(wL 58 .sub 57 (ci 1) 51,263),(wU 59 35 56 58 51,967),(wB 60 0 59 51,1991),(wB 61 0 60 51,4039),(wD 62 1 61 51,8135),(wJ 63 .leq 54 62 51,16383),(wN 64 51 63,32767),(om 65 64,65535),(wA 66 34 6 65,131071),(wC 67 1 66 65,262143),(wK 68 .neq 67 (cu 0) 65,524287),(wM 69 65 68,1048575),(om 70 69,2097151),(wE 71 252 1 70,4194303),(wE 72 35 6 70,4194303),(wG 73 4 70,4194303),(og 74 (.call (cf 82) [(.t 71),(.t 72),(ci 0),(.t 73)]) 70 false,33554431),(wP 75 74 70,67108863),(wM 76 70 75,134217727)])
(cN 76
(sR [wR 2 2]
.ret)
.skip))))
(.reg [bC 77 .add 44 (ci 1),om 44 77])))))))
(.seq (sR [fA 78 151 1,lF 79 1 78,lN 80 79,wR 81 0]
(.block 2 (.loop (sR [bI 82 .lss 81 80]
(.seq (cN 82
.skip
(.exit 2))
(.seq (.block 3 (sR [om 83 81,iX 84 35 79 81,lA 85 35 84,oo 8 (.new (ay gU)),om 7 83,sO 35 8 85]
(.seq (.dreg [(om 86 7,0),(bC 87 .gtr 86 (ci 0),1),(om 88 87,3),(wB 89 151 1 88,7),(wD 90 1 89 88,15),(wH 91 7 88,7),(wL 92 .sub 91 (ci 1) 88,39),(wU 93 35 90 92 88,127),(wF 94 35 93 88,255),(wF 95 35 8 88,7),(wY 96 83 94 95 88,1023),(wL 97 .geq 96 (ci 0) 88,2047),(wN 98 88 97,4095),(om 99 98,8191),(wA 100 34 8 99,16383),(wC 101 1 100 99,32767),(wK 102 .lss 101 (cu 1) 99,65535),(wM 103 99 102,131071),(om 104 103,262143),(wE 105 252 1 104,524287),(wE 106 35 8 104,524287),(wG 107 4 104,524287),(og 108 (.call (cf 82) [(.t 105),(.t 106),(ci 1),(.t 107)]) 104 false,4194303),(wP 109 108 104,8388607),(wM 110 104 109,16777215)])
(cN 110
(sR [wR 2 2]
.ret)
.skip))))
(.reg [bC 111 .add 81 (ci 1),om 81 111])))))))
(sR [wR 2 0]
.ret)))))))
theorem vT:cE Tryz.prog 39=some (112,[.tmp 2],dq):=by kernel_rfl
def mS:am:=nfO (P:=Tryz.prog) 84
theorem tN:cE Tryz.prog 84=some (77,[.tmp 2],mS):=by kernel_rfl
def cA:am:=nfO (P:=Tryz.prog) 106
theorem Em:cE Tryz.prog 106=some (103,[.cell 4 true 150,.tmp 5,.tmp 6],cA):=by kernel_rfl
def mT:am:=(sR [wZ 1 150 0,wS 2 false]
(sR [wS 3 false]
(.seq (sR [fA 6 149 1,lF 7 1 6,lN 8 7,wR 9 0]
(.block 0 (.loop (sR [bI 10 .lss 9 8]
(.seq (cN 10
.skip
(.exit 0))
(.seq (.block 1 (sR [om 11 9,iX 12 34 7 9,lA 13 34 12,oo 5 (.new (bE ot)),om 4 11,sO 34 5 13]
(.seq (.seq (.dreg [(om 14 4,0),(bC 15 .gtr 14 (ci 0),1),(om 16 15,3),(wB 17 149 1 16,7),(wD 18 1 17 16,15),(wH 19 4 16,7),(wL 20 .sub 19 (ci 1) 16,39),(wU 21 34 18 20 16,127),(wF 22 34 21 16,255),(wF 23 34 5 16,7),(wY 24 187 22 23 16,1023),(wL 25 .geq 24 (ci 0) 16,2047),(wN 26 16 25,4095),(om 27 26,8191),(wE 28 34 5 27,16383),(wA 29 0 1 27,16383),(wA 30 44 29 27,49151),(wC 31 1 30 27,114687),(og 32 (.len false (.t 31)) 27 false,245759),(wX 33 147 28 32 27,524287),(wK 34 .neq 33 (ci 0) 27,1048575),(wM 35 27 34,2097151)])
(cN 35
(sR [wS 2 false]
.ret)
.skip))
(.reg [om 36 3,om 37 36,wA 38 0 5 37,wE 39 33 38 37,wA 40 47 1 37,wA 41 0 40 37,wE 42 33 41 37,og 43 (.eqa [(33,1)] false (.t 39) (.t 42)) 37 false,wM 44 37 43,om 3 44]))))
(.reg [bC 45 .add 9 (ci 1),om 9 45])))))))
(sR [om 46 3,om 2 46]
.ret))))
theorem tO:cE Tryz.prog 139=some (47,[.tmp 2],mT):=by kernel_rfl
def mj:am:=(sR [wZ 1 34 0,wS 2 false]
(sR [fA 3 0 1,lF 4 1 3,wO 5 4,om 6 5,wF 7 34 1 6,og 8 (.bld (bJ eY) []) 6 true,og 9 (.eqa [(1,0),(33,1)] true (.t 7) (.t 8)) 6 true,wN 10 6 9,om 2 10]
.ret))
theorem rY:cE Tryz.prog 233=some (11,[.tmp 2],mj):=by kernel_rfl
def cx:am:=(sR [wZ 1 252 0,wR 2 0]
(.seq (sR [fA 14 0 1,lA 15 150 14,kA 16 34 15,om 3 16]
(sR [om 17 3,bC 18 .neq 17 (ci 0)]
(cN 18
(sR [om 19 3,om 2 19]
.ret)
.skip)))
(.seq (sR [fA 20 152 1,lF 21 1 20,bC 22 .lss 21 (cu 1),om 23 22,wA 24 151 1 23,wC 25 1 24 23,og 26 (.len false (.t 25)) 23 false,wA 27 0 1 23,wA 28 0 27 23,wA 29 0 28 23,wA 30 4 29 23,wC 31 1 30 23,wI 32 .gtr 26 31 23,wM 33 23 32,om 34 33,wA 35 153 1 34,wC 36 1 35 34,wP 37 36 34,wG 38 37 34,wB 39 154 1 38,wF 40 96 39 38,og 41 (.bld (bH jB) []) 38 true,og 42 (.eqa [(96,1)] true (.t 40) (.t 41)) 38 true,og 43 (.pick (.t 38) (.t 42) (cb false)) 34 false,wM 44 34 43]
(cN 44
(sR [wR 2 2]
.ret)
.skip))
(.seq (.dreg [(fA 45 150 1,0),(lF 46 1 45,1),(oo 47 (.app 35 56 (.c (.sl 0 true [])) (.t 46)),3),(fA 48 151 1,0),(lF 49 1 48,8),(oo 50 (.app 35 56 (.t 47) (.t 49)),31),(om 4 50,63)])
(.seq (sR [wR 5 0]
(.block 0 (.loop (.seq (sR [om 51 5,om 52 4,lN 53 52,bI 54 .lss 51 53]
(cN 54
.skip
(.exit 0)))
(.seq (.block 1 (sR [om 57 4,om 58 5,iX 59 35 57 58,lA 60 35 59,oo 6 (.new (ay gU)),sO 35 6 60]
(.seq (.dreg [(om 61 5,0),(fA 62 150 1,0),(lF 63 1 62,2),(lN 64 63,6),(bI 65 .geq 61 64,15),(wR 7 0,0),(om 8 65,63)])
(.seq (sR [om 66 8]
(cN 66
(.reg [wR 7 1])
.skip))
(.seq (sR [fA 67 0 6,fA 68 0 67,lF 69 1 68,bC 70 .lss 69 (cu 1),om 71 70,wA 72 0 6 71,wA 73 0 72 71,wC 74 1 73 71,wA 75 152 1 71,wC 76 1 75 71,wI 77 .geq 74 76 71,wM 78 71 77,om 79 78,wA 80 33 6 79,wC 81 1 80 79,wG 82 7 79,wI 83 .lss 81 82 79,wM 84 79 83,om 85 84,wA 86 33 6 85,wC 87 1 86 85,wK 88 .gtr 87 (ci 1099511627776) 85,wM 89 85 88,om 90 89,wG 91 8 90,wA 92 34 6 90,wC 93 1 92 90,wK 94 .geq 93 (cu 1) 90,og 95 (.eqv 0 true (.t 91) (.t 94)) 90 false,wM 96 90 95,om 97 96,wA 98 0 1 97,wA 99 115 98 97,wE 100 1 99 97,wA 101 1 6 97,wE 102 32 101 97,wX 103 32 100 102 97,wK 104 .lss 103 (ci 0) 97,wM 105 97 104]
(cN 105
(sR [wR 2 2]
.ret)
.skip))
(sR [wR 9 0]
(.block 2 (.loop (.seq (sR [om 106 9,om 107 5,bI 108 .lss 106 107]
(cN 108
.skip
(.exit 2)))
(.seq (.block 3 (.seq (.dreg [(om 111 4,0),(om 112 9,0),(iX 113 35 111 112,3),(fA 114 0 113,7),(fA 115 0 114,15),(lF 116 1 115,31),(fA 117 0 6,0),(fA 118 0 117,64),(lF 119 1 118,192),(bI 120 .eql 116 119,511)])
(cN 120
(sR [wR 2 2]
.ret)
.skip)))
(.reg [om 109 9,bC 110 .add 109 (ci 1),om 9 110])))))))))))
(.reg [om 55 5,bC 56 .add 55 (ci 1),om 5 56]))))))
(.seq (sR [wR 10 1]
(.block 4 (.loop (.seq (sR [om 121 10,fA 122 150 1,lF 123 1 122,lN 124 123,bI 125 .lss 121 124]
(cN 125
.skip
(.exit 4)))
(.seq (.block 5 (.seq (.dreg [(fA 128 150 1,0),(lF 129 1 128,1),(om 130 10,0),(iX 131 35 129 130,7),(fA 132 0 131,15),(fA 133 0 132,31),(lF 134 1 133,63),(fA 135 150 1,0),(lF 136 1 135,128),(om 137 10,0),(bC 138 .sub 137 (ci 1),512),(iX 139 35 136 138,1920),(fA 140 0 139,3968),(fA 141 0 140,8064),(lF 142 1 141,16256),(bI 143 .leq 134 142,32767)])
(cN 143
(sR [wR 2 2]
.ret)
.skip)))
(.reg [om 126 10,bC 127 .add 126 (ci 1),om 10 127]))))))
(.seq (sR [wR 11 1]
(.block 6 (.loop (.seq (sR [om 144 11,fA 145 151 1,lF 146 1 145,lN 147 146,bI 148 .lss 144 147]
(cN 148
.skip
(.exit 6)))
(.seq (.block 7 (.seq (.dreg [(fA 151 151 1,0),(lF 152 1 151,1),(om 153 11,0),(bC 154 .sub 153 (ci 1),4),(iX 155 35 152 154,15),(lA 156 35 155,31),(fA 157 151 1,0),(lF 158 1 157,64),(om 159 11,0),(iX 160 35 158 159,448),(lA 161 35 160,960),(oo 12 (.new (ay gU)),0),(oo 13 (.new (ay gU)),0),(sO 35 12 156,6207),(sO 35 13 161,16383)])
(sR [fA 162 34 13,lF 163 1 162,fA 164 34 12,lF 165 1 164,bI 166 .lss 163 165,om 167 166,wA 168 34 13 167,wC 169 1 168 167,wA 170 34 12 167,wC 171 1 170 167,wI 172 .eql 169 171 167,wG 173 172 167,wB 174 0 13 173,wB 175 0 174 173,wD 176 1 175 173,wB 177 0 12 173,wB 178 0 177 173,wD 179 1 178 173,wJ 180 .leq 176 179 173,og 181 (.pick (.t 173) (.t 180) (cb false)) 167 false,wM 182 167 181]
(cN 182
(sR [wR 2 2]
.ret)
.skip))))
(.reg [om 149 11,bC 150 .add 149 (ci 1),om 11 150]))))))
(sR [wR 2 0]
.ret))))))))
theorem rV:cE Tryz.prog 40=some (183,[.tmp 2],cx):=by kernel_rfl
def oI:am:=(sR [wZ 2 2 0,wS 4 false]
(.seq (sR [fA 6 0 2,lF 7 1 6,lN 8 7,om 9 1,bI 10 .neq 8 9]
(cN 10
(sR [wS 4 false]
.ret)
.skip))
(.seq (sR [wR 5 0]
(.block 0 (.loop (.seq (sR [om 11 5,fA 12 0 2,lF 13 1 12,lN 14 13,bI 15 .lss 11 14]
(cN 15
.skip
(.exit 0)))
(.seq (.block 1 (sR [fA 18 0 2,lF 19 1 18,om 20 5,iX 21 34 19 20,fA 22 0 21,lF 23 1 22,wO 24 23,om 25 24,wB 26 0 2 25,wD 27 1 26 25,wH 28 5 25,wU 29 34 27 28 25,wF 30 34 29 25,og 31 (.bld (bJ eY) []) 25 true,og 32 (.eqa [(1,0),(33,1)] true (.t 30) (.t 31)) 25 true,wN 33 25 32]
(cN 33
(sR [wS 4 false]
.ret)
.skip)))
(.reg [om 16 5,bC 17 .add 16 (ci 1),om 5 17]))))))
(sR [fA 34 1 2,lF 35 1 34,lN 36 35,bC 37 .eql 36 (ci 0),om 38 37,wA 39 1 2 38,wC 40 1 39 38,wG 41 1 38,wX 42 132 40 41 38,wK 43 .eql 42 (ci 0) 38,wM 44 38 43,om 4 44]
.ret))))
theorem vW:cE Tryz.prog 70=some (45,[.tmp 4],oI):=by kernel_rfl
def bx:am:=nfO (P:=Tryz.prog) 11
theorem mg:cE Tryz.prog 11=some (167,[.tmp 6],bx):=by kernel_rfl
end Go.Proofs.YtmpddimhleianaaGreat
