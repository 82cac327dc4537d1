/- Joined. -/
import Derived.Test.YtmpddimhleianaaGreatW3
import Derived.Test.YtmpddimhleianaaGreatChecked
import Derived.KernelRfl
set_option maxRecDepth 100000
set_option maxHeartbeats 200000
namespace Go.Proofs.YtmpddimhleianaaGreat
open Go Go.FH
def nN:ab:=nfO (P:=Tryz.prog) 84
theorem yf:aJ Tryz.prog 84=some (77,[.tmp 2],nN):=by kernel_rfl
def bU:ab:=nfO (P:=Tryz.prog) 106
theorem x8:aJ Tryz.prog 106=some (103,[.cell 4 true 150,.tmp 5,.tmp 6],bU):=by kernel_rfl
def AR:ab:=(sR [wZ 2 150 0,wZ 3 150 1,wS 4 false]
(.seq (.dreg [(fA 9 0 2,0),(lA 10 45 9,1),(fA 11 0 3,0),(lA 12 45 11,4),(oo 5 (.new (bW ui)),0),(oo 6 (.new (bW ui)),0),(sO 45 5 10,51),(sO 45 6 12,127)])
(.seq (sR [fA 13 0 5,lA 14 6 13,fA 15 0 6,lA 16 6 15,oo 17 (.eqa [(6,1)] true (.t 14) (.t 16)),om 18 17,wA 19 6 5 18,wC 20 1 19 18,wA 21 6 6 18,wC 22 1 21 18,wI 23 .neq 20 22 18,wM 24 18 23,om 25 24,wA 26 7 5 25,wC 27 1 26 25,wA 28 7 6 25,wC 29 1 28 25,wI 30 .neq 27 29 25,wM 31 25 30,om 32 31,wA 33 8 5 32,wE 34 4 33 32,wA 35 8 6 32,wE 36 4 35 32,og 37 (.eqa [(4,1)] true (.t 34) (.t 36)) 32 false,wM 38 32 37,om 39 38,wA 40 12 5 39,wE 41 32 40 39,wA 42 12 6 39,wE 43 32 42 39,og 44 (.eqa [(32,1)] true (.t 41) (.t 43)) 39 false,wM 45 39 44,om 46 45,wA 47 44 5 46,wC 48 1 47 46,wA 49 44 6 46,wC 50 1 49 46,wX 51 91 48 50 46,wP 52 51 46,wM 53 46 52]
(cN 53
(sR [wS 4 false]
.ret)
.skip))
(.seq (sR [fA 54 45 2,fA 55 0 54,lF 56 1 55,fA 57 45 3,fA 58 0 57,lF 59 1 58,kB 60 92 56 59,wO 61 60,om 62 61,wA 63 45 2 62,wA 64 1 63 62,wC 65 1 64 62,wA 66 45 3 62,wA 67 1 66 62,wC 68 1 67 62,wX 69 93 65 68 62,wP 70 69 62,wM 71 62 70,om 72 71,wA 73 47 2 72,wE 74 66 73 72,wA 75 47 3 72,wE 76 66 75 72,og 77 (.eqa [(66,1)] true (.t 74) (.t 76)) 72 false,wM 78 72 77,om 79 78,wA 80 113 2 79,wA 81 0 80 79,wC 82 1 81 79,og 83 (.len false (.t 82)) 79 false,wA 84 113 3 79,wA 85 0 84 79,wC 86 1 85 79,og 87 (.len false (.t 86)) 79 false,wI 88 .neq 83 87 79,wM 89 79 88,om 90 89,wA 91 113 2 90,wA 92 1 91 90,wC 93 1 92 90,og 94 (.len false (.t 93)) 90 false,wA 95 113 3 90,wA 96 1 95 90,wC 97 1 96 90,og 98 (.len false (.t 97)) 90 false,wI 99 .neq 94 98 90,wM 100 90 99,om 101 100,wA 102 115 2 101,wE 103 1 102 101,wA 104 115 3 101,wE 105 1 104 101,wX 106 94 103 105 101,wP 107 106 101,wM 108 101 107,om 109 108,wA 110 116 2 109,wC 111 1 110 109,wA 112 116 3 109,wC 113 1 112 109,wI 114 .neq 111 113 109,wM 115 109 114,om 116 115,wA 117 117 2 116,wE 118 32 117 116,wA 119 117 3 116,wE 120 32 119 116,og 121 (.eqa [(32,1)] true (.t 118) (.t 120)) 116 false,wM 122 116 121,om 123 122,wA 124 149 2 123,wC 125 1 124 123,wA 126 149 3 123,wC 127 1 126 123,wX 128 95 125 127 123,wP 129 128 123,wM 130 123 129]
(cN 130
(sR [wS 4 false]
.ret)
.skip))
(.seq (sR [wR 7 0]
(.block 0 (.loop (.seq (sR [om 131 7,fA 132 113 2,fA 133 0 132,lF 134 1 133,lN 135 134,bI 136 .lss 131 135]
(cN 136
.skip
(.exit 0)))
(.seq (.block 1 (.seq (.dreg [(fA 139 113 2,0),(fA 140 0 139,1),(lF 141 1 140,3),(om 142 7,0),(iX 143 67 141 142,15),(lA 144 67 143,31),(fA 145 113 3,0),(fA 146 0 145,64),(lF 147 1 146,192),(om 148 7,0),(iX 149 67 147 148,960),(lA 150 67 149,1984),(kB 151 96 144 150,4095),(wO 152 151,8191)])
(cN 152
(sR [wS 4 false]
.ret)
.skip)))
(.reg [om 137 7,bC 138 .add 137 (ci 1),om 7 138]))))))
(.seq (sR [wR 8 0]
(.block 2 (.loop (.seq (sR [om 153 8,fA 154 113 2,fA 155 1 154,lF 156 1 155,lN 157 156,bI 158 .lss 153 157]
(cN 158
.skip
(.exit 2)))
(.seq (.block 3 (.seq (.dreg [(fA 161 113 2,0),(fA 162 1 161,1),(lF 163 1 162,3),(om 164 8,0),(iX 165 238 163 164,15),(lA 166 238 165,31),(fA 167 113 3,0),(fA 168 1 167,64),(lF 169 1 168,192),(om 170 8,0),(iX 171 238 169 170,960),(lA 172 238 171,1984),(oo 173 (.eqa [(237,1),(1,0)] true (.t 166) (.t 172)),4095)])
(cN 173
(sR [wS 4 false]
.ret)
.skip)))
(.reg [om 159 8,bC 160 .add 159 (ci 1),om 8 160]))))))
(sR [wS 4 true]
.ret)))))))
theorem OK:aJ Tryz.prog 46=some (174,[.tmp 4],AR):=by kernel_rfl
def rH:ab:=(sR [wS 4 false]
(.seq (sR [om 6 0,lN 7 6,om 8 1,lN 9 8,bI 10 .neq 7 9]
(cN 10
(sR [wS 4 false]
.ret)
.skip))
(.seq (sR [wR 5 0]
(.block 0 (.loop (.seq (sR [om 11 5,om 12 0,lN 13 12,bI 14 .lss 11 13]
(cN 14
.skip
(.exit 0)))
(.seq (.block 1 (.seq (.dreg [(om 17 0,0),(om 18 5,0),(iX 19 34 17 18,3),(lA 20 34 19,7),(om 21 1,0),(om 22 5,0),(iX 23 34 21 22,48),(lA 24 34 23,112),(oo 25 (.eqa [(1,0),(33,1)] true (.t 20) (.t 24)),255)])
(cN 25
(sR [wS 4 false]
.ret)
.skip)))
(.reg [om 15 5,bC 16 .add 15 (ci 1),om 5 16]))))))
(sR [wS 4 true]
.ret))))
theorem DN:aJ Tryz.prog 92=some (26,[.tmp 4],rH):=by kernel_rfl
def AN:ab:=(sR [wZ 2 1 0,wZ 3 1 1,wS 4 false]
(.seq (sR [fA 6 0 2,lF 7 1 6,lN 8 7,fA 9 0 3,lF 10 1 9,lN 11 10,bI 12 .neq 8 11]
(cN 12
(sR [wS 4 false]
.ret)
.skip))
(.seq (sR [wR 5 0]
(.block 0 (.loop (.seq (sR [om 13 5,fA 14 0 2,lF 15 1 14,lN 16 15,bI 17 .lss 13 16]
(cN 17
.skip
(.exit 0)))
(.seq (.block 1 (.seq (.dreg [(fA 20 0 2,0),(lF 21 1 20,1),(om 22 5,0),(iX 23 240 21 22,7),(lA 24 240 23,15),(fA 25 0 3,0),(lF 26 1 25,32),(om 27 5,0),(iX 28 240 26 27,224),(lA 29 240 28,480),(oo 30 (.eqa [(237,1),(1,0),(2,1)] true (.t 24) (.t 29)),1023)])
(cN 30
(sR [wS 4 false]
.ret)
.skip)))
(.reg [om 18 5,bC 19 .add 18 (ci 1),om 5 19]))))))
(sR [wS 4 true]
.ret))))
theorem OG:aJ Tryz.prog 94=some (31,[.tmp 4],AN):=by kernel_rfl
def AY:ab:=(sR [wZ 2 252 0,wZ 3 252 1,wS 4 false]
(sR [fA 5 0 2,lA 6 150 5,fA 7 0 3,lA 8 150 7,kB 9 46 6 8,om 10 9,wB 11 150 2 10,wD 12 1 11 10,wB 13 150 3 10,wD 14 1 13 10,wY 15 47 12 14 10,wN 16 10 15,om 17 16,wB 18 151 2 17,wD 19 1 18 17,wB 20 151 3 17,wD 21 1 20 17,wY 22 47 19 21 17,wN 23 17 22,om 24 23,wB 25 152 2 24,wD 26 1 25 24,wB 27 152 3 24,wD 28 1 27 24,wJ 29 .eql 26 28 24,wN 30 24 29,om 31 30,wB 32 153 2 31,wD 33 1 32 31,wB 34 153 3 31,wD 35 1 34 31,og 36 (.eqv 0 false (.t 33) (.t 35)) 31 true,wN 37 31 36,om 38 37,wB 39 154 2 38,wF 40 96 39 38,wB 41 154 3 38,wF 42 96 41 38,og 43 (.eqa [(96,1)] false (.t 40) (.t 42)) 38 true,wN 44 38 43,om 45 44,wB 46 250 2 45,wD 47 1 46 45,wB 48 250 3 45,wD 49 1 48 45,og 50 (.eqv 0 false (.t 47) (.t 49)) 45 true,wN 51 45 50,om 52 51,wB 53 251 2 52,wD 54 1 53 52,wB 55 251 3 52,wD 56 1 55 52,og 57 (.eqv 0 false (.t 54) (.t 56)) 52 true,wN 58 52 57,om 4 58]
.ret))
theorem OR:aJ Tryz.prog 15=some (59,[.tmp 4],AY):=by kernel_rfl
def mG:ab:=(sR [wS 4 false]
(.seq (sR [om 6 0,lN 7 6,om 8 1,lN 9 8,bI 10 .neq 7 9]
(cN 10
(sR [wS 4 false]
.ret)
.skip))
(.seq (sR [wR 5 0]
(.block 0 (.loop (.seq (sR [om 11 5,om 12 0,lN 13 12,bI 14 .lss 11 13]
(cN 14
.skip
(.exit 0)))
(.seq (.block 1 (.seq (.dreg [(om 17 0,0),(om 18 5,0),(iX 19 35 17 18,3),(lA 20 35 19,7),(om 21 1,0),(om 22 5,0),(iX 23 35 21 22,48),(lA 24 35 23,112),(oo 25 (.eqa [(35,1)] true (.t 20) (.t 24)),255)])
(cN 25
(sR [wS 4 false]
.ret)
.skip)))
(.reg [om 15 5,bC 16 .add 15 (ci 1),om 5 16]))))))
(sR [wS 4 true]
.ret))))
theorem vR:aJ Tryz.prog 47=some (26,[.tmp 4],mG):=by kernel_rfl
def eY:ab:=(sR [wS 4 false]
(.seq (sR [om 6 0,lN 7 6,om 8 1,lN 9 8,bI 10 .neq 7 9]
(cN 10
(sR [wS 4 false]
.ret)
.skip))
(.seq (sR [wR 5 0]
(.block 0 (.loop (.seq (sR [om 11 5,om 12 0,lN 13 12,bI 14 .lss 11 13]
(cN 14
.skip
(.exit 0)))
(.seq (.block 1 (.seq (.dreg [(om 17 0,0),(om 18 5,0),(iX 19 96 17 18,3),(lA 20 96 19,7),(om 21 1,0),(om 22 5,0),(iX 23 96 21 22,48),(lA 24 96 23,112),(oo 25 (.eqa [(96,1)] true (.t 20) (.t 24)),255)])
(cN 25
(sR [wS 4 false]
.ret)
.skip)))
(.reg [om 15 5,bC 16 .add 15 (ci 1),om 5 16]))))))
(sR [wS 4 true]
.ret))))
theorem lq:aJ Tryz.prog 16=some (26,[.tmp 4],eY):=by kernel_rfl
end Go.Proofs.YtmpddimhleianaaGreat
