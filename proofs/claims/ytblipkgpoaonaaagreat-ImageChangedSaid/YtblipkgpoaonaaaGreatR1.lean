/- Joined. -/
import Derived.Test.YtblipkgpoaonaaaGreatW3
import Derived.Test.YtblipkgpoaonaaaGreatChecked
import Derived.KernelRfl
set_option maxRecDepth 100000
set_option maxHeartbeats 200000
namespace Go.Proofs.YtblipkgpoaonaaaGreat
open Go Go.FH
def AY:ab:=(sR [wZ 2 252 0,wZ 3 252 1,wS 4 false]
(sR [fA 5 0 2,lA 6 150 5,fA 7 0 3,lA 8 150 7,kB 9 47 6 8,om 10 9,wB 11 150 2 10,wD 12 1 11 10,wB 13 150 3 10,wD 14 1 13 10,wY 15 48 12 14 10,wN 16 10 15,om 17 16,wB 18 151 2 17,wD 19 1 18 17,wB 20 151 3 17,wD 21 1 20 17,wY 22 48 19 21 17,wN 23 17 22,om 24 23,wB 25 152 2 24,wD 26 1 25 24,wB 27 152 3 24,wD 28 1 27 24,wJ 29 .eql 26 28 24,wN 30 24 29,om 31 30,wB 32 153 2 31,wD 33 1 32 31,wB 34 153 3 31,wD 35 1 34 31,og 36 (.eqv 0 false (.t 33) (.t 35)) 31 true,wN 37 31 36,om 38 37,wB 39 154 2 38,wF 40 96 39 38,wB 41 154 3 38,wF 42 96 41 38,og 43 (.eqa [(96,1)] false (.t 40) (.t 42)) 38 true,wN 44 38 43,om 45 44,wB 46 250 2 45,wD 47 1 46 45,wB 48 250 3 45,wD 49 1 48 45,og 50 (.eqv 0 false (.t 47) (.t 49)) 45 true,wN 51 45 50,om 52 51,wB 53 251 2 52,wD 54 1 53 52,wB 55 251 3 52,wD 56 1 55 52,og 57 (.eqv 0 false (.t 54) (.t 56)) 52 true,wN 58 52 57,om 4 58]
.ret))
theorem OR:aJ Tryz.prog 12=some (59,[.tmp 4],AY):=by kernel_rfl
def mG:ab:=(sR [wS 4 false]
(.seq (sR [om 6 0,lN 7 6,om 8 1,lN 9 8,bI 10 .neq 7 9]
(cN 10
(sR [wS 4 false]
.ret)
.skip))
(.seq (sR [wR 5 0]
(.block 0 (.loop (.seq (sR [om 11 5,om 12 0,lN 13 12,bI 14 .lss 11 13]
(cN 14
.skip
(.exit 0)))
(.seq (.block 1 (.seq (.dreg [(om 17 0,0),(om 18 5,0),(iX 19 35 17 18,3),(lA 20 35 19,7),(om 21 1,0),(om 22 5,0),(iX 23 35 21 22,48),(lA 24 35 23,112),(oo 25 (.eqa [(35,1)] true (.t 20) (.t 24)),255)])
(cN 25
(sR [wS 4 false]
.ret)
.skip)))
(.reg [om 15 5,bC 16 .add 15 (ci 1),om 5 16]))))))
(sR [wS 4 true]
.ret))))
theorem vR:aJ Tryz.prog 48=some (26,[.tmp 4],mG):=by kernel_rfl
def dm:ab:=(sR [wZ 1 252 0,wR 2 0]
(.seq (sR [fA 14 0 1,lA 15 150 14,kA 16 75 15,om 3 16]
(sR [om 17 3,bC 18 .neq 17 (ci 0)]
(cN 18
(sR [om 19 3,om 2 19]
.ret)
.skip)))
(.seq (sR [fA 20 152 1,lF 21 1 20,bC 22 .lss 21 (cu 1),om 23 22,wA 24 151 1 23,wC 25 1 24 23,og 26 (.len false (.t 25)) 23 false,wA 27 0 1 23,wA 28 0 27 23,wA 29 0 28 23,wA 30 4 29 23,wC 31 1 30 23,wI 32 .gtr 26 31 23,wM 33 23 32,om 34 33,wA 35 153 1 34,wC 36 1 35 34,wP 37 36 34,wG 38 37 34,wB 39 154 1 38,wF 40 96 39 38,og 41 (.bld (AZ fS) []) 38 true,og 42 (.eqa [(96,1)] true (.t 40) (.t 41)) 38 true,og 43 (.pick (.t 38) (.t 42) (cb false)) 34 false,wM 44 34 43]
(cN 44
(sR [wR 2 2]
.ret)
.skip))
(.seq (.dreg [(fA 45 150 1,0),(lF 46 1 45,1),(oo 47 (.app 35 56 (.c (.sl 0 true [])) (.t 46)),3),(fA 48 151 1,0),(lF 49 1 48,8),(oo 50 (.app 35 56 (.t 47) (.t 49)),31),(om 4 50,63)])
(.seq (sR [wR 5 0]
(.block 0 (.loop (.seq (sR [om 51 5,om 52 4,lN 53 52,bI 54 .lss 51 53]
(cN 54
.skip
(.exit 0)))
(.seq (.block 1 (sR [om 57 4,om 58 5,iX 59 35 57 58,lA 60 35 59,oo 6 (.new (aP gT)),sO 35 6 60]
(.seq (.dreg [(om 61 5,0),(fA 62 150 1,0),(lF 63 1 62,2),(lN 64 63,6),(bI 65 .geq 61 64,15),(wR 7 0,0),(om 8 65,63)])
(.seq (sR [om 66 8]
(cN 66
(.reg [wR 7 1])
.skip))
(.seq (sR [fA 67 0 6,fA 68 0 67,lF 69 1 68,bC 70 .lss 69 (cu 1),om 71 70,wA 72 0 6 71,wA 73 0 72 71,wC 74 1 73 71,wA 75 152 1 71,wC 76 1 75 71,wI 77 .geq 74 76 71,wM 78 71 77,om 79 78,wA 80 33 6 79,wC 81 1 80 79,wG 82 7 79,wI 83 .lss 81 82 79,wM 84 79 83,om 85 84,wA 86 33 6 85,wC 87 1 86 85,wK 88 .gtr 87 (ci 1099511627776) 85,wM 89 85 88,om 90 89,wG 91 8 90,wA 92 34 6 90,wC 93 1 92 90,wK 94 .geq 93 (cu 1) 90,og 95 (.eqv 0 true (.t 91) (.t 94)) 90 false,wM 96 90 95,om 97 96,wA 98 0 1 97,wA 99 115 98 97,wE 100 1 99 97,wA 101 1 6 97,wE 102 32 101 97,wX 103 76 100 102 97,wK 104 .lss 103 (ci 0) 97,wM 105 97 104]
(cN 105
(sR [wR 2 2]
.ret)
.skip))
(sR [wR 9 0]
(.block 2 (.loop (.seq (sR [om 106 9,om 107 5,bI 108 .lss 106 107]
(cN 108
.skip
(.exit 2)))
(.seq (.block 3 (.seq (.dreg [(om 111 4,0),(om 112 9,0),(iX 113 35 111 112,3),(fA 114 0 113,7),(fA 115 0 114,15),(lF 116 1 115,31),(fA 117 0 6,0),(fA 118 0 117,64),(lF 119 1 118,192),(bI 120 .eql 116 119,511)])
(cN 120
(sR [wR 2 2]
.ret)
.skip)))
(.reg [om 109 9,bC 110 .add 109 (ci 1),om 9 110])))))))))))
(.reg [om 55 5,bC 56 .add 55 (ci 1),om 5 56]))))))
(.seq (sR [wR 10 1]
(.block 4 (.loop (.seq (sR [om 121 10,fA 122 150 1,lF 123 1 122,lN 124 123,bI 125 .lss 121 124]
(cN 125
.skip
(.exit 4)))
(.seq (.block 5 (.seq (.dreg [(fA 128 150 1,0),(lF 129 1 128,1),(om 130 10,0),(iX 131 35 129 130,7),(fA 132 0 131,15),(fA 133 0 132,31),(lF 134 1 133,63),(fA 135 150 1,0),(lF 136 1 135,128),(om 137 10,0),(bC 138 .sub 137 (ci 1),512),(iX 139 35 136 138,1920),(fA 140 0 139,3968),(fA 141 0 140,8064),(lF 142 1 141,16256),(bI 143 .leq 134 142,32767)])
(cN 143
(sR [wR 2 2]
.ret)
.skip)))
(.reg [om 126 10,bC 127 .add 126 (ci 1),om 10 127]))))))
(.seq (sR [wR 11 1]
(.block 6 (.loop (.seq (sR [om 144 11,fA 145 151 1,lF 146 1 145,lN 147 146,bI 148 .lss 144 147]
(cN 148
.skip
(.exit 6)))
(.seq (.block 7 (.seq (.dreg [(fA 151 151 1,0),(lF 152 1 151,1),(om 153 11,0),(bC 154 .sub 153 (ci 1),4),(iX 155 35 152 154,15),(lA 156 35 155,31),(fA 157 151 1,0),(lF 158 1 157,64),(om 159 11,0),(iX 160 35 158 159,448),(lA 161 35 160,960),(oo 12 (.new (aP gT)),0),(oo 13 (.new (aP gT)),0),(sO 35 12 156,6207),(sO 35 13 161,16383)])
(sR [fA 162 34 13,lF 163 1 162,fA 164 34 12,lF 165 1 164,bI 166 .lss 163 165,om 167 166,wA 168 34 13 167,wC 169 1 168 167,wA 170 34 12 167,wC 171 1 170 167,wI 172 .eql 169 171 167,wG 173 172 167,wB 174 0 13 173,wB 175 0 174 173,wD 176 1 175 173,wB 177 0 12 173,wB 178 0 177 173,wD 179 1 178 173,wJ 180 .leq 176 179 173,og 181 (.pick (.t 173) (.t 180) (cb false)) 167 false,wM 182 167 181]
(cN 182
(sR [wR 2 2]
.ret)
.skip))))
(.reg [om 149 11,bC 150 .add 149 (ci 1),om 11 150]))))))
(sR [wR 2 0]
.ret))))))))
theorem DH:aJ Tryz.prog 28=some (183,[.tmp 2],dm):=by kernel_rfl
def ae:ab:=nfO (P:=Tryz.prog) 29
theorem KE:aJ Tryz.prog 29=some (334,[.tmp 2],ae):=by kernel_rfl
def cm:ab:=nfO (P:=Tryz.prog) 3
theorem pq:aJ Tryz.prog 3=some (87,[.tmp 8],cm):=by kernel_rfl
def cZ:ab:=(sR [wZ 1 252 0,wR 2 0]
(.seq (sR [fA 9 0 1,lA 10 150 9,kA 11 168 10,om 3 11]
(sR [om 12 3,bC 13 .neq 12 (ci 0)]
(cN 13
(sR [om 14 3,om 2 14]
.ret)
.skip)))
(.seq (sR [fA 15 152 1,lF 16 1 15,bC 17 .lss 16 (cu 1),om 18 17,wA 19 151 1 18,wC 20 1 19 18,og 21 (.len false (.t 20)) 18 false,wA 22 0 1 18,wA 23 0 22 18,wA 24 0 23 18,wA 25 4 24 18,wC 26 1 25 18,wI 27 .gtr 21 26 18,wM 28 18 27,om 29 28,wA 30 153 1 29,wC 31 1 30 29,wP 32 31 29,wG 33 32 29,wB 34 154 1 33,wF 35 96 34 33,og 36 (.bld (AZ fS) []) 33 true,og 37 (.eqa [(96,1)] true (.t 35) (.t 36)) 33 true,og 38 (.pick (.t 33) (.t 37) (cb false)) 29 false,wM 39 29 38]
(cN 39
(sR [wR 2 2]
.ret)
.skip))
(sR [oo 40 (.mop .mkm []),om 4 40]
(.seq (sR [fA 41 150 1,lF 42 1 41,lN 43 42,wR 44 0]
(.block 0 (.loop (sR [bI 45 .lss 44 43]
(.seq (cN 45
.skip
(.exit 0))
(.seq (.block 1 (sR [om 46 44,iX 47 35 42 44,lA 48 35 47,oo 6 (.new (aP gT)),om 5 46,sO 35 6 48]
(.seq (.dreg [(om 49 5,0),(bC 50 .gtr 49 (ci 0),1),(om 51 50,3),(wB 52 0 6 51,7),(wB 53 0 52 51,15),(wD 54 1 53 51,31),(wB 55 150 1 51,7),(wD 56 1 55 51,71),(wH 57 5 51,7),(wL 58 .sub 57 (ci 1) 51,263),(wU 59 35 56 58 51,967),(wB 60 0 59 51,1991),(wB 61 0 60 51,4039),(wD 62 1 61 51,8135),(wJ 63 .leq 54 62 51,16383),(wN 64 51 63,32767),(om 65 64,65535),(wA 66 34 6 65,131071),(wC 67 1 66 65,262143),(wK 68 .neq 67 (cu 0) 65,524287),(wM 69 65 68,1048575),(om 70 69,2097151),(wE 71 252 1 70,4194303),(wE 72 35 6 70,4194303),(wG 73 4 70,4194303),(og 74 (.call (cf 169) [(.t 71),(.t 72),(ci 0),(.t 73)]) 70 false,33554431),(wP 75 74 70,67108863),(wM 76 70 75,134217727)])
(cN 76
(sR [wR 2 2]
.ret)
.skip))))
(.reg [bC 77 .add 44 (ci 1),om 44 77])))))))
(.seq (sR [fA 78 151 1,lF 79 1 78,lN 80 79,wR 81 0]
(.block 2 (.loop (sR [bI 82 .lss 81 80]
(.seq (cN 82
.skip
(.exit 2))
(.seq (.block 3 (sR [om 83 81,iX 84 35 79 81,lA 85 35 84,oo 8 (.new (aP gT)),om 7 83,sO 35 8 85]
(.seq (.dreg [(om 86 7,0),(bC 87 .gtr 86 (ci 0),1),(om 88 87,3),(wB 89 151 1 88,7),(wD 90 1 89 88,15),(wH 91 7 88,7),(wL 92 .sub 91 (ci 1) 88,39),(wU 93 35 90 92 88,127),(wF 94 35 93 88,255),(wF 95 35 8 88,7),(wY 96 170 94 95 88,1023),(wL 97 .geq 96 (ci 0) 88,2047),(wN 98 88 97,4095),(om 99 98,8191),(wA 100 34 8 99,16383),(wC 101 1 100 99,32767),(wK 102 .lss 101 (cu 1) 99,65535),(wM 103 99 102,131071),(om 104 103,262143),(wE 105 252 1 104,524287),(wE 106 35 8 104,524287),(wG 107 4 104,524287),(og 108 (.call (cf 169) [(.t 105),(.t 106),(ci 1),(.t 107)]) 104 false,4194303),(wP 109 108 104,8388607),(wM 110 104 109,16777215)])
(cN 110
(sR [wR 2 2]
.ret)
.skip))))
(.reg [bC 111 .add 81 (ci 1),om 81 111])))))))
(sR [wR 2 0]
.ret)))))))
theorem BE:aJ Tryz.prog 73=some (112,[.tmp 2],cZ):=by kernel_rfl
def nN:ab:=nfO (P:=Tryz.prog) 288
theorem yf:aJ Tryz.prog 288=some (77,[.tmp 2],nN):=by kernel_rfl
def nP:ab:=(sR [wZ 1 150 0,wS 2 false]
(sR [wS 3 false]
(.seq (sR [fA 6 149 1,lF 7 1 6,lN 8 7,wR 9 0]
(.block 0 (.loop (sR [bI 10 .lss 9 8]
(.seq (cN 10
.skip
(.exit 0))
(.seq (.block 1 (sR [om 11 9,iX 12 34 7 9,lA 13 34 12,oo 5 (.new (cx yp)),om 4 11,sO 34 5 13]
(.seq (.seq (.dreg [(om 14 4,0),(bC 15 .gtr 14 (ci 0),1),(om 16 15,3),(wB 17 149 1 16,7),(wD 18 1 17 16,15),(wH 19 4 16,7),(wL 20 .sub 19 (ci 1) 16,39),(wU 21 34 18 20 16,127),(wF 22 34 21 16,255),(wF 23 34 5 16,7),(wY 24 254 22 23 16,1023),(wL 25 .geq 24 (ci 0) 16,2047),(wN 26 16 25,4095),(om 27 26,8191),(wE 28 34 5 27,16383),(wA 29 0 1 27,16383),(wA 30 44 29 27,49151),(wC 31 1 30 27,114687),(og 32 (.len false (.t 31)) 27 false,245759),(wX 33 252 28 32 27,524287),(wK 34 .neq 33 (ci 0) 27,1048575),(wM 35 27 34,2097151)])
(cN 35
(sR [wS 2 false]
.ret)
.skip))
(.reg [om 36 3,om 37 36,wA 38 0 5 37,wE 39 33 38 37,wA 40 47 1 37,wA 41 0 40 37,wE 42 33 41 37,og 43 (.eqa [(33,1)] false (.t 39) (.t 42)) 37 false,wM 44 37 43,om 3 44]))))
(.reg [bC 45 .add 9 (ci 1),om 9 45])))))))
(sR [om 46 3,om 2 46]
.ret))))
theorem yh:aJ Tryz.prog 291=some (47,[.tmp 2],nP):=by kernel_rfl
def mL:ab:=(sR [wZ 1 34 0,wS 2 false]
(sR [fA 3 0 1,lF 4 1 3,wO 5 4,om 6 5,wF 7 34 1 6,og 8 (.bld (al dL) []) 6 true,og 9 (.eqa [(1,0),(33,1)] true (.t 7) (.t 8)) 6 true,wN 10 6 9,om 2 10]
.ret))
theorem vV:aJ Tryz.prog 387=some (11,[.tmp 2],mL):=by kernel_rfl
def AR:ab:=(sR [wZ 2 150 0,wZ 3 150 1,wS 4 false]
(.seq (.dreg [(fA 9 0 2,0),(lA 10 45 9,1),(fA 11 0 3,0),(lA 12 45 11,4),(oo 5 (.new (bW ui)),0),(oo 6 (.new (bW ui)),0),(sO 45 5 10,51),(sO 45 6 12,127)])
(.seq (sR [fA 13 0 5,lA 14 6 13,fA 15 0 6,lA 16 6 15,oo 17 (.eqa [(6,1)] true (.t 14) (.t 16)),om 18 17,wA 19 6 5 18,wC 20 1 19 18,wA 21 6 6 18,wC 22 1 21 18,wI 23 .neq 20 22 18,wM 24 18 23,om 25 24,wA 26 7 5 25,wC 27 1 26 25,wA 28 7 6 25,wC 29 1 28 25,wI 30 .neq 27 29 25,wM 31 25 30,om 32 31,wA 33 8 5 32,wE 34 4 33 32,wA 35 8 6 32,wE 36 4 35 32,og 37 (.eqa [(4,1)] true (.t 34) (.t 36)) 32 false,wM 38 32 37,om 39 38,wA 40 12 5 39,wE 41 32 40 39,wA 42 12 6 39,wE 43 32 42 39,og 44 (.eqa [(32,1)] true (.t 41) (.t 43)) 39 false,wM 45 39 44,om 46 45,wA 47 44 5 46,wC 48 1 47 46,wA 49 44 6 46,wC 50 1 49 46,wX 51 123 48 50 46,wP 52 51 46,wM 53 46 52]
(cN 53
(sR [wS 4 false]
.ret)
.skip))
(.seq (sR [fA 54 45 2,fA 55 0 54,lF 56 1 55,fA 57 45 3,fA 58 0 57,lF 59 1 58,kB 60 124 56 59,wO 61 60,om 62 61,wA 63 45 2 62,wA 64 1 63 62,wC 65 1 64 62,wA 66 45 3 62,wA 67 1 66 62,wC 68 1 67 62,wX 69 125 65 68 62,wP 70 69 62,wM 71 62 70,om 72 71,wA 73 47 2 72,wE 74 66 73 72,wA 75 47 3 72,wE 76 66 75 72,og 77 (.eqa [(66,1)] true (.t 74) (.t 76)) 72 false,wM 78 72 77,om 79 78,wA 80 113 2 79,wA 81 0 80 79,wC 82 1 81 79,og 83 (.len false (.t 82)) 79 false,wA 84 113 3 79,wA 85 0 84 79,wC 86 1 85 79,og 87 (.len false (.t 86)) 79 false,wI 88 .neq 83 87 79,wM 89 79 88,om 90 89,wA 91 113 2 90,wA 92 1 91 90,wC 93 1 92 90,og 94 (.len false (.t 93)) 90 false,wA 95 113 3 90,wA 96 1 95 90,wC 97 1 96 90,og 98 (.len false (.t 97)) 90 false,wI 99 .neq 94 98 90,wM 100 90 99,om 101 100,wA 102 115 2 101,wE 103 1 102 101,wA 104 115 3 101,wE 105 1 104 101,wX 106 126 103 105 101,wP 107 106 101,wM 108 101 107,om 109 108,wA 110 116 2 109,wC 111 1 110 109,wA 112 116 3 109,wC 113 1 112 109,wI 114 .neq 111 113 109,wM 115 109 114,om 116 115,wA 117 117 2 116,wE 118 32 117 116,wA 119 117 3 116,wE 120 32 119 116,og 121 (.eqa [(32,1)] true (.t 118) (.t 120)) 116 false,wM 122 116 121,om 123 122,wA 124 149 2 123,wC 125 1 124 123,wA 126 149 3 123,wC 127 1 126 123,wX 128 127 125 127 123,wP 129 128 123,wM 130 123 129]
(cN 130
(sR [wS 4 false]
.ret)
.skip))
(.seq (sR [wR 7 0]
(.block 0 (.loop (.seq (sR [om 131 7,fA 132 113 2,fA 133 0 132,lF 134 1 133,lN 135 134,bI 136 .lss 131 135]
(cN 136
.skip
(.exit 0)))
(.seq (.block 1 (.seq (.dreg [(fA 139 113 2,0),(fA 140 0 139,1),(lF 141 1 140,3),(om 142 7,0),(iX 143 67 141 142,15),(lA 144 67 143,31),(fA 145 113 3,0),(fA 146 0 145,64),(lF 147 1 146,192),(om 148 7,0),(iX 149 67 147 148,960),(lA 150 67 149,1984),(kB 151 128 144 150,4095),(wO 152 151,8191)])
(cN 152
(sR [wS 4 false]
.ret)
.skip)))
(.reg [om 137 7,bC 138 .add 137 (ci 1),om 7 138]))))))
(.seq (sR [wR 8 0]
(.block 2 (.loop (.seq (sR [om 153 8,fA 154 113 2,fA 155 1 154,lF 156 1 155,lN 157 156,bI 158 .lss 153 157]
(cN 158
.skip
(.exit 2)))
(.seq (.block 3 (.seq (.dreg [(fA 161 113 2,0),(fA 162 1 161,1),(lF 163 1 162,3),(om 164 8,0),(iX 165 238 163 164,15),(lA 166 238 165,31),(fA 167 113 3,0),(fA 168 1 167,64),(lF 169 1 168,192),(om 170 8,0),(iX 171 238 169 170,960),(lA 172 238 171,1984),(oo 173 (.eqa [(237,1),(1,0)] true (.t 166) (.t 172)),4095)])
(cN 173
(sR [wS 4 false]
.ret)
.skip)))
(.reg [om 159 8,bC 160 .add 159 (ci 1),om 8 160]))))))
(sR [wS 4 true]
.ret)))))))
theorem OK:aJ Tryz.prog 47=some (174,[.tmp 4],AR):=by kernel_rfl
def rH:ab:=(sR [wS 4 false]
(.seq (sR [om 6 0,lN 7 6,om 8 1,lN 9 8,bI 10 .neq 7 9]
(cN 10
(sR [wS 4 false]
.ret)
.skip))
(.seq (sR [wR 5 0]
(.block 0 (.loop (.seq (sR [om 11 5,om 12 0,lN 13 12,bI 14 .lss 11 13]
(cN 14
.skip
(.exit 0)))
(.seq (.block 1 (.seq (.dreg [(om 17 0,0),(om 18 5,0),(iX 19 34 17 18,3),(lA 20 34 19,7),(om 21 1,0),(om 22 5,0),(iX 23 34 21 22,48),(lA 24 34 23,112),(oo 25 (.eqa [(1,0),(33,1)] true (.t 20) (.t 24)),255)])
(cN 25
(sR [wS 4 false]
.ret)
.skip)))
(.reg [om 15 5,bC 16 .add 15 (ci 1),om 5 16]))))))
(sR [wS 4 true]
.ret))))
theorem DN:aJ Tryz.prog 124=some (26,[.tmp 4],rH):=by kernel_rfl
def AN:ab:=(sR [wZ 2 1 0,wZ 3 1 1,wS 4 false]
(.seq (sR [fA 6 0 2,lF 7 1 6,lN 8 7,fA 9 0 3,lF 10 1 9,lN 11 10,bI 12 .neq 8 11]
(cN 12
(sR [wS 4 false]
.ret)
.skip))
(.seq (sR [wR 5 0]
(.block 0 (.loop (.seq (sR [om 13 5,fA 14 0 2,lF 15 1 14,lN 16 15,bI 17 .lss 13 16]
(cN 17
.skip
(.exit 0)))
(.seq (.block 1 (.seq (.dreg [(fA 20 0 2,0),(lF 21 1 20,1),(om 22 5,0),(iX 23 240 21 22,7),(lA 24 240 23,15),(fA 25 0 3,0),(lF 26 1 25,32),(om 27 5,0),(iX 28 240 26 27,224),(lA 29 240 28,480),(oo 30 (.eqa [(237,1),(1,0),(2,1)] true (.t 24) (.t 29)),1023)])
(cN 30
(sR [wS 4 false]
.ret)
.skip)))
(.reg [om 18 5,bC 19 .add 18 (ci 1),om 5 19]))))))
(sR [wS 4 true]
.ret))))
theorem OG:aJ Tryz.prog 126=some (31,[.tmp 4],AN):=by kernel_rfl
def qx:ab:=(sR [wZ 2 2 0,wS 4 false]
(.seq (sR [fA 6 0 2,lF 7 1 6,lN 8 7,om 9 1,bI 10 .neq 8 9]
(cN 10
(sR [wS 4 false]
.ret)
.skip))
(.seq (sR [wR 5 0]
(.block 0 (.loop (.seq (sR [om 11 5,fA 12 0 2,lF 13 1 12,lN 14 13,bI 15 .lss 11 14]
(cN 15
.skip
(.exit 0)))
(.seq (.block 1 (sR [fA 18 0 2,lF 19 1 18,om 20 5,iX 21 34 19 20,fA 22 0 21,lF 23 1 22,wO 24 23,om 25 24,wB 26 0 2 25,wD 27 1 26 25,wH 28 5 25,wU 29 34 27 28 25,wF 30 34 29 25,og 31 (.bld (al dL) []) 25 true,og 32 (.eqa [(1,0),(33,1)] true (.t 30) (.t 31)) 25 true,wN 33 25 32]
(cN 33
(sR [wS 4 false]
.ret)
.skip)))
(.reg [om 16 5,bC 17 .add 16 (ci 1),om 5 17]))))))
(sR [fA 34 1 2,lF 35 1 34,lN 36 35,bC 37 .eql 36 (ci 0),om 38 37,wA 39 1 2 38,wC 40 1 39 38,wG 41 1 38,wX 42 182 40 41 38,wK 43 .eql 42 (ci 0) 38,wM 44 38 43,om 4 44]
.ret))))
theorem BX:aJ Tryz.prog 176=some (45,[.tmp 4],qx):=by kernel_rfl
end Go.Proofs.YtblipkgpoaonaaaGreat
