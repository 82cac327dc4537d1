/- Joined. -/
import Derived.Test.YtmpddimhleianaaGreatW3
import Derived.Test.YtmpddimhleianaaGreatT1
import Derived.Test.YtmpddimhleianaaGreatChecked
import Derived.KernelRfl
import Derived.Test.YtmpddimhleianaaGreatR1
import Derived.Test.YtmpddimhleianaaGreatT4
import Derived.Test.YtmpddimhleianaaGreatV1
import Derived.Test.YtmpddimhleianaaGreatV5
import Derived.Test.YtmpddimhleianaaGreatT6
import Derived.Test.YtmpddimhleianaaGreatO1
import Derived.Test.YtmpddimhleianaaGreatE7
import Derived.Test.YtmpddimhleianaaGreatO7
import Derived.Test.YtmpddimhleianaaGreatE6
import Derived.Test.YtmpddimhleianaaGreatW7
import Derived.Test.YtmpddimhleianaaGreatS2
set_option linter.unusedVariables false
set_option linter.unusedSimpArgs false
set_option maxRecDepth 100000
set_option maxHeartbeats 4000000
namespace Go.FH
open Go Go.RowKit
theorem aa6(r:Wd):iq [(4,1)] (wdc r)=true:=gD (by rw[MN];rfl)
theorem Yo(x:Pul):iq [(66,1)] (dB x)=true:=gD (H6 x)
end Go.FH
namespace Go.FH
open Go Go.RowKit
attribute [go_sem] aa6 Yo
section
variable{P:Program}{nt k:Nat}{fr:Fr}{σ:St}{c:Opd}{x y:ab}{Q:Ex->Fr->St->Prop}
end
end Go.FH
namespace Go.FH
open Go Go.RowKit
theorem YE(x:Lim):cut (en x) 0 6=en x:=dV (cS x)
theorem Uq(x:Lim):(en x).map d6=ef [(6,1)]:=by simp only[en,amE,d6];decide +kernel
theorem Ym(x:Lim):iq [(6,1)] (en x)=true:=gD (Uq x)
theorem Xt(x y:Lim):gj (en x) (en y)=some (decide (x=y)):=by cases x;cases y;simp[en,gj,zy,ajx]
theorem Ur(x:Nod):(bB x).map d6=ef [(237,1),(1,0),(2,1)]:=by simp only[bB,amE,amN,d6,H5];decide +kernel
theorem Yn(x:Nod):iq [(237,1),(1,0),(2,1)] (bB x)=true:=gD (Ur x)
theorem Xu(x y:Nod):gj (bB x) (bB y)=some (decide (x=y)):=by cases x;cases y;simp[bB,jg,gj,zy,L5,ajx]
theorem Us(x:Req):(aP x).map d6=ef [(35,1)]:=by simp only[aP,amE,amN,d6,lJ];decide +kernel
theorem Yp(x:Req):iq [(35,1)] (aP x)=true:=gD (Us x)
theorem Xv(x y:Req):gj (aP x) (aP y)=some (decide (x=y)):=by cases x;cases y;simp[aP,jg,gj,zy,mh,ajx]
attribute [go_sem] YE Ym Xt Yn Xu Yp Xv
section
variable{α:Type}{f:α->List AV}{l m:List α}
end
theorem VOp.map_ren(ρ:Nat->Nat)(x:VOp):x.a.map (ren ρ)=x.a:=by
 unfold VOp.a SOp.map;simp only[bp.map_ren,fe.map_ren,aW.map_ren]
attribute [go_sem] VOp.map_ren
end Go.FH
namespace Go.Proofs.YtmpddimhleianaaGreat
open Go Go.FH Go.RowKit
theorem US(l:List Nod)(cl:Bool)(fn:FuncId)(c:uF)(p:Nat->Bool)(hl:l.length<=2097152)(hc:∀i,i<l.length->ay Tryz.prog fn [.agg (bB (l.getD i gr)),.ptr 0 0] [.var c.cs] (.bool (p i)) [.var c.cs]):ay Tryz.prog 235 [.sl 240 cl (rows bB l),.fn (.func fn) [.ptr 0 0]] [.var c.cs] (.bool (dW p l.length).isSome) [.var c.cs]:=by
 refine dS 5 ?_;have c1:=RC l cl fn c p hl hc;refine gon ?_;refine oce [0] c1 ?_;cases h:dW p l.length with
 | none =>
   refine gon ?_;exact ahY [] [0]
 | some i =>
   have e2:decide ((i:Int) ≥ 0)=true:=au WL;refine ah e2 ?_;exact ahY [] [0]
theorem UX(l:List Vot)(cl:Bool)(fn:FuncId)(p:Nat->Bool)(hl:l.length<=2097152)(hc:∀i,i<l.length->PC Tryz.prog fn [.agg (al (l.getD i dL))] (.bool (p i))):PC Tryz.prog 232 [.sl 34 cl (rows al l),.fn (.func fn) []] (.bool (dW p l.length).isSome):=by
 refine ae 5 ?_;have c1:=abv l cl fn p hl hc;refine gon ?_;refine am c1 ?_;cases h:dW p l.length with
 | none =>
   refine gon ?_;exact ai
 | some i =>
   have e2:decide ((i:Int) ≥ 0)=true:=au WL;refine ah e2 ?_;exact ai
end Go.Proofs.YtmpddimhleianaaGreat
namespace Go.Proofs.YtmpddimhleianaaGreat
open Go Go.FH
def bz:ab:=(sR [wZ 1 252 0,wR 2 0]
(.seq (sR [fA 9 0 1,lA 10 150 9,kA 11 81 10,om 3 11]
(sR [om 12 3,bC 13 .neq 12 (ci 0)]
(cN 13
(sR [om 14 3,om 2 14]
.ret)
.skip)))
(.seq (sR [fA 15 152 1,lF 16 1 15,bC 17 .lss 16 (cu 1),om 18 17,wA 19 151 1 18,wC 20 1 19 18,og 21 (.len false (.t 20)) 18 false,wA 22 0 1 18,wA 23 0 22 18,wA 24 0 23 18,wA 25 4 24 18,wC 26 1 25 18,wI 27 .gtr 21 26 18,wM 28 18 27,om 29 28,wA 30 153 1 29,wC 31 1 30 29,wP 32 31 29,wG 33 32 29,wB 34 154 1 33,wF 35 96 34 33,og 36 (.bld (AZ fS) []) 33 true,og 37 (.eqa [(96,1)] true (.t 35) (.t 36)) 33 true,og 38 (.pick (.t 33) (.t 37) (cb false)) 29 false,wM 39 29 38]
(cN 39
(sR [wR 2 2]
.ret)
.skip))
(sR [oo 40 (.mop .mkm []),om 4 40]
(.seq (sR [fA 41 150 1,lF 42 1 41,lN 43 42,wR 44 0]
(.block 0 (.loop (sR [bI 45 .lss 44 43]
(.seq (cN 45
.skip
(.exit 0))
(.seq (.block 1 (sR [om 46 44,iX 47 35 42 44,lA 48 35 47,oo 6 (.new (aP gT)),om 5 46,sO 35 6 48]
(.seq (.dreg [(om 49 5,0),(bC 50 .gtr 49 (ci 0),1),(om 51 50,3),(wB 52 0 6 51,7),(wB 53 0 52 51,15),(wD 54 1 53 51,31),(wB 55 150 1 51,7),(wD 56 1 55 51,71),(wH 57 5 51,7),(wL 58 .sub 57 (ci 1) 51,263),(wU 59 35 56 58 51,967),(wB 60 0 59 51,1991),(wB 61 0 60 51,4039),(wD 62 1 61 51,8135),(wJ 63 .leq 54 62 51,16383),(wN 64 51 63,32767),(om 65 64,65535),(wA 66 34 6 65,131071),(wC 67 1 66 65,262143),(wK 68 .neq 67 (cu 0) 65,524287),(wM 69 65 68,1048575),(om 70 69,2097151),(wE 71 252 1 70,4194303),(wE 72 35 6 70,4194303),(wG 73 4 70,4194303),(og 74 (.call (cf 82) [(.t 71),(.t 72),(ci 0),(.t 73)]) 70 false,33554431),(wP 75 74 70,67108863),(wM 76 70 75,134217727)])
(cN 76
(sR [wR 2 2]
.ret)
.skip))))
(.reg [bC 77 .add 44 (ci 1),om 44 77])))))))
(.seq (sR [fA 78 151 1,lF 79 1 78,lN 80 79,wR 81 0]
(.block 2 (.loop (sR [bI 82 .lss 81 80]
(.seq (cN 82
.skip
(.exit 2))
(.seq (.block 3 (sR [om 83 81,iX 84 35 79 81,lA 85 35 84,oo 8 (.new (aP gT)),om 7 83,sO 35 8 85]
(.seq (.dreg [(om 86 7,0),(bC 87 .gtr 86 (ci 0),1),(om 88 87,3),(wB 89 151 1 88,7),(wD 90 1 89 88,15),(wH 91 7 88,7),(wL 92 .sub 91 (ci 1) 88,39),(wU 93 35 90 92 88,127),(wF 94 35 93 88,255),(wF 95 35 8 88,7),(wY 96 83 94 95 88,1023),(wL 97 .geq 96 (ci 0) 88,2047),(wN 98 88 97,4095),(om 99 98,8191),(wA 100 34 8 99,16383),(wC 101 1 100 99,32767),(wK 102 .lss 101 (cu 1) 99,65535),(wM 103 99 102,131071),(om 104 103,262143),(wE 105 252 1 104,524287),(wE 106 35 8 104,524287),(wG 107 4 104,524287),(og 108 (.call (cf 82) [(.t 105),(.t 106),(ci 1),(.t 107)]) 104 false,4194303),(wP 109 108 104,8388607),(wM 110 104 109,16777215)])
(cN 110
(sR [wR 2 2]
.ret)
.skip))))
(.reg [bC 111 .add 81 (ci 1),om 81 111])))))))
(sR [wR 2 0]
.ret)))))))
theorem VQ:aJ Tryz.prog 39=some (112,[.tmp 2],bz):=by kernel_rfl
def iN:ab:=(sR [wZ 1 150 0,wS 2 false]
(sR [wS 3 false]
(.seq (sR [fA 6 149 1,lF 7 1 6,lN 8 7,wR 9 0]
(.block 0 (.loop (sR [bI 10 .lss 9 8]
(.seq (cN 10
.skip
(.exit 0))
(.seq (.block 1 (sR [om 11 9,iX 12 34 7 9,lA 13 34 12,oo 5 (.new (ar yp)),om 4 11,sO 34 5 13]
(.seq (.seq (.dreg [(om 14 4,0),(bC 15 .gtr 14 (ci 0),1),(om 16 15,3),(wB 17 149 1 16,7),(wD 18 1 17 16,15),(wH 19 4 16,7),(wL 20 .sub 19 (ci 1) 16,39),(wU 21 34 18 20 16,127),(wF 22 34 21 16,255),(wF 23 34 5 16,7),(wY 24 187 22 23 16,1023),(wL 25 .geq 24 (ci 0) 16,2047),(wN 26 16 25,4095),(om 27 26,8191),(wE 28 34 5 27,16383),(wA 29 0 1 27,16383),(wA 30 44 29 27,49151),(wC 31 1 30 27,114687),(og 32 (.len false (.t 31)) 27 false,245759),(wX 33 147 28 32 27,524287),(wK 34 .neq 33 (ci 0) 27,1048575),(wM 35 27 34,2097151)])
(cN 35
(sR [wS 2 false]
.ret)
.skip))
(.reg [om 36 3,om 37 36,wA 38 0 5 37,wE 39 33 38 37,wA 40 47 1 37,wA 41 0 40 37,wE 42 33 41 37,og 43 (.eqa [(33,1)] false (.t 39) (.t 42)) 37 false,wM 44 37 43,om 3 44]))))
(.reg [bC 45 .add 9 (ci 1),om 9 45])))))))
(sR [om 46 3,om 2 46]
.ret))))
theorem VI:aJ Tryz.prog 139=some (47,[.tmp 2],iN):=by kernel_rfl
def gW:ab:=(sR [wZ 1 34 0,wS 2 false]
(sR [fA 3 0 1,lF 4 1 3,wO 5 4,om 6 5,wF 7 34 1 6,og 8 (.bld (al dL) []) 6 true,og 9 (.eqa [(1,0),(33,1)] true (.t 7) (.t 8)) 6 true,wN 10 6 9,om 2 10]
.ret))
theorem rP:aJ Tryz.prog 233=some (11,[.tmp 2],gW):=by kernel_rfl
def AR:ab:=(sR [wZ 2 150 0,wZ 3 150 1,wS 4 false]
(.seq (.dreg [(fA 9 0 2,0),(lA 10 45 9,1),(fA 11 0 3,0),(lA 12 45 11,4),(oo 5 (.new (bW ui)),0),(oo 6 (.new (bW ui)),0),(sO 45 5 10,51),(sO 45 6 12,127)])
(.seq (sR [fA 13 0 5,lA 14 6 13,fA 15 0 6,lA 16 6 15,oo 17 (.eqa [(6,1)] true (.t 14) (.t 16)),om 18 17,wA 19 6 5 18,wC 20 1 19 18,wA 21 6 6 18,wC 22 1 21 18,wI 23 .neq 20 22 18,wM 24 18 23,om 25 24,wA 26 7 5 25,wC 27 1 26 25,wA 28 7 6 25,wC 29 1 28 25,wI 30 .neq 27 29 25,wM 31 25 30,om 32 31,wA 33 8 5 32,wE 34 4 33 32,wA 35 8 6 32,wE 36 4 35 32,og 37 (.eqa [(4,1)] true (.t 34) (.t 36)) 32 false,wM 38 32 37,om 39 38,wA 40 12 5 39,wE 41 32 40 39,wA 42 12 6 39,wE 43 32 42 39,og 44 (.eqa [(32,1)] true (.t 41) (.t 43)) 39 false,wM 45 39 44,om 46 45,wA 47 44 5 46,wC 48 1 47 46,wA 49 44 6 46,wC 50 1 49 46,wX 51 91 48 50 46,wP 52 51 46,wM 53 46 52]
(cN 53
(sR [wS 4 false]
.ret)
.skip))
(.seq (sR [fA 54 45 2,fA 55 0 54,lF 56 1 55,fA 57 45 3,fA 58 0 57,lF 59 1 58,kB 60 92 56 59,wO 61 60,om 62 61,wA 63 45 2 62,wA 64 1 63 62,wC 65 1 64 62,wA 66 45 3 62,wA 67 1 66 62,wC 68 1 67 62,wX 69 93 65 68 62,wP 70 69 62,wM 71 62 70,om 72 71,wA 73 47 2 72,wE 74 66 73 72,wA 75 47 3 72,wE 76 66 75 72,og 77 (.eqa [(66,1)] true (.t 74) (.t 76)) 72 false,wM 78 72 77,om 79 78,wA 80 113 2 79,wA 81 0 80 79,wC 82 1 81 79,og 83 (.len false (.t 82)) 79 false,wA 84 113 3 79,wA 85 0 84 79,wC 86 1 85 79,og 87 (.len false (.t 86)) 79 false,wI 88 .neq 83 87 79,wM 89 79 88,om 90 89,wA 91 113 2 90,wA 92 1 91 90,wC 93 1 92 90,og 94 (.len false (.t 93)) 90 false,wA 95 113 3 90,wA 96 1 95 90,wC 97 1 96 90,og 98 (.len false (.t 97)) 90 false,wI 99 .neq 94 98 90,wM 100 90 99,om 101 100,wA 102 115 2 101,wE 103 1 102 101,wA 104 115 3 101,wE 105 1 104 101,wX 106 94 103 105 101,wP 107 106 101,wM 108 101 107,om 109 108,wA 110 116 2 109,wC 111 1 110 109,wA 112 116 3 109,wC 113 1 112 109,wI 114 .neq 111 113 109,wM 115 109 114,om 116 115,wA 117 117 2 116,wE 118 32 117 116,wA 119 117 3 116,wE 120 32 119 116,og 121 (.eqa [(32,1)] true (.t 118) (.t 120)) 116 false,wM 122 116 121,om 123 122,wA 124 149 2 123,wC 125 1 124 123,wA 126 149 3 123,wC 127 1 126 123,wX 128 95 125 127 123,wP 129 128 123,wM 130 123 129]
(cN 130
(sR [wS 4 false]
.ret)
.skip))
(.seq (sR [wR 7 0]
(.block 0 (.loop (.seq (sR [om 131 7,fA 132 113 2,fA 133 0 132,lF 134 1 133,lN 135 134,bI 136 .lss 131 135]
(cN 136
.skip
(.exit 0)))
(.seq (.block 1 (.seq (.dreg [(fA 139 113 2,0),(fA 140 0 139,1),(lF 141 1 140,3),(om 142 7,0),(iX 143 67 141 142,15),(lA 144 67 143,31),(fA 145 113 3,0),(fA 146 0 145,64),(lF 147 1 146,192),(om 148 7,0),(iX 149 67 147 148,960),(lA 150 67 149,1984),(kB 151 96 144 150,4095),(wO 152 151,8191)])
(cN 152
(sR [wS 4 false]
.ret)
.skip)))
(.reg [om 137 7,bC 138 .add 137 (ci 1),om 7 138]))))))
(.seq (sR [wR 8 0]
(.block 2 (.loop (.seq (sR [om 153 8,fA 154 113 2,fA 155 1 154,lF 156 1 155,lN 157 156,bI 158 .lss 153 157]
(cN 158
.skip
(.exit 2)))
(.seq (.block 3 (.seq (.dreg [(fA 161 113 2,0),(fA 162 1 161,1),(lF 163 1 162,3),(om 164 8,0),(iX 165 238 163 164,15),(lA 166 238 165,31),(fA 167 113 3,0),(fA 168 1 167,64),(lF 169 1 168,192),(om 170 8,0),(iX 171 238 169 170,960),(lA 172 238 171,1984),(oo 173 (.eqa [(237,1),(1,0)] true (.t 166) (.t 172)),4095)])
(cN 173
(sR [wS 4 false]
.ret)
.skip)))
(.reg [om 159 8,bC 160 .add 159 (ci 1),om 8 160]))))))
(sR [wS 4 true]
.ret)))))))
theorem OK:aJ Tryz.prog 46=some (174,[.tmp 4],AR):=by kernel_rfl
def rH:ab:=(sR [wS 4 false]
(.seq (sR [om 6 0,lN 7 6,om 8 1,lN 9 8,bI 10 .neq 7 9]
(cN 10
(sR [wS 4 false]
.ret)
.skip))
(.seq (sR [wR 5 0]
(.block 0 (.loop (.seq (sR [om 11 5,om 12 0,lN 13 12,bI 14 .lss 11 13]
(cN 14
.skip
(.exit 0)))
(.seq (.block 1 (.seq (.dreg [(om 17 0,0),(om 18 5,0),(iX 19 34 17 18,3),(lA 20 34 19,7),(om 21 1,0),(om 22 5,0),(iX 23 34 21 22,48),(lA 24 34 23,112),(oo 25 (.eqa [(1,0),(33,1)] true (.t 20) (.t 24)),255)])
(cN 25
(sR [wS 4 false]
.ret)
.skip)))
(.reg [om 15 5,bC 16 .add 15 (ci 1),om 5 16]))))))
(sR [wS 4 true]
.ret))))
theorem DN:aJ Tryz.prog 92=some (26,[.tmp 4],rH):=by kernel_rfl
def AN:ab:=(sR [wZ 2 1 0,wZ 3 1 1,wS 4 false]
(.seq (sR [fA 6 0 2,lF 7 1 6,lN 8 7,fA 9 0 3,lF 10 1 9,lN 11 10,bI 12 .neq 8 11]
(cN 12
(sR [wS 4 false]
.ret)
.skip))
(.seq (sR [wR 5 0]
(.block 0 (.loop (.seq (sR [om 13 5,fA 14 0 2,lF 15 1 14,lN 16 15,bI 17 .lss 13 16]
(cN 17
.skip
(.exit 0)))
(.seq (.block 1 (.seq (.dreg [(fA 20 0 2,0),(lF 21 1 20,1),(om 22 5,0),(iX 23 240 21 22,7),(lA 24 240 23,15),(fA 25 0 3,0),(lF 26 1 25,32),(om 27 5,0),(iX 28 240 26 27,224),(lA 29 240 28,480),(oo 30 (.eqa [(237,1),(1,0),(2,1)] true (.t 24) (.t 29)),1023)])
(cN 30
(sR [wS 4 false]
.ret)
.skip)))
(.reg [om 18 5,bC 19 .add 18 (ci 1),om 5 19]))))))
(sR [wS 4 true]
.ret))))
theorem OG:aJ Tryz.prog 94=some (31,[.tmp 4],AN):=by kernel_rfl
end Go.Proofs.YtmpddimhleianaaGreat
namespace Go.Proofs.YtmpddimhleianaaGreat
open Go Go.FH Go.RowKit
theorem ZI(l:List Vot)(hl:l.length<=2097152):PC Tryz.prog 92 [.sl 34 false (rows al l),.sl 34 false (rows al l)] (.bool true):=by
 refine pfn 6 DN ?_;unfold rH;refine bd ?_;have e0:((l.length:Int) != (l.length:Int))=false:=WM
 refine aF e0 ?_;refine az (fun i:Nat=>[(5,.int .i64 i)]) (fun _=>[]) (fun i=>l.length-i) (fun i=>i<=l.length) 0 (amc _) ?_ ?_
 ·exact ais [] []
 intro i hi;refine dp ?_;by_cases h1:i<l.length
 ·have e1:=inT h1;have hw:=af h1 WL;have hgd:(rows al l).getD i []=al (vot l i):=aS (f:=al) dL h1;refine bw e1 ?_;refine bJ hgd ?_;refine ah hw ?_;refine⟨i+1,h1,WL,?_⟩;exact ais [] []
 ·obtain rfl:i=l.length:=WL
  have e1:=inF (l.length);refine aF e1 ?_;exact ai
theorem ZH(l:List aW)(hl:l.length<=2097152)(hb:∀t∈l,t.bals.length<=2097152):PC Tryz.prog 95 [.sl 34 false (rows aW.c l),.sl 34 false (rows aW.c l)] (.bool true):=by
 refine ae 6 ?_;have e0:((l.length:Int) != (l.length:Int))=false:=WM
 refine aF e0 ?_;refine az (fun i:Nat=>[(5,.int .i64 i)]) (fun _=>[]) (fun i=>l.length-i) (fun i=>i<=l.length) 0 (amc _) ?_ ?_
 ·exact ais [] []
 intro i hi;refine dp ?_;by_cases h1:i<l.length
 ·have e1:=inT h1
  have hw:=af h1 WL;have hgd:(rows aW.c l).getD i []=ar (tab l i).a:=aS (f:=aW.c) default h1;have hm:tab l i∈l:=bK default h1
  have c1:PC Tryz.prog 156 [.agg (ar (tab l i).a),.agg (ar (tab l i).a)] (.bool true):=by
   have:=SG (tab l i).a (tab l i).a (tab l i).bals (tab l i).bals false false rfl rfl (by have:=hb _ hm;omega) (by have:=hb _ hm;omega);simpa using this
  refine bw e1 ?_;refine ah hgd ?_;refine aK (c1) ?_;refine dQ ?_;refine ah hw ?_;refine⟨i+1,h1,WL,?_⟩;exact ais [] []
 ·obtain rfl:i=l.length:=WL
  have e1:=inF (l.length);refine aF e1 ?_;exact ai
theorem ZG(l:List Nod)(hl:l.length<=2097152):PC Tryz.prog 94 [.agg [.sl 240 false (rows bB l)],.agg [.sl 240 false (rows bB l)]] (.bool true):=by
 refine pfn 6 OG ?_;unfold AN;refine bd ?_;have e0:((l.length:Int) != (l.length:Int))=false:=WM
 refine aF e0 ?_;refine az (fun i:Nat=>[(5,.int .i64 i)]) (fun _=>[.var [.sl 240 false (rows bB l)],.var [.sl 240 false (rows bB l)]]) (fun i=>l.length-i) (fun i=>i<=l.length) 0 (amc _) ?_ ?_
 ·exact ais [] [0,1]
 intro i hi;refine dp ?_;by_cases h1:i<l.length
 ·have e1:=inT h1;have hw:=af h1 WL;have hgd:(rows bB l).getD i []=bB (nod l i):=aS (f:=bB) gr h1;refine bw e1 ?_;refine bJ hgd ?_;refine ah hw ?_;refine⟨i+1,h1,WL,?_⟩;exact ais [] [0,1]
 ·obtain rfl:i=l.length:=WL
  have e1:=inF (l.length);refine aF e1 ?_;exact ai
structure afM(s:ap):Prop where
 bn:s.nodes.length<=2097152
 bl:s.latest.length<=2097152
 be:s.eqv.length<=2097152
 bt:s.tabs.length<=2097152
 bb:∀t∈s.tabs,t.bals.length<=2097152
 bo:s.orph.length<=2097152
 ba:s.early.length<=2097152
 bv:∀a∈s.early,a.vals.length<=2097152
 bc:s.cfg.bals.length<=2097152
theorem Vh(s:ap)(h:afM s):PC Tryz.prog 46 [.agg (aE s.a),.agg (aE s.a)] (.bool true):=by
 refine pfn 9 OK ?_;unfold AR;refine bd ?_
 have c1:PC Tryz.prog 91 [.sl 1 false (aH .u64 s.cfg.bals),.sl 1 false (aH .u64 s.cfg.bals)] (.bool true):=by
  have:=zn s.cfg.bals s.cfg.bals false false (by have:=h.bc;omega) (by have:=h.bc;omega);simpa using this
 have c2:=ZI s.latest h.bl
 have c3:PC Tryz.prog 93 [.sl 1 false (aH .i64 s.eqv),.sl 1 false (aH .i64 s.eqv)] (.bool true):=by
  have:=jp s.eqv s.eqv false false (by have:=h.be;omega) (by have:=h.be;omega);simpa using this
 have c4:=ZG s.nodes h.bn;have c5:=ZH s.tabs (by have:=h.bt;omega) h.bb;have e0:∀n:Nat,((n:Int) != (n:Int))=false:=fun n=>by simp
 have e00:∀n:Int,(n != n)=false:=fun n=>by simp
 refine aZ e0 e00 ?_;refine am c1 ?_;refine bk ?_;refine ahG c2 ?_;refine am c3 ?_;refine aZ e0 e00 ?_;refine am c4 ?_;refine aZ e0 e00 ?_;refine am c5 ?_;refine dQ ?_;have hba:=h.ba;have hbo:=h.bo;refine gon ?_;refine az (fun i:Nat=>[(7,.int .i64 i),(5,.dead),(6,.dead)]) (fun _=>[.var (aE s.a),.var (aE s.a)]) (fun i=>s.early.length-i) (fun i=>i<=s.early.length) 0 (amc _) ?_ ?_
 ·exact ais [] [0,1]
 intro i hi;refine dp ?_;by_cases h1:i<s.early.length
 ·have e1:=inT h1
  have hw:=af h1 WL;have hgd:(rows bp.c s.early).getD i []=cy (gO s.early i).a:=aS (f:=bp.c) default h1;have hm:gO s.early i∈s.early:=bK default h1
  have c6:PC Tryz.prog 96 [.agg (cy (gO s.early i).a),.agg (cy (gO s.early i).a)] (.bool true):=by
   have:=SE (gO s.early i).a (gO s.early i).a (gO s.early i).vals (gO s.early i).vals false false rfl rfl (by have:=h.bv _ hm;omega) (by have:=h.bv _ hm;omega);simpa using this
  refine bw e1 ?_;refine ah hgd ?_;refine aK (c6) ?_;refine dQ ?_;refine ah hw ?_;refine⟨i+1,h1,WL,?_⟩;exact ais [] [0,1]
 ·obtain rfl:i=s.early.length:=WL
  have e1:=inF (s.early.length);clear hi h1;refine aF e1 ?_;refine az (fun i:Nat=>[(8,.int .i64 i),(5,.dead),(6,.dead)]) (fun _=>[.var (aE s.a),.var (aE s.a)]) (fun i=>s.orph.length-i) (fun i=>i<=s.orph.length) 0 (amc _) ?_ ?_
  ·exact ais [] [0,1]
  clear e1;intro i hi;refine dp ?_;by_cases h1:i<s.orph.length
  ·have e1:=inT h1;have hw:=af h1 WL;have hgd:(rows aO s.orph).getD i []=aO (dn s.orph i):=aS (f:=aO) cw h1;refine bw e1 ?_;refine bJ hgd ?_;refine ah hw ?_;refine⟨i+1,h1,WL,?_⟩;exact ais [] [0,1]
  ·obtain rfl:i=s.orph.length:=WL
   have e1:=inF (s.orph.length);refine aF e1 ?_;exact ai
end Go.Proofs.YtmpddimhleianaaGreat
namespace Go.FH
open Go Go.RowKit
def mrt(l:List Rt):List (List AV):=l.map fun r=>[.agg (rtc r),.bool true]
theorem GJ(r:Rt):∀l:List Rt,lT (some 32) (.agg (rtc r)) (mrt l)=some (l.findIdx? fun x=>decide (r=x))
 | []=>rfl
 | a :: m => by
   have c:=GJ r m;simp only[mrt,amE,lT,RE,amt,keq,mh]at c ⊢;grind
theorem D7{r:Rt}{l:List Rt}(h:r∉l):lT (some 32) (.agg (rtc r)) (mrt l)=some none:=by
 rw[GJ,List.findIdx?_eq_none_iff.2 fun x c=>WO]
theorem VF{r:Rt}{l:List Rt}(h:r∈l):∃j,lT (some 32) (.agg (rtc r)) (mrt l)=some (some j)/\((mrt l).getD j []).getD 1 .dead=.bool true/\(mrt l).set j [.agg (rtc r),.bool true]=mrt l:=by
 rw[GJ];cases k:l.findIdx? fun x=>decide (r=x)with
 | none =>
   grind
 | some j =>
   obtain⟨g,d,_⟩:=ak4.1 k;have d:r=l[j]:=WO
   refine⟨j,rfl,?_,?_⟩
   ·simp[mrt,alt,g]
   ·apply alJ
    ·simp
    ·intro i m n;rw[List.getElem_set];split
     ·rename_i f;subst f;simp[mrt,<-d]
     simp
theorem U4(l:List Rt)(r:Rt):mrt l++[[.agg (rtc r),.bool true]]=mrt (l++[r]):=by simp[mrt]
theorem R3(l:List Rt):fy (mrt l):=by
 rw[mf];intro x b;obtain⟨p,_,rfl⟩:=amV.1 b;exact⟨dI p,trivial,trivial⟩
theorem UD(ρ:Nat->Nat)(l:List Rt):bH ρ (mrt l)=mrt l:=(R3 l).ren ρ
theorem UY(σ:St)(zs:List Nat)(l:List Rt):dh σ zs (mrt l)=mrt l:=(R3 l).fz σ zs
attribute [go_sem] UD UY U4
end Go.FH
namespace Go.Proofs.YtmpddimhleianaaGreat
open Go Go.FH Go.RowKit
theorem T9(t:List Nod)(hb:t.length<=2097152):PC Tryz.prog 229 [.agg [.sl 240 false (rows bB t)]] (.int .i64 (nU t)):=by
 refine ae 21 ?_;obtain⟨R,hR⟩:∃R,R=nU t:=⟨_,rfl⟩
 rw[<-hR];unfold nU at hR;by_cases q0:t.length=0
 ·have e0:((t.length:Int)==0)=true:=by simp[q0]
  rw[al7 (.inl q0)]at hR;subst hR;refine aM e0 ?_;exact ai
 have e0:((t.length:Int)==0)=false:=by simp;intro h;exact q0 (by simp[h])
 by_cases q1:4096<t.length
 ·have e1:decide ((t.length:Int) > 4096)=true:=au WL;have e1':decide ((4096:Int)<(t.length:Int))=true:=au WL;rw[al7 (.inr q1)]at hR;subst hR;refine fI e0 e1 e1' ?_;exact ai
 have e1:decide ((t.length:Int) > 4096)=false:=aA WL;have e1':decide ((4096:Int)<(t.length:Int))=false:=aA WL;rw[al5 (fun h=>h.elim q0 q1)]at hR;refine wg e0 e1 e1' ?_;refine az (fun i:Nat=>[(20,.int .i64 i)]) (fun i=>[.var [.sl 240 false (rows bB t)],.map (mrt ((t.take i).map (·.blk.root)))]) (fun i=>t.length-i) (fun i=>i<=t.length/\R=frE (An t) (t.length-i) i) 0 ⟨amc _,hR⟩ ?_ ?_
 ·rw[akk,amR,show mrt []=[]from rfl];exact ais [] [0,1]
 clear hR e0 e1 e1';rintro i ⟨hi,hn⟩;refine dp ?_;by_cases h1:i<t.length
 ·have e1:=inT h1
  have hw:=af h1 WL;have hgd:(rows bB t).getD i []=bB (nod t i):=aS (f:=bB) gr h1;have c1:=UM (nod t i).status
  have hps:(t.take (i+1)).map (·.blk.root)=(t.take i).map (·.blk.root)++[(nod t i).blk.root]:=by
   rw[amY,al6 h1,amN];unfold nod;rw[alt,al6 h1];rfl
  have ht:∀ {v:Int},An t i=v->v≠0->R=v:=fun h0 h2=>by rw[hn,xH h1 (by rw[h0];exact h2),h0]
  have hf:An t i=0->R=frE (An t) (t.length-(i+1)) (i+1):=fun h0=>by rw[hn,xi h1 h0]
  clear hn;have hU:∀k:Nat,(nod t i).up=k->k<i->(rows bB t).getD (nod t i).up.toNat []=bB (nod t (nod t i).up.toNat):=fun k hk hki=>aS (f:=bB) gr WL
  unfold An at ht hf;generalize (t.take i).map (·.blk.root)=m at *;generalize hx:nod t i=x at *;refine bw e1 ?_;refine ah hgd ?_;refine am c1 ?_;by_cases q1:0<=x.status/\x.status<=2
  case neg=>
   have k1:(decide (0<=x.status)&&decide (x.status<=2))=false:=by rw[akJ,ami,ami];omega
   obtain rfl:=ht (al7 q1) WN;refine aM k1 ?_;exact ai
  have k1:(decide (0<=x.status)&&decide (x.status<=2))=true:=by simp[q1]
  rw[al5 (fun h=>h q1)]at ht hf;by_cases qi:i=0
  ·subst qi
   by_cases q2:x.up=-1
   case neg=>
    have k2:(x.up != -1)=true:=by simp[q2]
    obtain rfl:=ht (al7 ⟨rfl,q2⟩) WN;refine cH k1 k2 ?_;exact ai
   have k2:(x.up != -1)=false:=by simp[q2]
   rw[al5 (fun h=>h.2 q2),al5 WL]at ht hf;refine fp k1 k2 ?_;by_cases q3:x.blk.root∈m
   ·obtain⟨j,j1,j2,j3⟩:=VF q3;obtain rfl:=ht (al7 q3) WN;refine cH j1 j2 ?_;exact ai
   have j1:=D7 q3;rw[al5 q3]at ht hf;refine bJ j1 ?_;refine bw j1 ?_;refine ah hw ?_;refine⟨0+1,⟨h1,hf (al7 rfl)⟩,WL,?_⟩;rw[hps];exact ais [] [0,1]
  ·have ki:((i:Int)==0)=false:=by simp;omega
   have kp:decide ((i:Int) > 0)=true:=au WL;have kp':decide ((0:Int)<(i:Int))=true:=au WL;rw[al5 (fun h=>qi h.1)]at ht hf;by_cases q2:x.up<0
   ·have k2:=au q2;obtain rfl:=ht (al7 ⟨WL,.inl q2⟩) WN;refine eU k1 ki kp kp' k2 ?_;refine agF ?_;exact ai
   have k2:=aA q2;by_cases q3:(i:Int)<=x.up
   ·have k3:decide (x.up ≥ (i:Int))=true:=au q3;have k3':decide ((i:Int)<=x.up)=true:=au q3;obtain rfl:=ht (al7 ⟨WL,.inr q3⟩) WN;refine jj k1 ki kp kp' k2 k3 k3' ?_;refine agF ?_;exact ai
   have k3:decide (x.up ≥ (i:Int))=false:=aA q3;have k3':decide ((i:Int)<=x.up)=false:=aA q3;rw[al5 (fun h=>h.2.elim q2 q3)]at ht hf;have hU:=hU x.up.toNat WL WL;have hub:decide (x.up<((t.length:Nat):Int))=true:=au WL;generalize nod t x.up.toNat=y at *;refine jj k1 ki kp kp' k2 k3 k3' ?_;refine aB ?_;by_cases q4:x.blk.root∈m
   ·obtain⟨j,j1,j2,j3⟩:=VF q4;obtain rfl:=ht (al7 q4) WN;refine cH j1 j2 ?_;exact ai
   have j1:=D7 q4;rw[al5 q4,al5 qi]at ht hf;refine bJ j1 ?_;refine fp j1 ki ?_;refine ah hU ?_;by_cases q5:x.blk.parent=y.blk.root
   case neg=>
    have k5:(decide (x.blk.parent=y.blk.root) != true)=true:=by simp[q5]
    obtain rfl:=ht (al7 q5) WN;repeat(first|refine bY ?_|simp only[go_sem,k5,aA q5])
    refine agF ?_;exact ai
   rw[al5 (fun h=>h q5)]at ht hf;repeat(first|refine bY ?_|simp only[go_sem,au q5])
   refine aB ?_;refine ah hU ?_;by_cases q6:x.blk.slot<=y.blk.slot
   ·have k6:=au q6;obtain rfl:=ht (al7 q6) WN;refine aM k6 ?_;exact ai
   have k6:=aA q6;rw[al5 q6]at ht hf;refine bJ k6 ?_;refine ah hw ?_;refine⟨i+1,⟨h1,hf rfl⟩,WL,?_⟩;rw[hps];exact ais [] [0,1]
 ·obtain rfl:i=t.length:=WL
  have e1:=inF (t.length);rw[wd]at hn;subst hn;refine aF e1 ?_;exact ai
theorem S7(t:List Nod)(hb:t.length<=2097152):PC Tryz.prog 137 [.agg [.sl 240 false (rows bB t)]] (.int .i64 (statV t)):=by
 refine ae 17 ?_;have c1:=T9 t hb;obtain⟨R,hR⟩:∃R,R=statV t:=⟨_,rfl⟩
 rw[<-hR];unfold statV at hR;have hok:=fun h=>xu (t:=t) h
 generalize nU t=V at *;refine gon ?_;refine am c1 ?_;by_cases q1:V=0
 case neg=>
  have e1:(V != 0)=true:=by simp[q1]
  rw[al7 q1]at hR;subst hR;refine aM e1 ?_;exact ai
 have e1:(V != 0)=false:=by simp[q1]
 rw[al5 (by simp[q1])]at hR;obtain⟨ht,hl⟩:=hok q1;have hp:=ht.pos;have hb1:decide ((1:Int)<=(t.length:Int))=true:=au WL;have hdl:(rows bB t).drop 1=rows bB (t.drop 1):=by unfold rows;rw[akG]
 have hln:(t.drop 1).length=t.length-1:=WM
 rw[<-hln]at hR;have h1le:(1:Int)<=(t.length:Int):=WL
 have htk:List.take (t.length-1) (rows bB (t.drop 1))=rows bB (t.drop 1):=amf WM;refine bJ e1 ?_;refine aZ hdl htk ?_;refine az (fun i:Nat=>[(16,.int .i64 i)]) (fun i=>[.var [.sl 240 false (rows bB t)]]) (fun i=>(t.drop 1).length-i) (fun i=>i<=(t.drop 1).length/\R=frE (Go.FH.ej t) ((t.drop 1).length-i) i) 0 ⟨amc _,hR⟩ ?_ ?_
 ·exact ais [] [0]
 clear hR e1 hb1;rintro i ⟨hi,hn⟩;refine dp ?_;by_cases h1:i<(t.drop 1).length
 ·have e1:=inT h1
  have hw:=af h1 WL
  have hgd:(rows bB (t.drop 1)).getD i []=bB (nod t (i+1)):=by
   rw[aS (f:=bB) gr h1];unfold nod;rw[alt,alt,ak0,alM]
  have hf0:∀ {v:Int},Go.FH.ej t i=v->v≠0->R=v:=fun h0 h2=>by rw[hn,xH h1 (by rw[h0];exact h2),h0]
  have hf:Go.FH.ej t i=0->R=frE (Go.FH.ej t) ((t.drop 1).length-(i+1)) (i+1):=fun h0=>by rw[hn,xi h1 h0]
  clear hn;obtain⟨u0,u1⟩:=ht.ok (i+1) WL WL;have hU:(rows bB t).getD (nod t (i+1)).up.toNat []=bB (nod t (nod t (i+1)).up.toNat):=aS (f:=bB) gr WL;have hub:decide ((nod t (i+1)).up<((t.length:Nat):Int))=true:=au WL;have hun:decide (0<=(nod t (i+1)).up)=true:=au u0;unfold Go.FH.ej at hf0 hf;generalize nod t (i+1)=x at *;generalize nod t x.up.toNat=y at *;refine bw e1 ?_;refine aZ hgd hU ?_;by_cases q1:x.status=1
  ·have k1:(x.status==1)=true:=by simp[q1]
   by_cases q2:y.status=1
   ·have k2:(y.status != 1)=false:=by simp[q2]
    have k3:(y.status==2)=false:=by simp[q2]
    refine zh k1 k2 k3 ?_;refine ah hw ?_;refine⟨i+1,⟨h1,hf (al5 (by rintro (h|h);exact h.2 q2;have:=h.1;omega))⟩,WL,?_⟩;exact ais [] [0]
   ·have k2:(y.status != 1)=true:=by simp[q2]
    obtain rfl:=hf0 (al7 (.inl ⟨q1,q2⟩)) WN;refine cH k1 k2 ?_;exact ai
  ·have k1:(x.status==1)=false:=by simp[q1]
   by_cases q2:y.status=2
   ·have k2:(y.status==2)=true:=by simp[q2]
    by_cases q3:x.status=2
    ·have k3:(x.status != 2)=false:=by simp[q3]
     refine zh k1 k2 k3 ?_;refine ah hw ?_;refine⟨i+1,⟨h1,hf (al5 (by rintro (h|h);exact q1 h.1;exact h.2 q3))⟩,WL,?_⟩;exact ais [] [0]
    ·have k3:(x.status != 2)=true:=by simp[q3]
     obtain rfl:=hf0 (al7 (.inr ⟨q2,q3⟩)) WN;refine fI k1 k2 k3 ?_;exact ai
   ·have k2:(y.status==2)=false:=by simp[q2]
    refine fp k1 k2 ?_;refine ah hw ?_;refine⟨i+1,⟨h1,hf (al5 (by rintro (h|h);exact q1 h.1;exact q2 h.1))⟩,WL,?_⟩;exact ais [] [0]
 ·obtain rfl:i=(t.drop 1).length:=WL
  have e1:=inF ((t.drop 1).length);rw[wd]at hn;subst hn;refine aF e1 ?_;exact ai
theorem sL(s:ap)(n:Int):PC Tryz.prog 230 [.agg (aE s.a),.int .u64 n] (.int .u64 (kJ n s.cfg.spe).1):=by
 refine ae 7 ?_;have c1:=ae9 n s.cfg.spe;refine gon ?_;refine ahG c1 ?_;exact ai
theorem Uw(s:ap)(hb:s.nodes.length<=2097152)(h0:0<s.nodes.length)(hf:U64 s.f.ep):PC Tryz.prog 138 [.agg (aE s.a)] (.bool (KK s)):=by
 refine ae 6 ?_;obtain⟨R,hR⟩:∃R,R=KK s:=⟨_,rfl⟩
 rw[<-hR];unfold KK at hR;have c1:=zU s.nodes s.j.rt hb;have c2:=H1 s.boost;have c3:=zU s.nodes s.boost hb;have c4:=sL s s.now;have c5:=Fv (e:=s.f.ep) (p:=s.cfg.spe) hf.1 hf.2;have b1:=fM s.nodes s.j.rt;have hg0:(rows bB s.nodes).getD 0 []=bB (nod s.nodes 0):=aS (f:=bB) gr h0;have hgi:0<=aj s.nodes s.j.rt->(rows bB s.nodes).getD (aj s.nodes s.j.rt).toNat []=bB (nod s.nodes (aj s.nodes s.j.rt).toNat):=fun h=>aS (f:=bB) gr WL
 have hb0:decide ((0:Int)<((s.nodes.length:Nat):Int))=true:=au WL;generalize aj s.nodes s.j.rt=I at *;generalize aj s.nodes s.boost=B at *;generalize (kJ s.now s.cfg.spe).1=E at *;generalize dk s.f.ep s.cfg.spe=S at *;generalize nod s.nodes I.toNat=x at *;generalize nod s.nodes 0=y at *;obtain⟨S1,S2⟩:=S;dsimp only at c5 hR;refine gon ?_;refine am c1 ?_;by_cases q1:y.blk.root=s.f.rt
 case neg=>
  have e1:=aA q1;obtain rfl:R=false:=by rw[hR];simp[q1]
  refine cH hg0 e1 ?_;exact ai
 have e1:=au q1;by_cases q2:I<0
 ·have e2:=au q2;obtain rfl:R=false:=by rw[hR,aA (show ¬0<=I by omega)];simp
  refine fI hg0 e1 e2 ?_;exact ai
 have e2:=aA q2;have hgi:=hgi WL;by_cases q3:x.status=2
 ·have e3:(x.status==2)=true:=by simp[q3]
  obtain rfl:R=false:=by rw[hR];simp[q3]
  refine eU hg0 e1 e2 hgi e3 ?_;refine agF ?_;exact ai
 have e3:(x.status==2)=false:=by simp[q3]
 by_cases q4:s.j.ep<s.f.ep
 ·have e4:=au q4;obtain rfl:R=false:=by rw[hR,aA (show ¬s.f.ep<=s.j.ep by omega)];simp
  repeat(first|refine bY ?_|simp only[go_sem,hg0,e1,e2,hgi,e3,e4])
  refine agF ?_;exact ai
 have e4:=aA q4
 have hR:R=(((decide (s.boost=rt0) || decide (0<=B))&&(decide (s.now<=1099511627776)&&decide (s.j.ep<=E)))&&(decide (S2=0)&&decide (y.blk.slot<=S1))):=by
  rw[hR,au (show s.f.ep<=s.j.ep by omega),au (show 0<=I by omega),au q1,au (p:=x.status≠2) q3];simp only[am2]
 repeat(first|refine bY ?_|simp only[go_sem,hg0,e1,e2,hgi,e3,e4])
 refine agE ?_;refine aK (c2) ?_
 have tail:(s.boost=rt0\/0<=B)->R=((decide (s.now<=1099511627776)&&decide (s.j.ep<=E))&&(decide (S2=0)&&decide (y.blk.slot<=S1))):=fun h=>by
  rw[hR];have:(decide (s.boost=rt0) || decide (0<=B))=true:=by simpa using h
  rw[this,am2]
 have now1:decide (s.now > 1099511627776)=decide ((1099511627776:Int)<s.now):=rfl;have jep1:decide (s.j.ep > E)=decide (E<s.j.ep):=rfl;by_cases q5:s.boost=rt0
 ·have e5:=au q5
  have hR:=tail (.inl q5);by_cases q7:1099511627776<s.now
  ·have e7:=au q7;obtain rfl:R=false:=by rw[hR,aA (show ¬s.now<=1099511627776 by omega)];simp
   repeat(first|refine bY ?_|simp only[go_sem,e5,now1,e7])
   refine agF ?_;exact ai
  have e7:=aA q7;rw[au (show s.now<=1099511627776 by omega),am2]at hR;repeat(first|refine bY ?_|simp only[go_sem,e5,now1,e7])
  refine aK (c4) ?_;by_cases q8:E<s.j.ep
  ·have e8:=au q8;obtain rfl:R=false:=by rw[hR,aA (show ¬s.j.ep<=E by omega)];simp
   repeat(first|refine bY ?_|simp only[go_sem,jep1,e8])
   refine agF ?_;exact ai
  have e8:=aA q8;rw[au (show s.j.ep<=E by omega),am2]at hR;repeat(first|refine bY ?_|simp only[go_sem,jep1,e8])
  refine agE ?_;refine am c5 ?_;by_cases q9:S2=0
  ·have e9:(S2==0)=true:=by simp[q9]
   rw[au q9,am2]at hR;subst hR;repeat(first|refine bY ?_|simp only[go_sem,e9,hg0])
   exact ai
  ·have e9:(S2==0)=false:=by simp[q9]
   rw[aA q9,ajq]at hR;subst hR;repeat(first|refine bY ?_|simp only[go_sem,e9,hg0])
   exact ai
 ·have e5:=aA q5
  repeat(first|refine bY ?_|simp only[go_sem,e5])
  refine aK (c3) ?_;by_cases q6:B<0
  ·have e6:=au q6;obtain rfl:R=false:=by rw[hR,aA q5,aA (show ¬0<=B by omega)];simp
   repeat(first|refine bY ?_|simp only[go_sem,e6])
   refine agF ?_;exact ai
  have e6:=aA q6;have hR:=tail (.inr WL);by_cases q7:1099511627776<s.now
  ·have e7:=au q7;obtain rfl:R=false:=by rw[hR,aA (show ¬s.now<=1099511627776 by omega)];simp
   repeat(first|refine bY ?_|simp only[go_sem,e6,now1,e7])
   refine agF ?_;exact ai
  have e7:=aA q7;rw[au (show s.now<=1099511627776 by omega),am2]at hR;repeat(first|refine bY ?_|simp only[go_sem,e6,now1,e7])
  refine aK (c4) ?_;by_cases q8:E<s.j.ep
  ·have e8:=au q8;obtain rfl:R=false:=by rw[hR,aA (show ¬s.j.ep<=E by omega)];simp
   repeat(first|refine bY ?_|simp only[go_sem,jep1,e8])
   refine agF ?_;exact ai
  have e8:=aA q8;rw[au (show s.j.ep<=E by omega),am2]at hR;repeat(first|refine bY ?_|simp only[go_sem,jep1,e8])
  refine agE ?_;refine am c5 ?_;by_cases q9:S2=0
  ·have e9:(S2==0)=true:=by simp[q9]
   rw[au q9,am2]at hR;subst hR;repeat(first|refine bY ?_|simp only[go_sem,e9,hg0])
   exact ai
  ·have e9:(S2==0)=false:=by simp[q9]
   rw[aA q9,ajq]at hR;subst hR;repeat(first|refine bY ?_|simp only[go_sem,e9,hg0])
   exact ai
end Go.Proofs.YtmpddimhleianaaGreat
namespace Go.FH
open Go Go.RowKit
end Go.FH
namespace Go.Proofs.YtmpddimhleianaaGreat
open Go Go.FH Go.RowKit
theorem TU(s:ap)(hb:s.tabs.length<=2097152)(hbb:∀t∈s.tabs,t.bals.length<=2097152)(hu:∀t∈s.tabs,∀x∈t.bals,0<=x/\x<18446744073709551616):
 PC Tryz.prog 139 [.agg (aE s.a)] (.bool (decide (frE (pR s) (s.tabs.length-0) 0=0)&&orN (fun i=>decide ((tab s.tabs i).cp=s.j)) s.tabs.length)):=by
 refine pfn 10 VI ?_;unfold iN;refine bd ?_;obtain⟨F,hF⟩:∃F,F=frE (pR s) (s.tabs.length-0) 0:=⟨_,rfl⟩
 rw[<-hF];refine gon ?_;refine az (fun i:Nat=>[(9,.int .i64 i),(3,.bool (orN (fun i=>decide ((tab s.tabs i).cp=s.j)) i))]) (fun i=>[.var (aE s.a)]) (fun i=>s.tabs.length-i) (fun i=>i<=s.tabs.length/\F=frE (pR s) (s.tabs.length-i) i) 0 ⟨amc _,hF⟩ ?_ ?_
 ·exact ais [] [0]
 clear hF;rintro i ⟨hi,hn⟩;refine dp ?_;by_cases h1:i<s.tabs.length
 ·have e1:=inT h1
  have hw:=af h1 WL;have hgd:(rows aW.c s.tabs).getD i []=ar (tab s.tabs i).a:=aS (f:=aW.c) default h1;have hm:tab s.tabs i∈s.tabs:=bK default h1;have hgp:(rows aW.c s.tabs).getD (i-1) []=ar (tab s.tabs (i-1)).a:=aS (f:=aW.c) default WL;have c1:=YO (tab s.tabs (i-1)) (tab s.tabs i);have c2:=G3 (tab s.tabs i) s.cfg.bals.length (hbb _ hm) (hu _ hm);have hf0:∀ {v:Int},pR s i=v->v≠0->F=v:=fun h0 h2=>by rw[hn,xH h1 (by rw[h0];exact h2),h0]
  have hf:pR s i=0->F=frE (pR s) (s.tabs.length-(i+1)) (i+1):=fun h0=>by rw[hn,xi h1 h0]
  clear hn;unfold pR at hf0 hf;have hor:orN (fun i=>decide ((tab s.tabs i).cp=s.j)) (i+1)=(orN (fun i=>decide ((tab s.tabs i).cp=s.j)) i || decide ((tab s.tabs i).cp=s.j)):=rfl;generalize orN (fun i=>decide ((tab s.tabs i).cp=s.j)) i=W at *;generalize tab s.tabs (i-1)=y at *;generalize tab s.tabs i=x at *;generalize gh x s.cfg.bals.length=V at *;generalize kW y.cp x.cp=C at *;refine bw e1 ?_;by_cases qi:i=0
  ·have ki:decide ((i:Int) > 0)=false:=aA WL
   have ki':decide ((0:Int)<(i:Int))=false:=aA WL;rw[al5 (fun h=>WL)]at hf0 hf;refine dC hgd ki ki' ?_;refine aK (c2) ?_;by_cases q3:V=0
   case neg=>
    have k3:(V != 0)=true:=by simp[q3]
    obtain rfl:=hf0 (al7 q3) WN;refine aM k3 ?_;exact ai
   have k3:(V != 0)=false:=by simp[q3]
   refine bJ k3 ?_;cases W with
   | true =>
     refine ah hw ?_;refine⟨i+1,⟨h1,hf (al5 (by simp[q3]))⟩,WL,?_⟩;rw[hor];exact ais [] [0]
   | false =>
     refine ah hw ?_;refine⟨i+1,⟨h1,hf (al5 (by simp[q3]))⟩,WL,?_⟩;rw[hor];exact ais [] [0]
  ·have ki:decide ((i:Int) > 0)=true:=au WL
   have ki':decide ((0:Int)<(i:Int))=true:=au WL;have kw:IntKind.i64.wrap ((i:Int)-1)=((i-1:Nat):Int):=by rw[aL WL WL];omega
   have kb:decide (((i-1:Nat):Int)<((s.tabs.length:Nat):Int))=true:=au WL;refine fG hgd ki ki' kw kb hgp ?_;refine aK (c1) ?_;by_cases q2:0<=C
   ·have k2:decide (C ≥ 0)=true:=au q2;have k2':decide (0<=C)=true:=au q2;obtain rfl:=hf0 (al7 ⟨WL,q2⟩) WN;refine cH k2 k2' ?_;exact ai
   have k2:decide (C ≥ 0)=false:=aA q2;have k2':decide (0<=C)=false:=aA q2;rw[al5 (fun h=>q2 h.2)]at hf0 hf;refine aZ k2 k2' ?_;refine aK (c2) ?_;by_cases q3:V=0
   case neg=>
    have k3:(V != 0)=true:=by simp[q3]
    obtain rfl:=hf0 (al7 q3) WN;refine aM k3 ?_;exact ai
   have k3:(V != 0)=false:=by simp[q3]
   refine bJ k3 ?_;cases W with
   | true =>
     refine ah hw ?_;refine⟨i+1,⟨h1,hf (al5 (by simp[q3]))⟩,WL,?_⟩;rw[hor];exact ais [] [0]
   | false =>
     refine ah hw ?_;refine⟨i+1,⟨h1,hf (al5 (by simp[q3]))⟩,WL,?_⟩;rw[hor];exact ais [] [0]
 ·obtain rfl:i=s.tabs.length:=WL
  have e1:=inF (s.tabs.length);rw[wd]at hn;subst hn;generalize orN (fun i=>decide ((tab s.tabs i).cp=s.j)) s.tabs.length=W;refine aF e1 ?_;exact ai
theorem Ub(v:Vot):PC Tryz.prog 233 [.agg (al v)] (.bool (!v.has&&decide (v≠dL))):=by
 refine pfn 3 rP ?_;unfold gW;refine bd ?_;cases hh:v.has with
 | true =>
   refine ah hh ?_;exact ai
 | false =>
   by_cases q:v=dL
   ·have e:decide (v=⟨false,0,rt0⟩)=true:=au q;rw[aA (p:=v≠dL) (fun h=>h q)];refine aZ hh e ?_;exact ai
   ·have e:decide (v=⟨false,0,rt0⟩)=false:=aA q;rw[au (p:=v≠dL) q];refine aZ hh e ?_;exact ai
theorem S8(s:ap)(hl:s.latest.length<=2097152)(he:s.eqv.length<=2097152):PC Tryz.prog 140 [.agg (aE s.a)] (.bool (nF s)):=by
 refine ae 4 ?_;unfold nF;have c1:=UX s.latest false 233 (fun i=>!(vot s.latest i).has&&decide (vot s.latest i≠dL)) hl (fun i _=>Ub _);have c2:=tq s.eqv false s.cfg.bals.length WL;generalize (dW (fun i=>!(vot s.latest i).has&&decide (vot s.latest i≠dL)) s.latest.length).isSome=P at *;generalize cE s.eqv s.cfg.bals.length=V at *;refine gon ?_;refine am c1 ?_;cases P with
 | true =>
   refine aX ?_;exact ai
 | false =>
   refine dQ ?_;by_cases q1:(s.latest.length:Int)=s.cfg.bals.length
   case neg=>
    have e1:((s.latest.length:Int)==(s.cfg.bals.length:Int))=false:=by simpa using q1
    rw[aA q1];refine ah e1 ?_;exact ai
   have e1:((s.latest.length:Int)==(s.cfg.bals.length:Int))=true:=by simpa using q1
   rw[au q1];by_cases q2:(s.eqv.length:Int)=0
   ·have e2:((s.eqv.length:Int)==0)=true:=by simpa using q2
    rw[au q2];refine aZ e1 e2 ?_;exact ai
   have e2:((s.eqv.length:Int)==0)=false:=by simpa using q2
   rw[aA q2];refine aZ e1 e2 ?_;refine am c2 ?_;have e3:(V==0)=decide (V=0):=by by_cases h:V=0<;>simp[h]
   refine ah e3 ?_;exact ai
theorem TT(s:ap)(x:Nod):ay Tryz.prog 236 [.agg (bB x),.ptr 0 0] [.var (aE s.a)] (.bool (decide (s.now<x.blk.slot) || !RU s x.blk)) [.var (aE s.a)]:=by
 refine dS 7 ?_;unfold RU;have c1:ay Tryz.prog 230 [.agg (aE s.a),.int .u64 x.blk.slot] [] (.int .u64 (kJ x.blk.slot s.cfg.spe).1) []:=(sL s x.blk.slot).call;have c1:=sL s x.blk.slot;generalize (kJ x.blk.slot s.cfg.spe).1=E at *;have gt:decide (x.blk.slot > s.now)=decide (s.now<x.blk.slot):=rfl;by_cases q0:s.now<x.blk.slot
 ·have e0:=au q0
  rw[e0];by_cases q0:x.blk.fin.ep<=x.blk.just.ep
  case neg=>
   have k0:=aA q0;rw[k0];refine dC gt e0 k0 ?_;exact ahY [] [0]
  have k0:=au q0;rw[k0];by_cases q1:x.blk.just.ep<=x.blk.pul.j.ep
  case neg=>
   have k1:=aA q1;rw[k1];refine pz gt e0 k0 k1 ?_;exact ahY [] [0]
  have k1:=au q1;rw[k1];by_cases q2:x.blk.fin.ep<=x.blk.pul.f.ep
  case neg=>
   have k2:=aA q2;rw[k2];refine eU gt e0 k0 k1 k2 ?_;exact ahY [] [0]
  have k2:=au q2;rw[k2];by_cases q3:x.blk.pul.f.ep<=x.blk.pul.j.ep
  case neg=>
   have k3:=aA q3;rw[k3];refine fG gt e0 k0 k1 k2 k3 ?_;exact ahY [] [0]
  have k3:=au q3;rw[k3];refine fG gt e0 k0 k1 k2 k3 ?_;refine aK (c1) ?_;refine fG gt e0 k0 k1 k2 k3 ?_;exact ahY [] [0]
 ·have e0:=aA q0
  rw[e0];by_cases q0:x.blk.fin.ep<=x.blk.just.ep
  case neg=>
   have k0:=aA q0;rw[k0];refine dC gt e0 k0 ?_;exact ahY [] [0]
  have k0:=au q0;rw[k0];by_cases q1:x.blk.just.ep<=x.blk.pul.j.ep
  case neg=>
   have k1:=aA q1;rw[k1];refine pz gt e0 k0 k1 ?_;exact ahY [] [0]
  have k1:=au q1;rw[k1];by_cases q2:x.blk.fin.ep<=x.blk.pul.f.ep
  case neg=>
   have k2:=aA q2;rw[k2];refine eU gt e0 k0 k1 k2 ?_;exact ahY [] [0]
  have k2:=au q2;rw[k2];by_cases q3:x.blk.pul.f.ep<=x.blk.pul.j.ep
  case neg=>
   have k3:=aA q3;rw[k3];refine fG gt e0 k0 k1 k2 k3 ?_;exact ahY [] [0]
  have k3:=au q3;rw[k3];refine fG gt e0 k0 k1 k2 k3 ?_;refine aK (c1) ?_;refine fG gt e0 k0 k1 k2 k3 ?_;exact ahY [] [0]
theorem S4(s:ap)(hb:s.nodes.length<=2097152):PC Tryz.prog 141 [.agg (aE s.a)] (.bool (wy s)):=by
 refine ae 3 ?_;unfold wy;have c1:=US s.nodes false 236 ⟨aE s.a,s.pul⟩ (fun i=>decide (s.now<(nod s.nodes i).blk.slot) || !RU s (nod s.nodes i).blk) hb (fun i _=>TT s _);generalize (dW (fun i=>decide (s.now<(nod s.nodes i).blk.slot) || !RU s (nod s.nodes i).blk) s.nodes.length).isSome=P at *;refine gon ?_;refine ocg [0] c1 ?_;exact ai
end Go.Proofs.YtmpddimhleianaaGreat
namespace Go.Proofs.YtmpddimhleianaaGreat
open Go Go.FH Go.RowKit
theorem Uy(s:ap)(hn:s.nodes.length<=2097152)(he:s.early.length<=2097152)(ho:s.orph.length<=2097152)(hv:∀a∈s.early,a.vals.length<=2097152)(hf:U64 s.f.ep):PC Tryz.prog 142 [.agg (aE s.a)] (.bool (zV s)):=by
 refine ae 61 ?_;unfold zV;obtain⟨E,hE⟩:∃E,E=frE (eaE s) (s.early.length-0) 0:=⟨_,rfl⟩
 obtain⟨O,hO⟩:∃O,O=frE (qt s) (s.orph.length-0) 0:=⟨_,rfl⟩
 rw[<-hE,<-hO];refine gon ?_;refine az (fun i:Nat=>[(17,.int .i64 i)]) (fun i=>[.var (aE s.a)]) (fun i=>s.early.length-i) (fun i=>i<=s.early.length/\E=frE (eaE s) (s.early.length-i) i) 0 ⟨amc _,hE⟩ ?_ ?_
 ·exact ais [] [0]
 clear hE;rintro i ⟨hi,hE⟩;refine dp ?_;by_cases h1:i<s.early.length
 ·have e1:=inT h1
  have hw:=af h1 WL;have hgd:(rows bp.c s.early).getD i []=cy (gO s.early i).a:=aS (f:=bp.c) default h1;have hm:gO s.early i∈s.early:=bK default h1;have c1:=tq (gO s.early i).vals false s.cfg.bals.length (by have:=hv _ hm;omega);have hf0:∀ {v:Int},eaE s i=v->v≠0->E=v:=fun h0 h2=>by rw[hE,xH h1 (by rw[h0];exact h2),h0]
  have hf1:eaE s i=0->E=frE (eaE s) (s.early.length-(i+1)) (i+1):=fun h0=>by rw[hE,xi h1 h0]
  clear hE;unfold eaE at hf0 hf1;generalize cE (gO s.early i).vals s.cfg.bals.length=V at *;refine bw e1 ?_;refine ah hgd ?_;refine am c1 ?_;by_cases q:V=0
  ·have k:(V != 0)=false:=by simp[q]
   refine bJ k ?_;refine ah hw ?_;refine⟨i+1,⟨h1,hf1 q⟩,WL,?_⟩;exact ais [] [0]
  ·have k:(V != 0)=true:=by simp[q]
   obtain rfl:=hf0 rfl q;rw[aA q,ajq];refine aM k ?_;exact ai
 ·obtain rfl:i=s.early.length:=WL
  have e1:=inF (s.early.length);rw[wd]at hE;subst hE;rw[au rfl,am2];clear hi h1;have c2:=Fv (e:=s.f.ep) (p:=s.cfg.spe) hf.1 hf.2;generalize hS:dk s.f.ep s.cfg.spe=S at *;obtain⟨S1,S2⟩:=S;dsimp only at c2;refine aF e1 ?_;refine ahG c2 ?_;refine az (fun x:Nat×List Rt=>[(46,.int .i64 x.1)]) (fun x=>[.var (aE s.a),.map (mrt x.2)]) (fun x=>s.nodes.length-x.1) (fun x=>x.1<=s.nodes.length/\∀r,r∈x.2↔r∈tn (s.nodes.take x.1)) (0,[]) ⟨amc _,fun r=>by simp[tn]⟩ ?_ ?_
  ·dsimp only;rw[show mrt []=[]from rfl];exact ais [] [0,1]
  clear e1;rintro⟨i,m⟩ ⟨hi,hm⟩;dsimp only at hi hm ⊢;refine dp ?_;by_cases h1:i<s.nodes.length
  ·have e1:=inT h1
   have hw:=af h1 WL;have hgd:(rows bB s.nodes).getD i []=bB (nod s.nodes i):=aS (f:=bB) gr h1
   have hps:tn (s.nodes.take (i+1))=tn (s.nodes.take i)++[(nod s.nodes i).blk.root]:=by
    unfold tn;rw[amY,al6 h1,amN];unfold nod;rw[alt,al6 h1];rfl
   generalize nod s.nodes i=x at *;refine bw e1 ?_;refine ah hgd ?_;by_cases q:x.blk.root∈m
   ·obtain⟨j,j1,j2,j3⟩:=VF q
    refine dC j1 j3 hw ?_;refine⟨(i+1,m),⟨h1,fun r=>?_⟩,by dsimp only;omega,?_⟩
    ·dsimp only;rw[hps,amm,<-hm,amn];exact⟨.inl,fun h=>h.elim id fun h=>h▸q⟩
    ·exact ais [] [0,1]
   ·have j1:=D7 q
    refine aZ j1 hw ?_;refine⟨(i+1,m++[x.blk.root]),⟨h1,fun r=>?_⟩,by dsimp only;omega,?_⟩
    ·dsimp only;rw[hps,amm,amm,<-hm]
    ·exact ais [] [0,1]
  ·obtain rfl:i=s.nodes.length:=WL
   have e1:=inF (s.nodes.length);rw[ajp]at hm;clear hi h1;refine aF e1 ?_;refine az (fun i:Nat=>[(60,.int .i64 i)]) (fun i=>[.var (aE s.a),.map (mrt m),.map (mrt ((s.orph.take i).map (·.root)))]) (fun i=>s.orph.length-i) (fun i=>i<=s.orph.length/\O=frE (qt s) (s.orph.length-i) i) 0 ⟨amc _,hO⟩ ?_ ?_
   ·rw[akk,amR,show mrt []=[]from rfl];exact ais [] [0,1,2]
   clear hO e1;rintro i ⟨hi,hO⟩;refine dp ?_;by_cases h1:i<s.orph.length
   ·have e1:=inT h1
    have hw:=af h1 WL;have hgd:(rows aO s.orph).getD i []=aO (dn s.orph i):=aS (f:=aO) cw h1
    have hps:(s.orph.take (i+1)).map (·.root)=(s.orph.take i).map (·.root)++[(dn s.orph i).root]:=by
     rw[amY,al6 h1,amN];unfold dn;rw[alt,al6 h1];rfl
    have hf0:∀ {v:Int},qt s i=v->v≠0->O=v:=fun h0 h2=>by rw[hO,xH h1 (by rw[h0];exact h2),h0]
    have hf1:qt s i=0->O=frE (qt s) (s.orph.length-(i+1)) (i+1):=fun h0=>by rw[hO,xi h1 h0]
    clear hO;obtain⟨G,hG⟩:∃G,G=frE (qt s) (s.orph.length-(i+1)) (i+1):=⟨_,rfl⟩
    rw[<-hG]at hf1;unfold qt at hf0 hf1;rw[hS]at hf0 hf1;dsimp only at hf0 hf1;have c3:=H1 (dn s.orph i).root;generalize dn s.orph i=x at *;generalize (s.orph.take i).map (·.root)=u at *;refine bw e1 ?_;refine ah hgd ?_;refine am c3 ?_;by_cases q1:x.root=rt0
    ·have k1:=au q1;obtain rfl:=hf0 (al7 q1) WN;refine aM k1 ?_;exact ai
    have k1:=aA q1;rw[al5 q1]at hf0 hf1;by_cases q2:x.root∈m
    ·obtain⟨j,j1,j2,j3⟩:=VF q2;obtain rfl:=hf0 (al7 ((hm _).1 q2)) WN;refine fI k1 j1 j2 ?_;exact ai
    have j1:=D7 q2;rw[al5 (fun h=>q2 ((hm _).2 h))]at hf0 hf1;by_cases q3:x.root∈u
    ·obtain⟨j,l1,l2,l3⟩:=VF q3;obtain rfl:=hf0 (al7 q3) WN;refine nC k1 j1 l1 l2 ?_;exact ai
    have l1:=D7 q3;rw[al5 q3]at hf0 hf1;by_cases q4:x.parent∈m
    ·obtain⟨j,n1,n2,n3⟩:=VF q4;obtain rfl:=hf0 (al7 ((hm _).1 q4)) WN;refine eU k1 j1 l1 n1 n2 ?_;refine agF ?_;exact ai
    have n1:=D7 q4;rw[al5 (fun h=>q4 ((hm _).2 h))]at hf0 hf1;by_cases q5:x.timely=true
    ·have k5:=q5;obtain rfl:=hf0 (al7 q5) WN;refine eU k1 j1 l1 n1 k5 ?_;refine agF ?_;exact ai
    have k5:x.timely=false:=by simpa using q5
    rw[al5 q5]at hf0 hf1;by_cases q6:s.now<x.slot
    ·have k6:=au q6;have k6':decide (x.slot > s.now)=true:=k6;obtain rfl:=hf0 (al7 q6) WN;refine jj k1 j1 l1 n1 k5 k6 k6' ?_;refine agF ?_;exact ai
    have k6:=aA q6;have k6':decide (x.slot > s.now)=false:=k6;rw[al5 q6]at hf0 hf1;by_cases q7:x.slot<=S1
    ·have k7:=au q7;obtain rfl:=hf0 (al7 q7) WN;refine mP k1 j1 l1 n1 k5 k6 k6' k7 ?_;refine agF ?_;exact ai
    have k7:=aA q7;rw[al5 q7]at hf0 hf1;refine mP k1 j1 l1 n1 k5 k6 k6' k7 ?_;refine aB ?_;refine aZ l1 hw ?_;refine⟨i+1,⟨h1,(hf1 rfl).trans hG⟩,WL,?_⟩;rw[hps];exact ais [] [0,1,2]
   ·obtain rfl:i=s.orph.length:=WL
    have e1:=inF (s.orph.length);rw[wd]at hO;subst hO;refine aF e1 ?_;exact ai
theorem UB(s:ap)(h:Qw s):PC Tryz.prog 81 [.agg (aE s.a)] (.int .i64 (oL s)):=by
 refine ae 5 ?_;obtain⟨R,hR⟩:∃R,R=oL s:=⟨_,rfl⟩
 rw[<-hR];unfold oL at hR;have c1:=YQ s.cfg h.bc h.cu;have c2:=S7 s.nodes h.bn
 have hpos:statV s.nodes=0->0<s.nodes.length:=fun h0=>by
  unfold statV at h0;split at h0
  ·rename_i h1;exact absurd h0 h1
  ·rename_i h1;exact(xu (by simpa using h1)).1.pos
 have c3:=fun h0=>Uw s h.bn h0 h.uf
 have c4:=TU s h.bt h.bb h.bu;have c5:=S8 s h.bl h.be;have c6:=S4 s h.bn;have c7:=Uy s h.bn h.ba h.bo h.bv h.uf;generalize ib s.cfg=V1 at *;generalize statV s.nodes=V2 at *;generalize KK s=V3 at *;generalize (decide (frE (pR s) (s.tabs.length-0) 0=0)&&orN (fun i=>decide ((tab s.tabs i).cp=s.j)) s.tabs.length)=V4 at *;generalize nF s=V5 at *;generalize wy s=V6 at *;generalize zV s=V7 at *;refine gon ?_;refine am c1 ?_;by_cases q1:V1=0
 case neg=>
  have k:(V1 != 0)=true:=by simp[q1]
  rw[al7 q1]at hR;subst hR;refine aM k ?_;exact ai
 have k:(V1 != 0)=false:=by simp[q1]
 rw[al5 (by simp[q1])]at hR;refine aF k ?_;refine am c2 ?_;by_cases q2:V2=0
 case neg=>
  have k:(V2 != 0)=true:=by simp[q2]
  rw[al7 q2]at hR;subst hR;refine aM k ?_;exact ai
 have k:(V2 != 0)=false:=by simp[q2]
 rw[al5 (by simp[q2])]at hR;have c3:=c3 (hpos q2);refine bJ k ?_;by_cases q3:s.cfg.lim.node<(s.nodes.length:Int)
 ·have k3:decide ((s.nodes.length:Int) > s.cfg.lim.node)=true:=au q3;have k3':decide (s.cfg.lim.node<(s.nodes.length:Int))=true:=au q3;rw[al7 q3]at hR;subst hR;refine cH k3 k3' ?_;exact ai
 have k3:decide ((s.nodes.length:Int) > s.cfg.lim.node)=false:=aA q3;have k3':decide (s.cfg.lim.node<(s.nodes.length:Int))=false:=aA q3;rw[al5 q3]at hR;by_cases q4:s.cfg.lim.orph<(s.orph.length:Int)
 ·have k4:decide ((s.orph.length:Int) > s.cfg.lim.orph)=true:=au q4;have k4':decide (s.cfg.lim.orph<(s.orph.length:Int))=true:=au q4;rw[al7 q4]at hR;subst hR;refine nC k3 k3' k4 k4' ?_;exact ai
 have k4:decide ((s.orph.length:Int) > s.cfg.lim.orph)=false:=aA q4;have k4':decide (s.cfg.lim.orph<(s.orph.length:Int))=false:=aA q4;rw[al5 q4]at hR;by_cases q5:s.cfg.lim.early<(s.early.length:Int)
 ·have k5:decide ((s.early.length:Int) > s.cfg.lim.early)=true:=au q5;have k5':decide (s.cfg.lim.early<(s.early.length:Int))=true:=au q5;rw[al7 q5]at hR;subst hR;refine fG k3 k3' k4 k4' k5 k5' ?_;refine agF ?_;exact ai
 have k5:decide ((s.early.length:Int) > s.cfg.lim.early)=false:=aA q5;have k5':decide (s.cfg.lim.early<(s.early.length:Int))=false:=aA q5;rw[al5 q5]at hR;by_cases q6:s.cfg.lim.table<(s.tabs.length:Int)
 ·have k6:decide ((s.tabs.length:Int) > s.cfg.lim.table)=true:=au q6;have k6':decide (s.cfg.lim.table<(s.tabs.length:Int))=true:=au q6;rw[al7 q6]at hR;subst hR;refine mP k3 k3' k4 k4' k5 k5' k6 k6' ?_;refine agF ?_;exact ai
 have k6:decide ((s.tabs.length:Int) > s.cfg.lim.table)=false:=aA q6;have k6':decide (s.cfg.lim.table<(s.tabs.length:Int))=false:=aA q6;rw[al5 q6]at hR;refine mP k3 k3' k4 k4' k5 k5' k6 k6' ?_;refine agE ?_;refine am c3 ?_;cases V3 with
 | false =>
   rw[al7 rfl]at hR;subst hR;refine aX ?_;exact ai
 |true=>
 rw[al5 WM]at hR;refine gon ?_;refine am c4 ?_;cases V4 with
 | false =>
   rw[al7 rfl]at hR;subst hR;refine aX ?_;exact ai
 |true=>
 rw[al5 WM]at hR;refine gon ?_;refine am c5 ?_;cases V5 with
 | false =>
   rw[al7 rfl]at hR;subst hR;refine aX ?_;exact ai
 |true=>
 rw[al5 WM]at hR;refine gon ?_;refine am c6 ?_;cases V6 with
 | false =>
   rw[al7 rfl]at hR;subst hR;refine aX ?_;exact ai
 |true=>
 rw[al5 WM]at hR;refine gon ?_;refine am c7 ?_;cases V7 with
 | false =>
   rw[al7 rfl]at hR;subst hR;refine aX ?_;exact ai
 |true=>
 rw[al5 WM]at hR;refine bk ?_;subst hR;exact ai
def mtg(T:List Int):List (List AV):=mns .u64 (T.map fun n=>(n,true))
theorem Sy(n:Int)(T:List Int):lT none (.int .u64 n) (mtg T)=some (T.findIdx? fun x=>x==n):=by
 unfold mtg;rw[sx,List.findIdx?_map];rfl
theorem Vk{n:Int}{T:List Int}(h:n∉T):lT none (.int .u64 n) (mtg T)=some none:=by
 rw[Sy,List.findIdx?_eq_none_iff.2 fun x hx=>by rw[ajL];rintro rfl;exact h hx]
theorem Vg{n:Int}{T:List Int}(h:n∈T):∃j,lT none (.int .u64 n) (mtg T)=some (some j)/\((mtg T).getD j []).getD 1 .dead=.bool true:=by
 rw[Sy];cases hf:T.findIdx? fun x=>x==n with
 | none =>
   rw[List.findIdx?_eq_none_iff]at hf;have:=hf n h;simp at this
 | some j =>
   obtain⟨hj,_,_⟩:=ak4.1 hf;exact⟨j,rfl,by unfold mtg;rw[ad0 _ _ _ (by simpa using hj)];simp⟩
theorem U7(T:List Int)(n:Int):mtg T++[[.int .u64 n,.bool true]]=mtg (T++[n]):=by simp[mtg,mns]
theorem R5(T:List Int):fy (mtg T):=GN _ _
theorem UE(ρ:Nat->Nat)(T:List Int):bH ρ (mtg T)=mtg T:=(R5 T).ren ρ
theorem UZ(σ:St)(zs:List Nat)(T:List Int):dh σ zs (mtg T)=mtg T:=(R5 T).fz σ zs
attribute [go_sem] UE UZ U7
def VM(s:aI)(r:Req)(least:Int)(T:List Int):Bool:=decide (1<=r.tag/\r.tag<s.tag/\r.tag∉T/\least<=r.tries/\r.tries<=1099511627776)
theorem Ge(s:aI)(hn:s.sto.nodes.length<=2097152)(r:Req)(least:Int)(T:List Int):
 ay Tryz.prog 82 [.agg (aV s.a),.agg (aP r),.int .i64 least,.mp 0] [.map (mtg T)] (.bool (VM s r least T&&decide (0<=aj s.sto.nodes r.block))) [.map (mtg (if VM s r least T=true then T++[r.tag]else T))]:=by
 refine dS 9 ?_;have c1:=zU s.sto.nodes r.block hn;generalize aj s.sto.nodes r.block=D at *;unfold VM;by_cases q1:r.tag<1
 ·have e1:=au q1;rw[aA (p:=(1<=r.tag/\_)) (fun h=>WL),ajq,al5 WN];refine aM e1 ?_;exact ahY [] [0]
 have e1:=aA q1;by_cases q2:s.tag<=r.tag
 ·have e2:decide (r.tag ≥ s.tag)=true:=au q2;rw[aA (p:=(1<=r.tag/\_)) (fun h=>WL),ajq,al5 WN];refine cH e1 e2 ?_;exact ahY [] [0]
 have e2:decide (r.tag ≥ s.tag)=false:=aA q2;by_cases q3:r.tag∈T
 ·obtain⟨j,j1,j2⟩:=Vg q3;rw[aA (p:=(1<=r.tag/\_)) (fun h=>h.2.2.1 q3),ajq,al5 WN];refine nC e1 e2 j1 j2 ?_;exact ahY [] [0]
 have j1:=Vk q3;by_cases q4:r.tries<least
 ·have e4:=au q4;rw[aA (p:=(1<=r.tag/\_)) (fun h=>WL),ajq,al5 WN];repeat(first|refine bY ?_|simp only[go_sem,e1,e2,j1,e4])
  refine agF ?_;exact ahY [] [0]
 have e4:=aA q4;by_cases q5:1099511627776<r.tries
 ·have e5:decide (r.tries > 1099511627776)=true:=au q5;have e5':decide (1099511627776<r.tries)=true:=au q5;rw[aA (p:=(1<=r.tag/\_)) (fun h=>WL),ajq,al5 WN];repeat(first|refine bY ?_|simp only[go_sem,e1,e2,j1,e4,e5,e5'])
  refine agF ?_;exact ahY [] [0]
 have e5:decide (r.tries > 1099511627776)=false:=aA q5;have e5':decide (1099511627776<r.tries)=false:=aA q5;rw[au (p:=(1<=r.tag/\_)) ⟨WL,WL,q3,WL,WL⟩,am2,al7 rfl];repeat(first|refine bY ?_|simp only[go_sem,e1,e2,j1,e4,e5,e5'])
 refine aB ?_;refine ah j1 ?_;refine ahG c1 ?_;exact ahY [] [0]
theorem UC (s : aI) (hr : Qw s.sto) (hq : s.reqs.length <= 2097152) (hy : s.rets.length <= 2097152) (R : Int) (hv1 : pN s -> R = 0) (hv2 : ¬ pN s -> R = 2) : Tri Tryz.prog 112 0 (bz.tl 3) (PQ [.tmp 2] (.int .i64 R)) ⟨82, [.dead, .ptr 0 0, .int .i64 0, .int .i64 0, .dead, .dead, .dead, .dead, .dead, .dead, .dead, .dead, .dead, .dead, .dead, .dead, .dead, .dead, .dead, .dead, .dead, .dead, .dead, .dead, .dead, .dead, .dead, .dead, .dead, .dead, .dead, .dead, .dead, .dead, .dead, .dead, .dead, .dead, .dead, .dead, .dead, .dead, .dead, .dead, .dead, .dead, .dead, .dead, .dead, .dead, .dead, .dead, .dead, .dead, .dead, .dead, .dead, .dead, .dead, .dead, .dead, .dead, .dead, .dead, .dead, .dead, .dead, .dead, .dead, .dead, .dead, .dead, .dead, .dead, .dead, .dead, .dead, .dead, .dead, .dead, .dead, .dead], []⟩ [.var (aV s.a)] := by
 unfold bz;refine bd ?_;simp only[ab.tl];refine gon ?_;refine az (fun i:Nat=>[(44,.int .i64 i)]) (fun i=>[.var (aV s.a),.map (mtg ((s.reqs.take i).map (·.tag)))]) (fun i=>s.reqs.length-i) (fun i=>i<=s.reqs.length/\∀k,k<i->okQ s k) 0 ⟨amc _,fun k hk=>absurd hk (aju k)⟩ ?_ ?_
 ·rw[akk,amR,show mtg []=[]from rfl];exact ais [] [0,1]
 rintro i ⟨hi,hk0⟩;refine dp ?_;by_cases h1:i<s.reqs.length
 ·have e1 := inT h1
  have hw:=af h1 WL;have hgd:(rows aP s.reqs).getD i []=aP (bm s.reqs i):=aS (f:=aP) gT h1
  have hps:(s.reqs.take (i+1)).map (·.tag)=(s.reqs.take i).map (·.tag)++[(bm s.reqs i).tag]:=by
   rw[amY,al6 h1,amN];unfold bm;rw[alt,al6 h1];rfl
  have hR:¬okQ s i->R=2:=fun hn=>hv2 fun h=>hn (h.1 i h1)
  obtain⟨C,hC⟩:∃C:Prop,C=okQ s i:=⟨_,rfl⟩
  have hI:okQ s i->C:=by rw[hC];exact id
  unfold okQ at hR hI;have c2:=Ge s hr.bn (bm s.reqs i) 0 ((s.reqs.take i).map (·.tag));by_cases hz0:i=0
  ·have e0:decide ((i:Int) > 0)=false:=aA WL
   have e0':decide (0<(i:Int))=false:=aA WL;have hz:i=0\/(bm s.reqs (i-1)).tag<(bm s.reqs i).tag:=.inl hz0;generalize hT:(s.reqs.take i).map (·.tag)=T at *;generalize hr0:bm s.reqs i=r at *;refine bw e1 ?_;by_cases q2:r.due=0
   case neg=>
    have e2:(r.due != 0)=true:=by simp[q2]
    have:=hR fun h=>q2 h.2.1
    subst this;refine eU e1 e0 e0' hgd e2 ?_;refine agF ?_;exact ai
   have e2:(r.due != 0)=false:=by simp[q2]
   by_cases q3:(VM s r 0 T&&decide (0<=aj s.sto.nodes r.block))=true
   ·have q4:=q3
    rw[amk]at q4;have q5:=q4.1;unfold VM at q5;rw[amg]at q4 q5;rw[q3,al7 q4.1]at c2;refine eU e1 e0 e0' hgd e2 ?_;refine dce [1] c2 ?_;refine dQ ?_;refine ah hw ?_;refine⟨i+1,⟨h1,fun k hk=>?_⟩,WL,?_⟩
    ·by_cases hki:k=i
     ·subst hki;rw[<-hC];exact hI ⟨hz,q2,⟨q5.1,q5.2.1,q5.2.2.2.1,q5.2.2.2.2,q4.2⟩,q5.2.2.1⟩
     ·exact hk0 k WL
    ·rw[hps];exact ais [] [0,1]
   ·have:=hR fun h=>q3 (by
     obtain⟨_,_,⟨u1,u2,u3,u4,u5⟩,u6⟩:=h;rw[amk,amg];refine⟨?_,u5⟩;unfold VM;exact au ⟨u1,u2,u6,u3,u4⟩)
    subst this;rw[amZ]at q3;rw[q3]at c2;refine eU e1 e0 e0' hgd e2 ?_;refine dce [1] c2 ?_;refine aX ?_;exact ai
  have e0:decide ((i:Int) > 0)=true:=au WL;have e0':decide (0<(i:Int))=true:=au WL;have hw1:IntKind.i64.wrap ((i:Int)-1)=((i-1:Nat):Int):=by rw[aL WL WL];omega
  have hgp:(rows aP s.reqs).getD (i-1) []=aP (bm s.reqs (i-1)):=aS (f:=aP) gT WL;have hlt:i-1<s.reqs.length:=WL
  have hltI:((i-1:Nat):Int)<((s.reqs.length:Nat):Int):=WL
  generalize hp0:bm s.reqs (i-1)=p at *;generalize hT:(s.reqs.take i).map (·.tag)=T at *;generalize hr0:bm s.reqs i=r at *;refine bw e1 ?_;by_cases q1:p.tag<r.tag
  case neg=>
   have e3:decide (r.tag<=p.tag)=true:=au WL;have:=hR fun h=>q1 (h.1.resolve_left hz0)
   subst this;refine Vp e1 e0 e0' hgd hw1 hgp hlt hltI e3 ?_;refine agF ?_;exact ai
  have e3:decide (r.tag<=p.tag)=false:=aA WL;have hz:i=0\/p.tag<r.tag:=.inr q1;by_cases q2:r.due=0
  case neg=>
   have e2:(r.due != 0)=true:=by simp[q2]
   have:=hR fun h=>q2 h.2.1
   subst this;refine TS e1 e0 e0' hgd hw1 hgp hlt hltI e3 e2 ?_;refine agF ?_;exact ai
  have e2:(r.due != 0)=false:=by simp[q2]
  by_cases q3:(VM s r 0 T&&decide (0<=aj s.sto.nodes r.block))=true
  ·have q4:=q3
   rw[amk]at q4;have q5:=q4.1;unfold VM at q5;rw[amg]at q4 q5;rw[q3,al7 q4.1]at c2;refine TS e1 e0 e0' hgd hw1 hgp hlt hltI e3 e2 ?_;refine dce [1] c2 ?_;refine dQ ?_;refine ah hw ?_;refine⟨i+1,⟨h1,fun k hk=>?_⟩,WL,?_⟩
   ·by_cases hki:k=i
    ·subst hki;rw[<-hC];exact hI ⟨hz,q2,⟨q5.1,q5.2.1,q5.2.2.2.1,q5.2.2.2.2,q4.2⟩,q5.2.2.1⟩
    ·exact hk0 k WL
   ·rw[hps];exact ais [] [0,1]
  ·have:=hR fun h=>q3 (by
    obtain⟨_,_,⟨u1,u2,u3,u4,u5⟩,u6⟩:=h;rw[amk,amg];refine⟨?_,u5⟩;unfold VM;exact au ⟨u1,u2,u6,u3,u4⟩)
   subst this;rw[amZ]at q3;rw[q3]at c2;refine TS e1 e0 e0' hgd hw1 hgp hlt hltI e3 e2 ?_;refine dce [1] c2 ?_;refine aX ?_;exact ai
 ·obtain rfl:i=s.reqs.length:=WL
  have e1:=inF s.reqs.length;have hQ:=hk0;rw[ajp];refine aF e1 ?_;refine az (fun i:Nat=>[(81,.int .i64 i)]) (fun i=>[.var (aV s.a),.map (mtg (s.reqs.map (·.tag)++(s.rets.take i).map (·.tag)))]) (fun i=>s.rets.length-i) (fun i=>i<=s.rets.length/\∀k,k<i->okY s k) 0 ⟨amc _,fun k hk=>absurd hk (aju k)⟩ ?_ ?_
  ·rw[akk,amR,amo];exact ais [] [0,1]
  rintro i ⟨hi,hk0⟩;refine dp ?_;by_cases h1:i<s.rets.length
  ·have e1 := inT h1
   have hw:=af h1 WL;have hgd:(rows aP s.rets).getD i []=aP (bm s.rets i):=aS (f:=aP) gT h1
   have hps:s.reqs.map (·.tag)++(s.rets.take (i+1)).map (·.tag)=s.reqs.map (·.tag)++(s.rets.take i).map (·.tag)++[(bm s.rets i).tag]:=by
    rw[amY,al6 h1,amN];unfold bm;rw[alt,al6 h1];rw[amd];rfl
   have hR:¬okY s i->R=2:=fun hn=>hv2 fun h=>hn (h.2 i h1)
   obtain⟨C,hC⟩:∃C:Prop,C=okY s i:=⟨_,rfl⟩
   have hI:okY s i->C:=by rw[hC];exact id
   unfold okY at hR hI;have c2:=Ge s hr.bn (bm s.rets i) 1 (s.reqs.map (·.tag)++(s.rets.take i).map (·.tag));by_cases hz0:i=0
   ·have e0:decide ((i:Int) > 0)=false:=aA WL
    have e0':decide (0<(i:Int))=false:=aA WL;have hz:i=0\/gC (bm s.rets (i-1)) (bm s.rets i)=true:=.inl hz0;generalize hT:s.reqs.map (·.tag)++(s.rets.take i).map (·.tag)=T at *;generalize hr0:bm s.rets i=r at *;refine bw e1 ?_;by_cases q2:r.due<1
    ·have e2:=au q2;have:=hR fun h=>absurd h.2.1 WL
     subst this;refine eU e1 e0 e0' hgd e2 ?_;refine agF ?_;exact ai
    have e2:=aA q2;by_cases q3:(VM s r 1 T&&decide (0<=aj s.sto.nodes r.block))=true
    ·have q4:=q3
     rw[amk]at q4;have q5:=q4.1;unfold VM at q5;rw[amg]at q4 q5;rw[q3,al7 q4.1]at c2;refine eU e1 e0 e0' hgd e2 ?_;refine dce [1] c2 ?_;refine dQ ?_;refine ah hw ?_;refine⟨i+1,⟨h1,fun k hk=>?_⟩,WL,?_⟩
     ·by_cases hki:k=i
      ·subst hki;rw[<-hC];exact hI ⟨hz,WL,⟨q5.1,q5.2.1,q5.2.2.2.1,q5.2.2.2.2,q4.2⟩,q5.2.2.1⟩
      ·exact hk0 k WL
     ·rw[hps];exact ais [] [0,1]
    ·have:=hR fun h=>q3 (by
      obtain⟨_,_,⟨u1,u2,u3,u4,u5⟩,u6⟩:=h;rw[amk,amg];refine⟨?_,u5⟩;unfold VM;exact au ⟨u1,u2,u6,u3,u4⟩)
     subst this;rw[amZ]at q3;rw[q3]at c2;refine eU e1 e0 e0' hgd e2 ?_;refine dce [1] c2 ?_;refine aX ?_;exact ai
   have e0:decide ((i:Int) > 0)=true:=au WL;have e0':decide (0<(i:Int))=true:=au WL;have hw1:IntKind.i64.wrap ((i:Int)-1)=((i-1:Nat):Int):=by rw[aL WL WL];omega
   have hgp:(rows aP s.rets).getD (i-1) []=aP (bm s.rets (i-1)):=aS (f:=aP) gT WL;have hlt:i-1<s.rets.length:=WL
   have hltI:((i-1:Nat):Int)<((s.rets.length:Nat):Int):=WL
   have c3:=ab0 (bm s.rets (i-1)) (bm s.rets i);generalize hp0:bm s.rets (i-1)=p at *;generalize hT:s.reqs.map (·.tag)++(s.rets.take i).map (·.tag)=T at *;generalize hr0:bm s.rets i=r at *;refine bw e1 ?_;by_cases q1:gC p r=true
   case neg=>
    have e3:=abZ p r;rw[amZ]at q1;rw[q1]at e3;have:=hR fun h=>absurd (h.1.resolve_left hz0) (by rw[q1];decide)
    subst this;generalize orI [xX p.due r.due,xX p.tag r.tag]=O at *;refine mP e1 e0 e0' hgd hw1 hgp hlt hltI ?_;refine aK (c3) ?_;refine aM e3 ?_;exact ai
   have e3:=abZ p r;rw[q1]at e3;have hz:i=0\/gC p r=true:=.inr q1;generalize orI [xX p.due r.due,xX p.tag r.tag]=O at *;by_cases q2:r.due<1
   ·have e2:=au q2;have:=hR fun h=>absurd h.2.1 WL
    subst this;refine mP e1 e0 e0' hgd hw1 hgp hlt hltI ?_;refine aK (c3) ?_;refine cH e3 e2 ?_;exact ai
   have e2:=aA q2;by_cases q3:(VM s r 1 T&&decide (0<=aj s.sto.nodes r.block))=true
   ·have q4:=q3
    rw[amk]at q4;have q5:=q4.1;unfold VM at q5;rw[amg]at q4 q5;rw[q3,al7 q4.1]at c2;refine mP e1 e0 e0' hgd hw1 hgp hlt hltI ?_;refine aK (c3) ?_;refine aZ e3 e2 ?_;refine dce [1] c2 ?_;refine dQ ?_;refine ah hw ?_;refine⟨i+1,⟨h1,fun k hk=>?_⟩,WL,?_⟩
    ·by_cases hki:k=i
     ·subst hki;rw[<-hC];exact hI ⟨hz,WL,⟨q5.1,q5.2.1,q5.2.2.2.1,q5.2.2.2.2,q4.2⟩,q5.2.2.1⟩
     ·exact hk0 k WL
    ·rw[hps];exact ais [] [0,1]
   ·have:=hR fun h=>q3 (by
     obtain⟨_,_,⟨u1,u2,u3,u4,u5⟩,u6⟩:=h;rw[amk,amg];refine⟨?_,u5⟩;unfold VM;exact au ⟨u1,u2,u6,u3,u4⟩)
    subst this;rw[amZ]at q3;rw[q3]at c2;refine mP e1 e0 e0' hgd hw1 hgp hlt hltI ?_;refine aK (c3) ?_;refine aZ e3 e2 ?_;refine dce [1] c2 ?_;refine aX ?_;exact ai
  ·obtain rfl:i=s.rets.length:=WL
   have e1:=inF s.rets.length;have:=hv1 ⟨hQ,hk0⟩;subst this;refine aF e1 ?_;exact ai
theorem Ua(s:aI)(hr:Qw s.sto)(hq:s.reqs.length<=2097152)(hy:s.rets.length<=2097152):PC Tryz.prog 39 [.agg (aV s.a)] (.int .i64 (valA s)):=by
 have hend:=UC s hr hq hy;refine pfn 82 VQ ?_;have hc:bz=.seq bz.hd (.seq (bz.tl 1).hd (.seq (bz.tl 2).hd (bz.tl 3))):=rfl;rw[hc];clear hc;generalize bz.tl 3=cT at *;unfold bz;refine bd ?_;simp only[ab.tl,ab.hd];have c1:=UB s.sto hr;unfold valA;generalize oL s.sto=V at *;by_cases q1:V=0
 case neg=>
  have e1:(V != 0)=true:=by simp[q1]
  rw[al7 q1];refine gon ?_;refine am c1 ?_;refine aM e1 ?_;exact ai
 subst q1;rw[al5 WN];refine gon ?_;refine am c1 ?_;refine dQ ?_;obtain⟨R,hR0⟩:∃R,R=LP s:=⟨_,rfl⟩
 rw[<-hR0];unfold LP at hR0;by_cases q2:s.tag<1
 ·have e2:=au q2;rw[al7 (.inl q2)]at hR0;subst hR0;refine aM e2 ?_;exact ai
 have e2:=aA q2;by_cases q3:s.sto.cfg.lim.retry<s.rets.length
 ·have e3:decide (((s.rets.length:Nat):Int) > s.sto.cfg.lim.retry)=true:=au q3;rw[al7 (.inr (.inl q3))]at hR0;subst hR0;refine cH e2 e3 ?_;exact ai
 have e3:decide (((s.rets.length:Nat):Int) > s.sto.cfg.lim.retry)=false:=aA q3;by_cases q4:s.sent=false/\s.last≠fS
 ·have e4:=q4.1;have e5:decide (s.last=(⟨rt0,rt0,rt0⟩:Cmd))=false:=aA q4.2;rw[al7 (.inr (.inr q4))]at hR0;subst hR0;repeat(first|refine bY ?_|simp only[go_sem,e2,e3,e4,e5])
  refine agF ?_;exact ai
 have hn:¬ (s.tag<1\/s.sto.cfg.lim.retry<s.rets.length\/(s.sent=false/\s.last≠fS)):=fun h=>h.elim q2 fun h=>h.elim q3 q4
 rw[al5 hn]at hR0;have hv1:pN s->R=0:=fun h=>by rw[hR0,al7 h]
 have hv2:¬pN s->R=2:=fun h=>by rw[hR0,al5 h]
 clear hR0;have hend:=hend R hv1 hv2;by_cases q5:s.sent=true
 ·refine wg e2 e3 q5 ?_;refine eg ?_ hend;exact ais [] [0]
 ·have e4:s.sent=false:=by simpa using q5
  have e5:decide (s.last=(⟨rt0,rt0,rt0⟩:Cmd))=true:=au (alC fun h=>q4 ⟨e4,h⟩);repeat(first|refine bY ?_|simp only[go_sem,e2,e3,e4,e5])
  refine agE ?_;refine eg ?_ hend;exact ais [] [0]
end Go.Proofs.YtmpddimhleianaaGreat
namespace Go.Proofs.YtmpddimhleianaaGreat
open Go Go.FH
def AY:ab:=(sR [wZ 2 252 0,wZ 3 252 1,wS 4 false]
(sR [fA 5 0 2,lA 6 150 5,fA 7 0 3,lA 8 150 7,kB 9 46 6 8,om 10 9,wB 11 150 2 10,wD 12 1 11 10,wB 13 150 3 10,wD 14 1 13 10,wY 15 47 12 14 10,wN 16 10 15,om 17 16,wB 18 151 2 17,wD 19 1 18 17,wB 20 151 3 17,wD 21 1 20 17,wY 22 47 19 21 17,wN 23 17 22,om 24 23,wB 25 152 2 24,wD 26 1 25 24,wB 27 152 3 24,wD 28 1 27 24,wJ 29 .eql 26 28 24,wN 30 24 29,om 31 30,wB 32 153 2 31,wD 33 1 32 31,wB 34 153 3 31,wD 35 1 34 31,og 36 (.eqv 0 false (.t 33) (.t 35)) 31 true,wN 37 31 36,om 38 37,wB 39 154 2 38,wF 40 96 39 38,wB 41 154 3 38,wF 42 96 41 38,og 43 (.eqa [(96,1)] false (.t 40) (.t 42)) 38 true,wN 44 38 43,om 45 44,wB 46 250 2 45,wD 47 1 46 45,wB 48 250 3 45,wD 49 1 48 45,og 50 (.eqv 0 false (.t 47) (.t 49)) 45 true,wN 51 45 50,om 52 51,wB 53 251 2 52,wD 54 1 53 52,wB 55 251 3 52,wD 56 1 55 52,og 57 (.eqv 0 false (.t 54) (.t 56)) 52 true,wN 58 52 57,om 4 58]
.ret))
theorem OR:aJ Tryz.prog 15=some (59,[.tmp 4],AY):=by kernel_rfl
def mG:ab:=(sR [wS 4 false]
(.seq (sR [om 6 0,lN 7 6,om 8 1,lN 9 8,bI 10 .neq 7 9]
(cN 10
(sR [wS 4 false]
.ret)
.skip))
(.seq (sR [wR 5 0]
(.block 0 (.loop (.seq (sR [om 11 5,om 12 0,lN 13 12,bI 14 .lss 11 13]
(cN 14
.skip
(.exit 0)))
(.seq (.block 1 (.seq (.dreg [(om 17 0,0),(om 18 5,0),(iX 19 35 17 18,3),(lA 20 35 19,7),(om 21 1,0),(om 22 5,0),(iX 23 35 21 22,48),(lA 24 35 23,112),(oo 25 (.eqa [(35,1)] true (.t 20) (.t 24)),255)])
(cN 25
(sR [wS 4 false]
.ret)
.skip)))
(.reg [om 15 5,bC 16 .add 15 (ci 1),om 5 16]))))))
(sR [wS 4 true]
.ret))))
theorem vR:aJ Tryz.prog 47=some (26,[.tmp 4],mG):=by kernel_rfl
def eY:ab:=(sR [wS 4 false]
(.seq (sR [om 6 0,lN 7 6,om 8 1,lN 9 8,bI 10 .neq 7 9]
(cN 10
(sR [wS 4 false]
.ret)
.skip))
(.seq (sR [wR 5 0]
(.block 0 (.loop (.seq (sR [om 11 5,om 12 0,lN 13 12,bI 14 .lss 11 13]
(cN 14
.skip
(.exit 0)))
(.seq (.block 1 (.seq (.dreg [(om 17 0,0),(om 18 5,0),(iX 19 96 17 18,3),(lA 20 96 19,7),(om 21 1,0),(om 22 5,0),(iX 23 96 21 22,48),(lA 24 96 23,112),(oo 25 (.eqa [(96,1)] true (.t 20) (.t 24)),255)])
(cN 25
(sR [wS 4 false]
.ret)
.skip)))
(.reg [om 15 5,bC 16 .add 15 (ci 1),om 5 16]))))))
(sR [wS 4 true]
.ret))))
theorem lq:aJ Tryz.prog 16=some (26,[.tmp 4],eY):=by kernel_rfl
end Go.Proofs.YtmpddimhleianaaGreat
namespace Go.Proofs.YtmpddimhleianaaGreat
open Go Go.FH Go.RowKit
theorem UR(cl:Bool)(l:List Cmd)(hl:l.length<=2097152):ay Tryz.prog 59 [.sl 96 cl (rows AZ l)] [] (.hs 96 0 0 l.length) [.vec 96 (rows AZ l)]:=by
 refine dS 3 ?_;refine gon ?_;refine fun b hb=>?_
 cases b with
 | true =>
   have h0:l=[]:=by simpa[rows,aH]using hb rfl
   subst h0;refine Ff ?_;refine tp (qN ?_);refine ue ?_;refine jx 2 96 ?_;simp only[go_sem];refine gon ?_;exact ahY [] [0]
 | false =>
   refine bk ?_;exact ahY [] [0]
theorem Nw(l:List Req)(hl:l.length<=2097152):PC Tryz.prog 47 [.sl 35 false (rows aP l),.sl 35 false (rows aP l)] (.bool true):=by
 refine pfn 6 vR ?_;unfold mG;refine bd ?_;have e0:((l.length:Int) != (l.length:Int))=false:=WM
 repeat(first|refine bY ?_|omega)
 refine agE ?_;refine az (fun i:Nat=>[(5,.int .i64 i)]) (fun _=>[]) (fun i=>l.length-i) (fun i=>i<=l.length) 0 (amc _) ?_ ?_
 ·exact ais [] []
 intro i hi;refine dp ?_;by_cases h1:i<l.length
 ·have e1:=inT h1;have hw:=af h1 WL;have hgd:(rows aP l).getD i []=aP (bm l i):=aS (f:=aP) gT h1;refine bw e1 ?_;repeat(first|refine bY ?_|simp_all)
  refine aB ?_;repeat(first|refine bY ?_|simp_all)
  refine⟨i+1,h1,WL,?_⟩;exact ais [] []
 ·obtain rfl:i=l.length:=WL
  have e1:=inF (l.length);refine aF e1 ?_;exact ai
theorem Fq(s:aI)(h:afM s.sto)(f:s.reqs.length<=2097152)(d:s.rets.length<=2097152):PC Tryz.prog 15 [.agg (aV s.a),.agg (aV s.a)] (.bool true):=by
 refine pfn 5 OR ?_;unfold AY;refine bd ?_;have g:=Vh s.sto h;have i:=Nw s.reqs f;have e:=Nw s.rets d;refine gon ?_;refine ahG g ?_;refine ahG i ?_;refine am e ?_;repeat(first|refine bY ?_|omega)
 exact ai
theorem GQ.sam{s:aI}(h:GQ s):afM s.sto:=by
 have r:=h.hr;exact⟨r.bn,r.bl,r.be,r.bt,r.bb,r.bo,r.ba,r.bv,r.bc⟩
theorem rN(l:List Cmd)(hl:l.length<=2097152):PC Tryz.prog 16 [.sl 96 false (rows AZ l),.sl 96 false (rows AZ l)] (.bool true):=by
 refine pfn 6 lq ?_;unfold eY;refine bd ?_;refine nx fun _=>?_
 refine BA l.length (fun i=>[(5,.int .i64 i)]) (fun _=>[]) (fun i h1 hw h2=>?_) (fun h=>?_)
 ·have hgd:=aS (f:=AZ) fS h1;exact aw
 ·exact aw
theorem Ve(s:aI)(h:CpA s)(c0:PC Tryz.prog 39 [.agg (aV s.a)] (.int .i64 0)):
 ay Tryz.prog 38 [.agg (aV s.a)] [] (.tup [.ptr 0 0,.int .i64 0]) [.var (aV s.a++[.sl 0 true []])]:=by
 refine dS 14 ?_;have c1:=pC s h;have hsp:∀a:List AV,spl a 0 (aV s.a)=aV s.a++a.drop 252:=fun a=>by simp[spl,wq]
 refine nx fun _=>?_
 exact ahY [] [1]
theorem U3(n:Int):0<=lI .i64 n 16777215/\lI .i64 n 16777215<16777216:=by
 unfold lI
 have h:(BitVec.ofInt IntKind.i64.bits n &&& BitVec.ofInt IntKind.i64.bits 16777215).toNat<=16777215:=by
  rw[alc];exact ams WE WN
 rw[aL WL WL];omega
theorem Vc(a:Sta):(aV a++[AV.sl 0 true []]).getD 252 .dead=.sl 0 true []:=by simp[alt,aj2,wq]
theorem Vd(a:Sta)(v w:AV):(aV a++[v]).set 252 w=aV a++[w]:=by simp[akf,wq]
theorem Vb(s:aI):ay Tryz.prog 28 [.ptr 0 0] [.var (aV s.a++[.sl 0 true []])] (.sl 96 false (rows AZ [])) [.var (aV s.a++[.sl 0 true []])]:=by
 refine dS 3 ?_;have c1:PC Tryz.prog 59 [.sl 96 false (rows AZ [])] (.sl 96 false (rows AZ [])):=(UR false [] (amc _)).pc puA puA (by exact evd);refine nx fun _=>?_
 refine pG c1 ⟨Wk.empty _ _ _,trivial⟩ ⟨trivial,trivial⟩ ?_;exact aw
def rsB(f:aI×Int×Int->VOp)(m:List Int)(s:aI):Nat->aI×List Cmd
 |0=>(s,[])
 |i+1=>((kl (rsB f m s i).1 (f ((rsB f m s i).1,60+(i:Int),lI .i64 (m.getD i 0) 16777215))).1,(rsB f m s i).2++(kl (rsB f m s i).1 (f ((rsB f m s i).1,60+(i:Int),lI .i64 (m.getD i 0) 16777215))).2.1)
theorem UN(l:List Cmd)(hl:l.length<=2097152):ay Tryz.prog 16 [.sl 96 false (rows AZ l),.hs 96 0 0 l.length] [.vec 96 (rows AZ l)] (.bool true) [.vec 96 (rows AZ l)]:=by
 refine ay.lend rfl ?_;have ht:List.take l.length (rows AZ l)=rows AZ l:=amf WM;(try simp only[go_sem,ht,al8,ama,ake,ako])
 exact rN l hl
theorem U9(s:aI)(x:VOp):xf s [x]=((kl s x).1,[(kl s x).2.2],(kl s x).2.1):=rfl
theorem pc_EngineRestores(l:List Int)(hl:l.length<=maxLen)(hwl:∀z∈l,(Lit.int .i64 z).wf=true)(m:List Int)(hm:m.length<=maxLen)(hwm:∀z∈m,(Lit.int .i64 z).wf=true):PC Tryz.prog 10 [.sl 1 false (aH .i64 l),.sl 1 false (aH .i64 m)] (.bool true):=by
 have ca:=sM;obtain⟨s,hg,cs⟩:=EW l
 have hop:∀y:aI×Int×Int,∃x:VOp,(∃i,i<=34/\j6 y.1 i)->0<=y.2.1->y.2.1<=99->0<=y.2.2->OpG x/\PC Tryz.prog 19 [.agg (aV y.1.a),.int .i64 y.2.1,.int .i64 y.2.2] (.agg (dj x.a)):=fun y=>by
  by_cases h:(∃i,i<=34/\j6 y.1 i)/\0<=y.2.1/\y.2.1<=99/\0<=y.2.2
  ·obtain⟨⟨i,h1,h2⟩,h3,h4,h5⟩:=h;obtain⟨x,hx⟩:=Iv y.1 i h2.a h2.a.sto.cfg.tt y.2.1 y.2.2 h5 h3 h4 h1;exact⟨x,fun _ _ _ _=>hx⟩
  ·exact⟨default,fun a b c d=>absurd ⟨a,b,c,d⟩ h⟩
 obtain⟨f,hf⟩:=Classical.axiomOfChoice hop
 have hI:∀i,i<=8->j6 (rsB f m s i).1 (24+i)/\(rsB f m s i).2.length<=i:=by
  intro i;induction i with
  |zero=>exact fun _=>⟨hg,amb _⟩
  | succ i ih =>
    intro hi;obtain⟨h1,h2⟩:=ih WL;have hx:=(hf ((rsB f m s i).1,60+(i:Int),lI .i64 (m.getD i 0) 16777215) ⟨24+i,WL,h1⟩ (by dsimp only;omega) (by dsimp only;omega) (U3 _).1).1;refine⟨h1.step WL hx,?_⟩;show ((rsB f m s i).2++_).length<=_
    have:=qD (rsB f m s i).1 (f ((rsB f m s i).1,60+(i:Int),lI .i64 (m.getD i 0) 16777215));rw[akC];omega
 have cv:=Ua s (ahn hg.a.sto hg.b) (by have:=hg.a.rq;omega) (by have:=hg.a.yl;omega);rw[hg.valA]at cv;have c1:=Ve s hg.cp cv;have c2:=Vb s;refine ae 16 ?_;refine nx fun _=>?_
 refine oce [] c1 ?_;refine nx fun _=>?_
 refine oce [1] c2 ?_;refine nx fun _=>?_
 refine pS 1 252 96 ?_ WQ (by exact Vc _);refine nx fun _=>?_
 refine jx 9 96 ?_;simp only[go_sem];have es:=Vd s.a;refine nx fun _=>?_
 have e0:rsB f m s 0=(s,[]):=rfl;refine az (fun i=>[(9,.hs 96 4 0 (rsB f m s i).2.length),(10,.int .i64 (i:Nat)),(11,.dead),(12,.dead),(13,.dead),(14,.dead),(15,.dead)]) (fun i=>[.var (aV s.a),.var (aV (rsB f m s i).1.a++[.hs 96 3 0 (rsB f m s i).2.length]),.var (aV (rsB f m s i).1.a),.vec 96 (rows AZ (rsB f m s i).2),.vec 96 (rows AZ (rsB f m s i).2)]) (fun i=>8-i) (fun i=>i<=8/\i<=m.length) 0 ⟨WN,amc _⟩ ?_ ?_
 ·exact aw
 clear es e0 c1 c2 cv cs;rintro i ⟨h8,hm2⟩;obtain⟨hg1,hc1⟩:=hI i h8;by_cases hi:i<m.length/\i<8
 ·obtain⟨h1,h2⟩:=hi
  have h3:(i:Int)<m.length:=WL
  have h4:(i:Int)<8:=WL
  have hw:=af h2 WN;have hw2:IntKind.i64.wrap (60+(i:Int))=60+(i:Int):=aL WL WL;have hgd:=gdn (k:=.i64) h1;have hr:rsB f m s (i+1)=((kl (rsB f m s i).1 (f ((rsB f m s i).1,60+(i:Int),lI .i64 (m.getD i 0) 16777215))).1,(rsB f m s i).2++(kl (rsB f m s i).1 (f ((rsB f m s i).1,60+(i:Int),lI .i64 (m.getD i 0) 16777215))).2.1):=rfl;obtain⟨hx,cx⟩:=hf ((rsB f m s i).1,60+(i:Int),lI .i64 (m.getD i 0) 16777215) ⟨24+i,WL,hg1⟩ (by dsimp only;omega) (by dsimp only;omega) (U3 _).1;dsimp only at cx;generalize f ((rsB f m s i).1,60+(i:Int),lI .i64 (m.getD i 0) 16777215)=x at *;clear hI hf hop;generalize rsB f m s i=p at *;obtain⟨t,C⟩:=p;dsimp only at *;have c3:=HF t (24+i) hg1.a WL x hx.r hx.u
  have c4:ay Tryz.prog 24 [.ptr 0 0,.sl 446 true [dj x.a]] [oF t C 1,.vec 96 (rows AZ C)] (.sl 1 false (aH .i64 (xf t [x]).2.1)) [oF (xf t [x]).1 (C++(xf t [x]).2.2) 2,.gone,.vec 96 (rows AZ (C++(xf t [x]).2.2))]:=
   Qm t [x] true C WM WM (by simp;omega) fun k hk=>by
    obtain rfl:k=0:=by simpa using hk
    exact rQ hg1 WL hx
  rw[U9]at c4;have ht:=qD t x;generalize kl t x=T at *;obtain⟨T1,T2,T3⟩:=T;dsimp only at *;unfold oF at c4;have ha:rows AZ C++rows AZ T2=rows AZ (C++T2):=Po C T2;have hn:aH .i64 [T3]=[[.int .i64 T3]]:=rfl;clear hg1;refine nx fun _=>?_
  refine oce [1,3] c4 ?_;refine nx fun _=>?_
  refine⟨i+1,⟨h2,h1⟩,WL,?_⟩;exact gcJ [0,1,2,8,9]
 ·have c3:=Py (rsB f m s i).1 hg1.cp (rsB f m s i).2
  have c4:=Pw (rsB f m s i).1 (rsB f m s i).2 WL;have c5:=Fq (rsB f m s i).1 hg1.ty.sam hg1.ty.ql hg1.ty.yl;have c6:=UN (rsB f m s i).2 WL;have hx:¬ (i:Int)<m.length\/((i:Int)<m.length/\¬ (i:Int)<8):=WL
  clear hI hf hop hg1;generalize rsB f m s i=p at *;obtain⟨t,C⟩:=p;dsimp only at *;unfold oF at c3 c4;rcases hx with h1|⟨h1,h2⟩
  all_goals
   refine nx fun _=>?_
   refine dre [1,3] c3 ?_;refine nx fun _=>?_
   refine dre [1,3] c4 ?_;refine nx fun _=>?_
   refine dre [4] c6 ?_;exact aw
end Go.Proofs.YtmpddimhleianaaGreat
