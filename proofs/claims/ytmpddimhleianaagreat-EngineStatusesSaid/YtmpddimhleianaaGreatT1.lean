/- Joined. -/
import Derived.Test.YtmpddimhleianaaGreatW3
import Derived.Test.YtmpddimhleianaaGreatChecked
import Derived.KernelRfl
import Derived.Test.YtmpddimhleianaaGreatV5
import Derived.Test.YtmpddimhleianaaGreatV4
import Derived.Test.YtmpddimhleianaaGreatW5
import Derived.Test.YtmpddimhleianaaGreatV7
import Derived.Test.YtmpddimhleianaaGreatR1
set_option linter.unusedVariables false
set_option linter.unusedSimpArgs false
set_option maxRecDepth 8000
set_option maxHeartbeats 4000000
namespace Go.Proofs.YtmpddimhleianaaGreat
open Go Go.FH Go.RowKit
theorem Yv{n:Int}(h0:0<=n)(h1:n<18446744073709551616):lI .u64 n 4294967295=n%4294967296:=by
 obtain⟨m,rfl⟩:=ajO h0;unfold lI
 have:(BitVec.ofInt IntKind.u64.bits (m:Int) &&& BitVec.ofInt IntKind.u64.bits 4294967295).toNat=m%4294967296:=by
  rw[alc,BitVec.ofInt_natCast,show BitVec.ofInt IntKind.u64.bits 4294967295=BitVec.ofNat IntKind.u64.bits (2 ^ 32-1)by decide,akl,akl];rw[show (2 ^ 32-1)%2 ^ IntKind.u64.bits=2 ^ 32-1 by decide,Nat.and_two_pow_sub_one_eq_mod];rw[Nat.mod_mod_of_dvd _ WN]
 rw[this,aN WL WL];omega
theorem adP(n:Int):fJ .u64 n 32=n / 4294967296:=by
 unfold fJ;rw[show ((2:Int) ^ (min 32 IntKind.u64.bits))=4294967296 by decide];exact aj4 _ WL
theorem Jr(n:Int):PC Tryz.prog 248 [.int .u64 n] (.bool (vy n)):=by
 refine ae 3 ?_;unfold vy;cases h:decide (1<=n)with
 | true =>
   refine ah h ?_;exact ai
 | false =>
   refine ah h ?_;exact ai
theorem ae9(s p:Int):PC Tryz.prog 255 [.int .u64 s,.int .u64 p] (.tup [.int .u64 (kJ s p).1,.int .i64 (kJ s p).2]):=by
 refine ae 6 ?_;have c1:=Jr p;unfold kJ;refine gon ?_;refine am c1 ?_;cases h:vy p with
 | true =>
   have h0:p≠0:=by simp[vy]at h;omega
   rw[al7 rfl];refine dQ ?_;refine ah h0 ?_;exact ai
 | false =>
   rw[al5 WM];refine aX ?_;exact ai
theorem UJ{x0 x1 y0 y1:Int}(hx0:0<=x0)(hx0':x0<4294967296)(hx1:0<=x1)(hx1':x1<4294967296)(hy0:0<=y0)(hy0':y0<4294967296)(hy1:0<=y1)(hy1':y1<4294967296)(x y:Int)(hx:x=x1*4294967296+x0)(hy:y=y1*4294967296+y0):
 PC Tryz.prog 347 [.int .u64 x,.int .u64 y] (.tup [.int .u64 (x*y / 18446744073709551616),.int .u64 (IntKind.u64.wrap (x*y))]):=by
 refine ae 14 ?_;obtain⟨b00,b10,b01,b11,hz⟩:=agm hx0 hx0' hx1 hx1' hy0 hy0' hy1 hy1';have mk:∀n:Int,0<=n->n<18446744073709551616->lI .u64 n 4294967295=n%4294967296:=fun n h1 h2=>Yv h1 h2
 have sh:∀n:Int,fJ .u64 n 32=n / 4294967296:=fun n=>adP n
 have e1:lI .u64 x 4294967295=x0:=by rw[mk x WL WL];omega
 have e2:fJ .u64 x 32=x1:=by rw[sh];omega
 have e3:lI .u64 y 4294967295=y0:=by rw[mk y WL WL];omega
 have e4:fJ .u64 y 32=y1:=by rw[sh];omega
 have hxy:x*y=x1*y1*18446744073709551616+(x1*y0+x0*y1)*4294967296+x0*y0:=by rw[hx,hy];exact hz
 have e5:IntKind.u64.wrap (x0*y0)=x0*y0:=lW b00.1 WL;have e6:IntKind.u64.wrap (x1*y0)=x1*y0:=lW b10.1 WL;have e7:IntKind.u64.wrap (x0*y1)=x0*y1:=lW b01.1 WL;have e8:IntKind.u64.wrap (x1*y1)=x1*y1:=lW b11.1 WL;generalize hpz:x*y=z at *;clear hz;generalize hp0:x0*y0=p00 at *;generalize hp1:x1*y0=p10 at *;generalize hp2:x0*y1=p01 at *;generalize hp3:x1*y1=p11 at *;have e9:fJ .u64 p00 32=p00 / 4294967296:=sh _;have e10:IntKind.u64.wrap (p10+p00 / 4294967296)=p10+p00 / 4294967296:=lW WL WL;have e11:lI .u64 (p10+p00 / 4294967296) 4294967295=(p10+p00 / 4294967296)%4294967296:=mk _ WL WL;have e12:fJ .u64 (p10+p00 / 4294967296) 32=(p10+p00 / 4294967296) / 4294967296:=sh _;generalize hT:p10+p00 / 4294967296=T at *;have e13:IntKind.u64.wrap (T%4294967296+p01)=T%4294967296+p01:=lW WL WL;have e14:IntKind.u64.wrap (p11+T / 4294967296)=p11+T / 4294967296:=lW WL WL;have e15:fJ .u64 (T%4294967296+p01) 32=(T%4294967296+p01) / 4294967296:=sh _;have e16:IntKind.u64.wrap (p11+T / 4294967296+(T%4294967296+p01) / 4294967296)=z / 18446744073709551616:=by rw[lW WL WL];omega
 repeat(first|refine bY ?_|simp only[go_sem,hpz,hp0,hp1,hp2,hp3,hT,e1,e2,e3,e4,e5,e6,e7,e8,e9,e10,e11,e12,e13,e14,e15,e16])
 exact ai
theorem Z5{a b:Int}(ha:0<=a)(ha2:a<18446744073709551616)(hb:0<=b)(hb2:b<18446744073709551616):PC Tryz.prog 315 [.int .u64 a,.int .u64 b] (.tup [.int .u64 (Ip a b).1,.int .i64 (Ip a b).2]):=by
 rw[<-ad3 ha ha2 hb hb2];refine ae 8 ?_;have c1:=UJ (x0:=a%4294967296) (x1:=a / 4294967296) (y0:=b%4294967296) (y1:=b / 4294967296) WL WL WL WL WL WL WL WL a b WL WL;unfold agl;refine gon ?_;refine am c1 ?_;by_cases h:a*b / 18446744073709551616=0
 ·have e1:(a*b / 18446744073709551616==0)=true:=by simp[h]
  rw[al7 h];refine aM e1 ?_;exact ai
 ·have e1:(a*b / 18446744073709551616==0)=false:=by simp[h]
  rw[al5 h];refine aF e1 ?_;exact ai
theorem Fv{e p:Int}(he:0<=e)(he2:e<18446744073709551616):PC Tryz.prog 231 [.int .u64 e,.int .u64 p] (.tup [.int .u64 (dk e p).1,.int .i64 (dk e p).2]):=by
 refine ae 6 ?_;have c1:=Jr p;unfold dk;refine gon ?_;refine am c1 ?_;cases h:vy p with
 | true =>
   have c2:=Z5 he he2 (b:=p) (by simp[vy]at h;omega) (by simp[vy]at h;omega);rw[al7 rfl];refine bk ?_;refine ahG c2 ?_;exact ai
 | false =>
   rw[al5 WM];refine aX ?_;exact ai
theorem PT(s p:Int):PC Tryz.prog 167 [.int .u64 s,.int .u64 p] (.bool (vy p&&decide (Int.tmod s p=0))):=by
 refine ae 5 ?_;have c1:=Jr p;refine gon ?_;refine am c1 ?_;cases h:vy p with
 | true =>
   have h0:p≠0:=by simp[vy]at h;omega
   have e1:(Int.tmod s p==0)=decide (Int.tmod s p=0):=by by_cases h:Int.tmod s p=0<;>simp[h]
   refine aZ h0 e1 ?_;exact ai
 | false =>
   refine gon ?_;exact ai
theorem H1(r:Rt):PC Tryz.prog 146 [.agg (rtc r)] (.bool (decide (r=rt0))):=by
 refine ae 3 ?_;refine gon ?_;exact ai
theorem XF(a b:Rt):ay Tryz.prog 349 [.va 1 0 0 32,.va 1 1 0 32] [.var (rtc a),.var (rtc b)] (.int .i64 (uk a b)) [.var (rtc a),.var (rtc b)]:=by
 refine dS 8 ?_;have e1:=adE a b;refine ah e1 ?_;exact ahY [] [0,1]
theorem Ze(a b:Rt):PC Tryz.prog 310 [.agg (rtc a),.agg (rtc b)] (.int .i64 (uk a b)):=by
 refine ae 5 ?_;have c1:=XF a b;refine gon ?_;refine drg [0,1] c1 ?_;exact ai
theorem Ea(n:Int):PC Tryz.prog 237 [.int .u64 n] (.bool false):=by
 refine ae 3 ?_;refine gon ?_;exact ai
theorem EL(a b:Int):PC Tryz.prog 144 [.int .u64 a,.int .u64 b] (.int .i64 (xX a b)):=by
 refine ae 7 ?_;have c1:=Ea a;have c2:=Ea b;unfold xX;refine gon ?_;refine ahG c1 ?_;refine am c2 ?_;refine bk ?_;refine agE ?_;by_cases h1:a<b
 ·have e1:=au h1;rw[al7 h1];refine aM e1 ?_;exact ai
 ·have e1:=aA h1
  rw[al5 h1];refine aF e1 ?_;by_cases h2:b<a
  ·have e2:=au h2;rw[al7 h2];refine aM e2 ?_;exact ai
  ·have e2:=aA h2;rw[al5 h2];refine aF e2 ?_;exact ai
theorem WD(l:List Int)(cl:Bool)(hl:l.length<=1000):PC Tryz.prog 143 [.sl 1 cl (aH .i64 l)] (.int .i64 (orI l)):=by
 refine ae 9 ?_;obtain⟨R,hR⟩:∃R,R=orI (l.drop 0):=⟨_,rfl⟩
 have hR0:orI l=R:=by rw[hR,ak9]
 rw[hR0];refine gon ?_;refine az (fun i:Nat=>[(8,.int .i64 i)]) (fun _=>[]) (fun i=>l.length-i) (fun i=>i<=l.length/\R=orI (l.drop i)) 0 ⟨amc _,hR⟩ ?_ ?_
 ·exact ais [] []
 clear hR hR0;rintro i ⟨hi,hn⟩;refine dp ?_;by_cases h1:i<l.length
 ·have e1:=inT h1
  have hw:=af h1 WL;rw[amG h1]at hn;have hg:l.getD i 0=l[i]:=by simp[List.getD,h1]
  rw[<-hg]at hn;have hgd:=gdn (k:=.i64) h1;generalize l.getD i 0=x at *;simp only[orI]at hn;refine bw e1 ?_;refine ah hgd ?_;by_cases h2:x=0
  ·subst h2;rw[al5 WM]at hn;refine dQ ?_;refine ah hw ?_;refine⟨i+1,⟨h1,hn⟩,WL,?_⟩;exact ais [] []
  ·have e2:(x != 0)=true:=by simp[h2]
   rw[al7 h2]at hn;subst hn;refine aM e2 ?_;exact ai
 ·obtain rfl:i=l.length:=WL
  have e1:=inF (l.length);rw[amB]at hn;subst hn;refine aF e1 ?_;exact ai
theorem abO(a b:Cp):PC Tryz.prog 269 [.agg (cpC a),.agg (cpC b)] (.int .i64 (kW a b)):=by
 refine ae 5 ?_;have c1:=EL a.ep b.ep;have c2:=Ze a.rt b.rt;have c3:=WD [xX a.ep b.ep,uk a.rt b.rt] true WM;rw[aee]at c3;refine gon ?_;refine aK (c1) ?_;refine gon ?_;refine aK (c2) ?_;refine gon ?_;refine aK (c3) ?_;refine gon ?_;exact ai
theorem YO(a b:aW):PC Tryz.prog 187 [.agg (ar a.a),.agg (ar b.a)] (.int .i64 (kW a.cp b.cp)):=by
 refine ae 5 ?_;have c1:=abO a.cp b.cp;refine gon ?_;refine ahG c1 ?_;exact ai
theorem XK(l:List Int)(cl:Bool)(hl:l.length<=2097152):PC Tryz.prog 238 [.sl 1 cl (aH .u64 l)] (.tup [.int .u64 (Gm l 0).1,.bool (Gm l 0).2]):=by
 refine ae 10 ?_;obtain⟨R,hR⟩:∃R,R=Gm (l.drop 0) 0:=⟨_,rfl⟩
 have hR0:Gm l 0=R:=by rw[hR,ak9]
 rw[hR0];refine gon ?_;refine az (fun x:Nat×Int=>[(9,.int .i64 x.1),(4,.int .u64 x.2)]) (fun _=>[]) (fun x=>l.length-x.1) (fun x=>x.1<=l.length/\R=Gm (l.drop x.1) x.2) (0,0) ⟨amc _,hR⟩ ?_ ?_
 ·exact ais [] []
 clear hR hR0;rintro⟨i,n⟩ ⟨hi,hn⟩;dsimp only at hi hn ⊢;refine dp ?_;by_cases h1:i<l.length
 ·have e1:=inT h1
  have hw:=af h1 WL;rw[amG h1]at hn;have hg:l.getD i 0=l[i]:=by simp[List.getD,h1]
  rw[<-hg]at hn;have hgd:=gdn (k:=.u64) h1;generalize l.getD i 0=x at *;simp only[Gm]at hn;refine bw e1 ?_;refine ah hgd ?_;by_cases h2:IntKind.u64.wrap (4611686018427387904-n)<x
  ·have e2:=au h2;rw[al7 h2]at hn;subst hn;refine aM e2 ?_;exact ai
  ·have e2:=aA h2;rw[al5 h2]at hn;refine bJ e2 ?_;refine ah hw ?_;refine⟨(i+1,IntKind.u64.wrap (n+x)),⟨h1,hn⟩,by dsimp only;omega,?_⟩;exact ais [] []
 ·obtain rfl:i=l.length:=WL
  have e1:=inF (l.length);rw[amB]at hn;subst hn;refine aF e1 ?_;exact ai
theorem G3(t:aW)(n:Int)(hl:t.bals.length<=2097152)(hu:∀x∈t.bals,0<=x/\x<18446744073709551616):PC Tryz.prog 147 [.agg (ar t.a),.int .i64 n] (.int .i64 (gh t n)):=by
 refine ae 7 ?_;have c1:=XK t.bals false hl;have h0:=aae hu;unfold gh;by_cases h1:(t.bals.length:Int)=n
 ·have e1:((t.bals.length:Int) != n)=false:=by simp[h1]
  rw[al5 (by simp[h1])];refine aF e1 ?_;refine am c1 ?_;cases h2:(Gm t.bals 0).2 with
  | true =>
    rw[al5 (fun h=>by have:=h0.1 h;rw[h2]at this;cases this)];refine bk ?_;exact ai
  | false =>
    rw[al7 (h0.2 h2)];refine aX ?_;exact ai
 ·have e1:((t.bals.length:Int) != n)=true:=by simp[h1]
  rw[al7 h1];refine aM e1 ?_;exact ai
theorem pq(cl:Bool)(l:List Int)(hl:l.length<=2097152):ay Tryz.prog 148 [.sl 1 cl (aH .u64 l)] [] (.hs 1 0 0 l.length) [.vec 1 (aH .u64 l)]:=by
 refine dS 3 ?_;refine gon ?_;refine fun b hb=>?_
 cases b with
 | true =>
   have h0:l=[]:=by simpa[rows,aH]using hb rfl
   subst h0;refine Ff ?_;refine tp (qN ?_);refine ue ?_;refine jx 2 1 ?_;simp only[go_sem];refine gon ?_;exact ahY [] [0]
 | false =>
   refine bk ?_;exact ahY [] [0]
theorem CN(cl:Bool)(l:List Int)(hl:l.length<=2097152):ay Tryz.prog 240 [.sl 1 cl (aH .i64 l)] [] (.hs 1 0 0 l.length) [.vec 1 (aH .i64 l)]:=by
 refine dS 3 ?_;refine gon ?_;refine fun b hb=>?_
 cases b with
 | true =>
   have h0:l=[]:=by simpa[rows,aH]using hb rfl
   subst h0;refine Ff ?_;refine tp (qN ?_);refine ue ?_;refine jx 2 1 ?_;simp only[go_sem];refine gon ?_;exact ahY [] [0]
 | false =>
   refine bk ?_;exact ahY [] [0]
theorem Pn(cl:Bool)(l:List Vot)(hl:l.length<=2097152):ay Tryz.prog 239 [.sl 34 cl (rows al l)] [] (.hs 34 0 0 l.length) [.vec 34 (rows al l)]:=by
 refine dS 3 ?_;refine gon ?_;refine fun b hb=>?_
 cases b with
 | true =>
   have h0:l=[]:=by simpa[rows,aH]using hb rfl
   subst h0;refine Ff ?_;refine tp (qN ?_);refine ue ?_;refine jx 2 34 ?_;simp only[go_sem];refine gon ?_;exact ahY [] [0]
 | false =>
   refine bk ?_;exact ahY [] [0]
theorem Pm(cl:Bool)(l:List Nod)(hl:l.length<=2097152):ay Tryz.prog 241 [.sl 240 cl (rows bB l)] [] (.hs 240 0 0 l.length) [.vec 240 (rows bB l)]:=by
 refine dS 3 ?_;refine gon ?_;refine fun b hb=>?_
 cases b with
 | true =>
   have h0:l=[]:=by simpa[rows,aH]using hb rfl
   subst h0;refine Ff ?_;refine tp (qN ?_);refine ue ?_;refine jx 2 240 ?_;simp only[go_sem];refine gon ?_;exact ahY [] [0]
 | false =>
   refine bk ?_;exact ahY [] [0]
theorem Pl(cl:Bool)(l:List Blk)(hl:l.length<=2097152):ay Tryz.prog 152 [.sl 238 cl (rows aO l)] [] (.hs 238 0 0 l.length) [.vec 238 (rows aO l)]:=by
 refine dS 3 ?_;refine gon ?_;refine fun b hb=>?_
 cases b with
 | true =>
   have h0:l=[]:=by simpa[rows,aH]using hb rfl
   subst h0;refine Ff ?_;refine tp (qN ?_);refine ue ?_;refine jx 2 238 ?_;simp only[go_sem];refine gon ?_;exact ahY [] [0]
 | false =>
   refine bk ?_;exact ahY [] [0]
theorem yh(t:aW)(hl:t.bals.length<=2097152):PC Tryz.prog 189 [.agg (ar t.a)] (.agg (ar t.a)):=by
 refine ae 3 ?_;have c1:=pq false t.bals hl;refine gon ?_;refine ocg [] c1 ?_;exact ai
theorem yd(t:bp)(hl:t.vals.length<=2097152):PC Tryz.prog 151 [.agg (cy t.a)] (.agg (cy t.a)):=by
 refine ae 3 ?_;have c1:=CN false t.vals hl;refine gon ?_;refine ocg [] c1 ?_;exact ai
theorem Pr{α:Type}(f:α->List AV)(l:List α)(d:α){i:Nat}(h:i<l.length):rows f (l.take i)++[f (l.getD i d)]=rows f (l.take (i+1)):=by
 rw[cR,amY,alt,al6 h];rfl
theorem Gi(l:List aW)(cl:Bool)(hl:l.length<=1000)(hb:∀t∈l,t.bals.length<=2097152):ay Tryz.prog 242 [.sl 34 cl (rows aW.c l),.fn (.func 189) []] [] (.hs 34 0 0 l.length) [.vec 34 (rows aW.c l)]:=by
 refine dS 11 ?_;refine gon ?_;refine jx 5 34 ?_;simp only[go_sem];have hz:rows aW.c (l.take 0)=[]:=rfl;refine az (fun i:Nat=>[(10,.int .i64 i),(5,.hs 34 0 0 i)]) (fun i=>[.vec 34 (rows aW.c (l.take i))]) (fun i=>l.length-i) (fun i=>i<=l.length) 0 (amc _) ?_ ?_
 ·rw[hz];exact ais [] [0]
 intro i hi;refine dp ?_;by_cases h1:i<l.length
 ·have e1:=inT h1;have hw:=af h1 WL;have hgd:(rows aW.c l).getD i []=ar (l.getD i default).a:=aS (f:=aW.c) default h1;have hsn:=Pr aW.c l default h1;have hm:l.getD i default∈l:=by rw[alt,al6 h1];exact amS _
  have c1:=yh _ (hb _ hm);have hli:(l.take i).length=i:=by simp;omega
  generalize l.getD i default=x at *;have hrl:(rows aW.c (l.take i)).length=i:=by simp;omega
  have htk:List.take i (rows aW.c (l.take i))=rows aW.c (l.take i):=amf WL;refine bw e1 ?_;refine ah hgd ?_;refine am c1 ?_;refine pz hsn hw hli htk ?_;refine⟨i+1,h1,WL,?_⟩;exact ais [] [2]
 ·obtain rfl:i=l.length:=WL
  have e1:=inF (l.length);rw[ajp];refine aF e1 ?_;exact ahY [] [0]
theorem Gh(l:List bp)(cl:Bool)(hl:l.length<=1000)(hb:∀t∈l,t.vals.length<=2097152):ay Tryz.prog 150 [.sl 67 cl (rows bp.c l),.fn (.func 151) []] [] (.hs 67 0 0 l.length) [.vec 67 (rows bp.c l)]:=by
 refine dS 11 ?_;refine gon ?_;refine jx 5 67 ?_;simp only[go_sem];have hz:rows bp.c (l.take 0)=[]:=rfl;refine az (fun i:Nat=>[(10,.int .i64 i),(5,.hs 67 0 0 i)]) (fun i=>[.vec 67 (rows bp.c (l.take i))]) (fun i=>l.length-i) (fun i=>i<=l.length) 0 (amc _) ?_ ?_
 ·rw[hz];exact ais [] [0]
 intro i hi;refine dp ?_;by_cases h1:i<l.length
 ·have e1:=inT h1;have hw:=af h1 WL;have hgd:(rows bp.c l).getD i []=cy (l.getD i default).a:=aS (f:=bp.c) default h1;have hsn:=Pr bp.c l default h1;have hm:l.getD i default∈l:=by rw[alt,al6 h1];exact amS _
  have c1:=yd _ (hb _ hm);have hli:(l.take i).length=i:=by simp;omega
  generalize l.getD i default=x at *;have hrl:(rows bp.c (l.take i)).length=i:=by simp;omega
  have htk:List.take i (rows bp.c (l.take i))=rows bp.c (l.take i):=amf WL;refine bw e1 ?_;refine ah hgd ?_;refine am c1 ?_;refine pz hsn hw hli htk ?_;refine⟨i+1,h1,WL,?_⟩;exact ais [] [2]
 ·obtain rfl:i=l.length:=WL
  have e1:=inF (l.length);rw[ajp];refine aF e1 ?_;exact ahY [] [0]
theorem F1(l:List aW)(cl:Bool)(hl:l.length<=1000)(hb:∀t∈l,t.bals.length<=2097152):ay Tryz.prog 154 [.sl 34 cl (rows aW.c l)] [] (.hs 34 0 0 l.length) [.vec 34 (rows aW.c l)]:=by
 refine dS 3 ?_;have c1:=Gi l cl hl hb;refine gon ?_;refine ocg [] c1 ?_;exact ahY [] [0]
theorem oE(l:List Nod)(cl:Bool)(hl:l.length<=2097152):ay Tryz.prog 153 [.agg [.sl 240 cl (rows bB l)]] [] (.agg [.hs 240 0 0 l.length]) [.vec 240 (rows bB l)]:=by
 refine dS 3 ?_;have c1:=Pm cl l hl;refine gon ?_;refine ocg [] c1 ?_;exact ahY [] [2]
theorem CQ(l:List Vot)(q:List Int)(hl:l.length<=2097152)(hq:q.length<=2097152):ay Tryz.prog 149 [.agg [.sl 34 false (rows al l),.sl 1 false (aH .i64 q)]] [] (.agg [.hs 34 0 0 l.length,.hs 1 1 0 q.length]) [.vec 34 (rows al l),.vec 1 (aH .i64 q)]:=by
 refine dS 3 ?_;have c1:=Pn false l hl;have c2:=CN false q hq;refine gon ?_;refine dsg [] c1 ?_;refine dsg [] c2 ?_;exact ahY [] [2,3]
structure CpR(s:ap):Prop where
 bn:s.nodes.length<=2097152
 bl:s.latest.length<=2097152
 be:s.eqv.length<=2097152
 bt:s.tabs.length<=1000
 bb:∀t∈s.tabs,t.bals.length<=2097152
 bo:s.orph.length<=2097152
 ba:s.early.length<=1000
 bv:∀a∈s.early,a.vals.length<=2097152
 bc:s.cfg.bals.length<=2097152
def BO(s:ap):Sto:=⟨⟨s.cfg.lim,s.cfg.spe,s.cfg.boost,s.cfg.ttd,s.cfg.gen,.hs 1 0 0 s.cfg.bals.length⟩,.hs 34 1 0 s.latest.length,.hs 1 2 0 s.eqv.length,s.j,s.f,.hs 67 3 0 s.early.length,.hs 238 4 0 s.orph.length,.hs 240 5 0 s.nodes.length,s.now,s.boost,.hs 34 6 0 s.tabs.length⟩
theorem el(s:ap)(h:CpR s):ay Tryz.prog 86 [.agg (aE s.a)] [] (.agg (aE (BO s)))
 [.vec 1 (aH .u64 s.cfg.bals),.vec 34 (rows al s.latest),.vec 1 (aH .i64 s.eqv),.vec 67 (rows bp.c s.early),.vec 238 (rows aO s.orph),.vec 240 (rows bB s.nodes),.vec 34 (rows aW.c s.tabs)]:=by
 refine dS 3 ?_;have c1:=pq false s.cfg.bals h.bc;have c2:=CQ s.latest s.eqv h.bl h.be;have c3:=Gh s.early false h.ba h.bv;have c4:=Pl false s.orph h.bo;have c5:=oE s.nodes false h.bn;have c6:=F1 s.tabs false h.bt h.bb;refine gon ?_;refine ocg [] c1 ?_;refine ocg [] c2 ?_;refine ocg [] c3 ?_;refine ocg [] c4 ?_;refine ocg [] c5 ?_;refine ocg [] c6 ?_;exact ahY [] [2,3,4,5,6,7,8]
structure uF where
 cs:List AV
 pu:PuL cs
theorem uF.ren(c:uF)(ρ:Nat->Nat):bZ ρ c.cs=c.cs:=PuL.ren ρ c.pu
theorem uF.fz(c:uF)(σ:St)(zs:List Nat):fzL σ zs c.cs=c.cs:=PuL.fz σ zs c.pu
attribute [go_sem] uF.ren uF.fz
theorem RC(l:List Nod)(cl:Bool)(fn:FuncId)(c:uF)(p:Nat->Bool)(hl:l.length<=2097152)(hc:∀i,i<l.length->ay Tryz.prog fn [.agg (bB (l.getD i gr)),.ptr 0 0] [.var c.cs] (.bool (p i)) [.var c.cs]):ay Tryz.prog 221 [.sl 240 cl (rows bB l),.fn (.func fn) [.ptr 0 0]] [.var c.cs] (.int .i64 (Cj (dW p l.length))) [.var c.cs]:=by
 refine dS 9 ?_;have hN:dW p l.length=iK p (l.length-0) 0:=rfl;refine gon ?_;refine az (fun i:Nat=>[(8,.int .i64 i)]) (fun _=>[.var c.cs]) (fun i=>l.length-i) (fun i=>i<=l.length/\dW p l.length=iK p (l.length-i) i) 0 ⟨amc _,hN⟩ ?_ ?_
 ·exact ais [] [0]
 clear hN;rintro i ⟨hi,hn⟩;rw[hn];refine dp ?_;by_cases h1:i<l.length
 ·have e1:=inT h1
  have hw:=af h1 WL;have hgd:(rows bB l).getD i []=bB (l.getD i gr):=aS (f:=bB) gr h1;have c1:=hc i h1;refine bw e1 ?_;refine ah hgd ?_;refine oce [0] c1 ?_;cases h:p i with
  | true =>
    rw[nB h1 h];refine aX ?_;exact ahY [] [0]
  | false =>
    rw[nz h1 h];refine dQ ?_;refine ah hw ?_;refine⟨i+1,⟨h1,rfl⟩,WL,?_⟩;exact ais [] [0]
 ·obtain rfl:i=l.length:=WL
  have e1:=inF (l.length);rw[nu];refine aF e1 ?_;exact ahY [] [0]
theorem Ds(l:List aW)(cl:Bool)(fn:FuncId)(c:uF)(p:Nat->Bool)(hl:l.length<=2097152)(hc:∀i,i<l.length->ay Tryz.prog fn [.agg (aW.c (l.getD i default)),.ptr 0 0] [.var c.cs] (.bool (p i)) [.var c.cs]):ay Tryz.prog 302 [.sl 34 cl (rows aW.c l),.fn (.func fn) [.ptr 0 0]] [.var c.cs] (.int .i64 (Cj (dW p l.length))) [.var c.cs]:=by
 refine dS 9 ?_;have hN:dW p l.length=iK p (l.length-0) 0:=rfl;refine gon ?_;refine az (fun i:Nat=>[(8,.int .i64 i)]) (fun _=>[.var c.cs]) (fun i=>l.length-i) (fun i=>i<=l.length/\dW p l.length=iK p (l.length-i) i) 0 ⟨amc _,hN⟩ ?_ ?_
 ·exact ais [] [0]
 clear hN;rintro i ⟨hi,hn⟩;rw[hn];refine dp ?_;by_cases h1:i<l.length
 ·have e1:=inT h1
  have hw:=af h1 WL;have hgd:(rows aW.c l).getD i []=aW.c (l.getD i default):=aS (f:=aW.c) default h1;have c1:=hc i h1;refine bw e1 ?_;refine ah hgd ?_;refine oce [0] c1 ?_;cases h:p i with
  | true =>
    rw[nB h1 h];refine aX ?_;exact ahY [] [0]
  | false =>
    rw[nz h1 h];refine dQ ?_;refine ah hw ?_;refine⟨i+1,⟨h1,rfl⟩,WL,?_⟩;exact ais [] [0]
 ·obtain rfl:i=l.length:=WL
  have e1:=inF (l.length);rw[nu];refine aF e1 ?_;exact ahY [] [0]
theorem PV(l:List Blk)(cl:Bool)(fn:FuncId)(c:uF)(p:Nat->Bool)(hl:l.length<=2097152)(hc:∀i,i<l.length->ay Tryz.prog fn [.agg (aO (l.getD i cw)),.ptr 0 0] [.var c.cs] (.bool (p i)) [.var c.cs]):ay Tryz.prog 178 [.sl 238 cl (rows aO l),.fn (.func fn) [.ptr 0 0]] [.var c.cs] (.int .i64 (Cj (dW p l.length))) [.var c.cs]:=by
 refine dS 9 ?_;have hN:dW p l.length=iK p (l.length-0) 0:=rfl;refine gon ?_;refine az (fun i:Nat=>[(8,.int .i64 i)]) (fun _=>[.var c.cs]) (fun i=>l.length-i) (fun i=>i<=l.length/\dW p l.length=iK p (l.length-i) i) 0 ⟨amc _,hN⟩ ?_ ?_
 ·exact ais [] [0]
 clear hN;rintro i ⟨hi,hn⟩;rw[hn];refine dp ?_;by_cases h1:i<l.length
 ·have e1:=inT h1
  have hw:=af h1 WL;have hgd:(rows aO l).getD i []=aO (l.getD i cw):=aS (f:=aO) cw h1;have c1:=hc i h1;refine bw e1 ?_;refine ah hgd ?_;refine oce [0] c1 ?_;cases h:p i with
  | true =>
    rw[nB h1 h];refine aX ?_;exact ahY [] [0]
  | false =>
    rw[nz h1 h];refine dQ ?_;refine ah hw ?_;refine⟨i+1,⟨h1,rfl⟩,WL,?_⟩;exact ais [] [0]
 ·obtain rfl:i=l.length:=WL
  have e1:=inF (l.length);rw[nu];refine aF e1 ?_;exact ahY [] [0]
theorem abv(l:List Vot)(cl:Bool)(fn:FuncId)(p:Nat->Bool)(hl:l.length<=2097152)(hc:∀i,i<l.length->PC Tryz.prog fn [.agg (al (l.getD i dL))] (.bool (p i))):PC Tryz.prog 316 [.sl 34 cl (rows al l),.fn (.func fn) []] (.int .i64 (Cj (dW p l.length))):=by
 refine ae 9 ?_;have hN:dW p l.length=iK p (l.length-0) 0:=rfl;refine gon ?_;refine az (fun i:Nat=>[(8,.int .i64 i)]) (fun _=>[]) (fun i=>l.length-i) (fun i=>i<=l.length/\dW p l.length=iK p (l.length-i) i) 0 ⟨amc _,hN⟩ ?_ ?_
 ·exact ais [] []
 clear hN;rintro i ⟨hi,hn⟩;rw[hn];refine dp ?_;by_cases h1:i<l.length
 ·have e1:=inT h1
  have hw:=af h1 WL;have hgd:(rows al l).getD i []=al (l.getD i dL):=aS (f:=al) dL h1;have c1:=hc i h1;refine bw e1 ?_;refine ah hgd ?_;refine am c1 ?_;cases h:p i with
  | true =>
    rw[nB h1 h];refine aX ?_;exact ai
  | false =>
    rw[nz h1 h];refine dQ ?_;refine ah hw ?_;refine⟨i+1,⟨h1,rfl⟩,WL,?_⟩;exact ais [] []
 ·obtain rfl:i=l.length:=WL
  have e1:=inF (l.length);rw[nu];refine aF e1 ?_;exact ai
theorem Ws(l:List aW)(cl:Bool)(fn:FuncId)(c:uF)(p:Nat->Bool)(hl:l.length<=2097152)(hc:∀i,i<l.length->ay Tryz.prog fn [.agg (aW.c (l.getD i default)),.ptr 0 0] [.var c.cs] (.bool (p i)) [.var c.cs]):ay Tryz.prog 319 [.sl 34 cl (rows aW.c l),.fn (.func fn) [.ptr 0 0]] [.var c.cs] (.bool (dW p l.length).isSome) [.var c.cs]:=by
 refine dS 5 ?_;have c1:=Ds l cl fn c p hl hc;refine gon ?_;refine oce [0] c1 ?_;cases h:dW p l.length with
 | none =>
   refine gon ?_;exact ahY [] [0]
 | some i =>
   have e2:decide ((i:Int) ≥ 0)=true:=au WL;refine ah e2 ?_;exact ahY [] [0]
theorem Pp(l:List Blk)(cl:Bool)(fn:FuncId)(c:uF)(p:Nat->Bool)(hl:l.length<=2097152)(hc:∀i,i<l.length->ay Tryz.prog fn [.agg (aO (l.getD i cw)),.ptr 0 0] [.var c.cs] (.bool (p i)) [.var c.cs]):ay Tryz.prog 323 [.sl 238 cl (rows aO l),.fn (.func fn) [.ptr 0 0]] [.var c.cs] (.bool (dW p l.length).isSome) [.var c.cs]:=by
 refine dS 5 ?_;have c1:=PV l cl fn c p hl hc;refine gon ?_;refine oce [0] c1 ?_;cases h:dW p l.length with
 | none =>
   refine gon ?_;exact ahY [] [0]
 | some i =>
   have e2:decide ((i:Int) ≥ 0)=true:=au WL;refine ah e2 ?_;exact ahY [] [0]
theorem Ui(x:Nod)(r:Rt):ay Tryz.prog 222 [.agg (bB x),.ptr 0 0] [.var (rtc r)] (.bool (decide (x.blk.root=r))) [.var (rtc r)]:=by
 refine dS 4 ?_;refine gon ?_;exact ahY [] [0]
theorem zU(t:List Nod)(r:Rt)(hb:t.length<=2097152):PC Tryz.prog 125 [.agg [.sl 240 false (rows bB t)],.agg (rtc r)] (.int .i64 (aj t r)):=by
 refine ae 5 ?_;have c1:=RC t false 222 ⟨rtc r,dI r⟩ (fun i=>decide ((nod t i).blk.root=r)) hb (fun i _=>Ui _ r);refine gon ?_;refine ocg [1] c1 ?_;exact ai
theorem lp(t:List Nod)(i:Int):PC Tryz.prog 322 [.agg [.sl 240 false (rows bB t)],.int .i64 i] (.bool (isN t i)):=by
 refine ae 5 ?_;unfold isN;by_cases h0:0<=i
 ·have e0:decide (i ≥ 0)=true:=au h0;have e1:=au h0;refine aZ e0 e1 ?_;exact ai
 ·have e0:decide (i ≥ 0)=false:=aA h0;have e1:=aA h0;refine aZ e0 e1 ?_;exact ai
theorem D3(t:List Nod)(ht:dU t)(hb:t.length<=2097152)(i slot:Int):PC Tryz.prog 256 [.agg [.sl 240 false (rows bB t)],.int .i64 i,.int .u64 slot] (.int .i64 (atT t i slot)):=by
 refine ae 7 ?_;generalize hR:atT t i slot=R;refine gon ?_;refine az (fun j:Int=>[(1,.int .i64 j)]) (fun _=>[.var [.sl 240 false (rows bB t)]]) (fun j=>(j+1).toNat) (fun j=>atT t j slot=R) i hR ?_ ?_
 ·exact ais [] [0]
 clear hR;intro j hR;have c1:=lp t j;refine gon ?_;refine am c1 ?_;cases h:isN t j with
 | false =>
   rw[pp slot h]at hR;subst hR;refine bk ?_;exact ai
 | true =>
   obtain⟨h0,h1⟩:=dR.1 h;obtain⟨k,rfl⟩:=ajO h0;have hk:k<t.length:=WL
   have hgd:(rows bB t).getD k []=bB (nod t k):=aS (f:=bB) gr hk;have hbd:decide ((k:Int)<((t.length:Nat):Int))=true:=au h1;rw[TQ ht hk]at hR
   have hup:(nod t k).up<k:=by
    rcases ajQ k with h|h
    ·subst h;have:=ht.root;omega
    ·have:=ht.ok k h hk;omega
   refine Ff ?_;refine ah hgd ?_;by_cases h2:(nod t k).blk.slot<=slot
   ·have e2:=au h2;rw[al7 h2]at hR;subst hR;refine aM e2 ?_;exact ai
   ·have e2:=aA h2;rw[al5 h2]at hR;refine bJ e2 ?_;refine ah hgd ?_;refine⟨(nod t k).up,hR,WL,?_⟩;exact ais [] [0]
theorem zW(t:List Nod)(ht:dU t)(hb:t.length<=2097152)(a b:Int):PC Tryz.prog 321 [.agg [.sl 240 false (rows bB t)],.int .i64 a,.int .i64 b] (.bool (eh t a b)):=by
 refine ae 7 ?_;have c1:=lp t a;have c2:=lp t b;refine gon ?_;refine am c1 ?_;cases ha:isN t a with
 | false =>
   rw[po ht (.inl ha)];refine aX ?_;exact ai
 | true =>
   refine gon ?_;refine am c2 ?_;cases hb:isN t b with
   | false =>
     rw[po ht (.inr hb)];refine aX ?_;exact ai
   | true =>
     refine dQ ?_;generalize hR:eh t a b=R;refine gon ?_;refine az (fun j:Int=>[(2,.int .i64 j)]) (fun _=>[.var [.sl 240 false (rows bB t)]]) (fun j=>(j+1).toNat) (fun j=>isN t j=true/\eh t a j=R) b ⟨hb,hR⟩ ?_ ?_
     ·exact ais [] [0]
     clear hR hb;rintro j ⟨hj,hR⟩;obtain⟨h0,h1⟩:=dR.1 hj;obtain⟨k,rfl⟩:=ajO h0;have hk:k<t.length:=WL
     have ha0:=(dR.1 ha).1;by_cases h2:(k:Int) > a
     ·have e2:=au h2;have hgd:(rows bB t).getD k []=bB (nod t k):=aS (f:=bB) gr hk;have hbd:decide ((k:Int)<((t.length:Nat):Int))=true:=au h1;rw[CJ ht hk WL]at hR;have hup:=ht.ok k WL hk;refine bw e2 ?_;refine ah hgd ?_;refine⟨(nod t k).up,⟨dR.2 WL,hR⟩,WL,?_⟩;exact ais [] [0]
     ·have e2:=aA h2;rw[Pd ht hk WL]at hR;have e3:(a==(k:Int))=R:=by rw[<-hR];by_cases h:a=(k:Int)<;>simp[h]
      refine bJ e2 ?_;refine ah e3 ?_;exact ai
theorem IL(b:Blk)(st:Int):PC Tryz.prog 85 [.agg (aO b),.int .i64 st] (.agg [.sl 240 false (rows bB [⟨b,-1,st⟩])]):=by
 refine ae 5 ?_;refine gon ?_;refine⟨_,by first|rfl|exact evd,.inr ⟨.agg [.sl 240 true (rows bB [⟨b,-1,st⟩])],evd,by simp[Pu,PuL,j9],Wk.agg ⟨Wk.open_ _ _ _,fun h=>h,trivial⟩⟩⟩
theorem UM(i:Int):PC Tryz.prog 314 [.int .i64 i] (.bool (decide (0<=i)&&decide (i<=2))):=by
 refine ae 3 ?_;by_cases h0:0<=i
 ·have e0:decide (i ≥ 0)=true:=au h0;have e1:=au h0;refine aZ e0 e1 ?_;exact ai
 ·have e0:decide (i ≥ 0)=false:=aA h0;have e1:=aA h0;refine aZ e0 e1 ?_;exact ai
theorem Jd(b:Blk):PC Tryz.prog 262 [.agg (aO b)] (.int .i64 (if b.payload=rt0 then 1 else 0)):=by
 refine ae 3 ?_;have c1:=H1 b.payload;refine gon ?_;refine am c1 ?_;by_cases h:b.payload=rt0
 ·rw[al7 h,au h];refine aX ?_;exact ai
 ·rw[al5 h,aA h];refine bk ?_;exact ai
theorem HR(t:List Nod)(hb:t.length<=2097152):PC Tryz.prog 329 [.sl 240 false (rows bB t)] (.sl 240 true (rows bB t)):=by
 refine ae 3 ?_;refine gon ?_;exact ai
theorem Oj(t:List Nod)(b:Blk)(st:Int)(hb:t.length<=2097152):PC Tryz.prog 261 [.agg [.sl 240 false (rows bB t)],.agg (aO b),.int .i64 st] (.tup [.agg [.sl 240 false (rows bB (BV t b st).1)],.int .i64 (BV t b st).2]):=by
 refine ae 9 ?_;have c1:=UM st;have c2:=zU t b.root hb;have c3:=zU t b.parent hb;have c4:=HR t hb;have b3:=fM t b.parent;unfold BV;generalize aj t b.root=x at *;generalize aj t b.parent=y at *;refine gon ?_;refine am c1 ?_;by_cases q1:0<=st/\st<=2
 case neg=>
  have e1:(decide (0<=st)&&decide (st<=2))=false:=by rw[akJ,ami,ami];omega
  rw[al7 q1];refine aM e1 ?_;exact rW
 have e1:(decide (0<=st)&&decide (st<=2))=true:=by simp[q1]
 rw[al5 (fun h=>h q1)];refine aF e1 ?_;refine ahG c2 ?_;refine EB (fun h=>?_) (fun h=>?_)
 ·rw[al7 (by simpa using h)];refine gon ?_;exact rW
 rw[al5 (by simpa using h)];refine gon ?_;refine ahG c3 ?_;clear h;refine EB (fun h=>?_) (fun h=>?_)
 ·rw[al7 (by simpa using h)];refine gon ?_;exact rW
 have hy0:0<=y:=by simpa using h
 have hgd:(rows bB t).getD y.toNat []=bB (nod t y.toNat):=aS (f:=bB) gr WL;rw[al5 (by simpa using h)];refine ah hgd ?_;clear h;refine EB (fun h=>?_) (fun h=>?_)
 ·rw[al7 (by simpa using h)];refine gon ?_;exact rW
 rw[al5 (by simpa using h)];refine gon ?_;clear h;refine EB (fun h=>?_) (fun h=>?_)
 ·rw[al7 (by simp at h;omega)];refine gon ?_;exact rW
 rw[al5 (by simp at h;omega)];have hr:=cR bB t ⟨b,y,st⟩;refine gon ?_;refine aK (c4) ?_;refine ah hr ?_;exact ai
theorem NB(l z:List aW)(dd:aW)(fn:FuncId)(c:uF)(p:Nat->Bool)(hl:l.length<=2097152)(hc:∀i,i<l.length->ay Tryz.prog fn [.agg (aW.c (l.getD i dd)),.ptr 0 0] [.var c.cs] (.bool (p i)) [.var c.cs]):ay Tryz.prog 302 [.hs 34 1 0 l.length,.fn (.func fn) [.ptr 0 0]] [.var c.cs,.vec 34 (rows aW.c (l++z))] (.int .i64 (Cj (dW p l.length))) [.var c.cs,.vec 34 (rows aW.c (l++z))]:=by
 refine dS 9 ?_;have hN:dW p l.length=iK p (l.length-0) 0:=rfl;refine gon ?_;refine az (fun i:Nat=>[(8,.int .i64 i)]) (fun _=>[.var c.cs,.vec 34 (rows aW.c (l++z))]) (fun i=>l.length-i) (fun i=>i<=l.length/\dW p l.length=iK p (l.length-i) i) 0 ⟨amc _,hN⟩ ?_ ?_
 ·exact ais [] [0,1]
 clear hN;rintro i ⟨hi,hn⟩;rw[hn];refine dp ?_;by_cases h1:i<l.length
 ·have e1:=inT h1
  have hw:=af h1 WL;have hxi:i<(l++z).length:=by simp;omega
  have hgd:(rows aW.c (l++z)).getD i []=aW.c (l.getD i dd):=by rw[aS (f:=aW.c) dd hxi,alt,amH h1,<-alt]
  generalize l++z=u at *;have c1:=hc i h1;refine bw e1 ?_;refine aZ hgd hxi ?_;refine oce [0] c1 ?_;cases h:p i with
  | true =>
    rw[nB h1 h];refine aX ?_;exact ahY [] [0,1]
  | false =>
    rw[nz h1 h];refine dQ ?_;refine ah hw ?_;refine⟨i+1,⟨h1,rfl⟩,WL,?_⟩;exact ais [] [0,1]
 ·obtain rfl:i=l.length:=WL
  have e1:=inF (l.length);rw[nu];refine aF e1 ?_;exact ahY [] [0,1]
theorem Nv(l z:List Blk)(dd:Blk)(fn:FuncId)(c:uF)(p:Nat->Bool)(hl:l.length<=2097152)(hc:∀i,i<l.length->ay Tryz.prog fn [.agg (aO (l.getD i dd)),.ptr 0 0] [.var c.cs] (.bool (p i)) [.var c.cs]):ay Tryz.prog 178 [.hs 238 1 0 l.length,.fn (.func fn) [.ptr 0 0]] [.var c.cs,.vec 238 (rows aO (l++z))] (.int .i64 (Cj (dW p l.length))) [.var c.cs,.vec 238 (rows aO (l++z))]:=by
 refine dS 9 ?_;have hN:dW p l.length=iK p (l.length-0) 0:=rfl;refine gon ?_;refine az (fun i:Nat=>[(8,.int .i64 i)]) (fun _=>[.var c.cs,.vec 238 (rows aO (l++z))]) (fun i=>l.length-i) (fun i=>i<=l.length/\dW p l.length=iK p (l.length-i) i) 0 ⟨amc _,hN⟩ ?_ ?_
 ·exact ais [] [0,1]
 clear hN;rintro i ⟨hi,hn⟩;rw[hn];refine dp ?_;by_cases h1:i<l.length
 ·have e1:=inT h1
  have hw:=af h1 WL;have hxi:i<(l++z).length:=by simp;omega
  have hgd:(rows aO (l++z)).getD i []=aO (l.getD i dd):=by rw[aS (f:=aO) dd hxi,alt,amH h1,<-alt]
  generalize l++z=u at *;have c1:=hc i h1;refine bw e1 ?_;refine aZ hgd hxi ?_;refine oce [0] c1 ?_;cases h:p i with
  | true =>
    rw[nB h1 h];refine aX ?_;exact ahY [] [0,1]
  | false =>
    rw[nz h1 h];refine dQ ?_;refine ah hw ?_;refine⟨i+1,⟨h1,rfl⟩,WL,?_⟩;exact ais [] [0,1]
 ·obtain rfl:i=l.length:=WL
  have e1:=inF (l.length);rw[nu];refine aF e1 ?_;exact ahY [] [0,1]
theorem Wj(t:List Nod)(ht:dU t)(i0:Int)(hb:t.length<=2097152)(h0:isN t i0=true):
 PC Tryz.prog 252 [.agg [.sl 240 false (rows bB t)],.int .i64 i0] (.tup [.agg [.sl 240 false (rows bB (eF t i0).1)],.sl 1 false (aH .i64 (eF t i0).2),.int .i64 0]):=by
 refine ae 24 ?_;unfold eF;obtain⟨g0,g1⟩:=dR.1 h0;have q0:¬i0<0:=WL
 have q1:¬i0 ≥ ((t.length:Nat):Int):=WL
 refine nx fun _=>?_
 refine pS 1 0 240 ?_;simp only[go_sem];refine jx 5 1 ?_;simp only[go_sem];refine BA t.length (fun i=>[(23,.int .i64 i),(5,.hs 1 3 0 (bg (ei t i0) ([],[]) i).2.length)]) (fun i=>[.var [.sl 240 false (rows bB t)],.var [.hs 240 2 0 (bg (ei t i0) ([],[]) i).1.length],.vec 240 (rows bB (bg (ei t i0) ([],[]) i).1),.vec 1 (aH .i64 (bg (ei t i0) ([],[]) i).2)]) (fun i h1 hw h2=>?_) (fun _=>?_)
 ·have hgd:(rows bB t).getD i []=bB (nod t i):=aS (f:=bB) gr h1
  have hs:=cX (ei t i0) ([],[]) i;obtain⟨hl2,hl1⟩:=uu t i0 i;obtain⟨hu1,hu2⟩:=S0 ht i0 h1
  have hup:(nod t i).up<i:=by
   rcases ajQ i with h|h
   ·subst h;have:=ht.root;omega
   ·exact(ht.ok i h h1).2
  generalize bg (ei t i0) ([],[]) i=p at *;obtain⟨kp,ix⟩:=p;dsimp only at hl1 hl2 hu1 hu2;change _=ite _ (kp++[⟨_,ite _ _ (ix.getD _ _),_⟩],ix++[(kp.length:Int)]) (kp,ix++[-1])at hs
  have hr:∀w:Int,aH .i64 ix++[[AV.int .i64 w]]=aH .i64 (ix++[w]):=fun w=>kP .i64 ix [w]
  have hrn:=cR bB kp;clear h0 g0 g1 q0 q1 hu2;by_cases hk:(i:Int)=i0
  ·rw[au (Or.inl hk)]at hu1;rw[al7 hu1,al7 hk]at hs;clear hu1;subst hk;have hk:=eq_self (i:Int);refine nx fun _=>?_
   exact gcJ [0,1,6,5]
  rw[al5 hk]at hs;by_cases hn:0<=(nod t i).up
  ·have hP:upP t i0 i ix=ix.getD (nod t i).up.toNat 0:=by unfold upP;rw[al7 ⟨hk,hn⟩]
   rw[hP]at hu1;obtain⟨u,hu⟩:=ajO hn;rw[hu]at hu1 hs hup;rw[amw]at hu1 hs;have hgi:=gdn (k:=.i64) (ns:=ix) (i:=u) WL;have hui:u<i:=WL
   generalize ix.getD u 0=q at *;clear hP hn;by_cases hq:q<0
   ·rw[al5 (by rw[hu1];simp;omega)]at hs;clear hu1;refine nx fun _=>?_
    exact gcJ [0,1,2,5]
   ·rw[al7 (by rw[hu1];simp;omega)]at hs;clear hu1;refine nx fun _=>?_
    exact gcJ [0,1,6,5]
  ·have hP:upP t i0 i ix=-1:=by unfold upP;rw[al5 (fun h=>hn h.2)]
   rw[hP]at hu1;rw[al5 (by rw[hu1];simp[hk])]at hs;clear hu1 hP;refine nx fun _=>?_
   exact gcJ [0,1,2,5]
 ·obtain⟨hl2,hl1⟩:=uu t i0 t.length;clear h0 g0 g1;exact aw
def V0{α:Type}(p:Nat->Bool)(l:List α)(d:α)(i:Nat)(o:List α):List α:=if p i=true then o else o++[l.getD i d]
def RZ{α:Type}(p:Nat->Bool)(l:List α)(d:α)(k:Nat):List α:=bg (V0 p l d) [] k
theorem VD{α:Type}(p:Nat->Bool)(l:List α)(d:α)(k:Nat):RZ p l d (k+1)=V0 p l d k (RZ p l d k):=rfl
theorem VN{α:Type}(p:Nat->Bool)(l:List α)(d:α):∀k,(RZ p l d k).length<=k
 |0=>amb _
 | k + 1 => by
   have:=VN p l d k;rw[VD];unfold V0;split<;>simp<;>omega
theorem UQ{α:Type}{p:Nat->Bool}{l:List α}(d:α):∀ {k},k<=l.length->(∀i,i<k->p i=false)->RZ p l d k=l.take k
 |0,_,_=>by simp[RZ,bg]
 | k + 1, hk, h => by
   rw[VD,UQ d WL fun i hi=>h i WL];unfold V0;rw[al5 (by simp[h k WL]),amY,alt,al6 (show k<l.length by omega)];rfl
theorem We{x:List AV}(h:PuL x):∀n:Nat,fy (List.replicate n x)
 |0=>trivial
 |n+1=>⟨h,We h n⟩
structure VL where
 xs:List (List AV)
 pu:fy xs
theorem VL.ren(c:VL)(ρ:Nat->Nat):bH ρ c.xs=c.xs:=fy.ren ρ c.pu
theorem VL.fz(c:VL)(σ:St)(zs:List Nat):dh σ zs c.xs=c.xs:=fy.fz σ zs c.pu
theorem Nj(ρ:Nat->Nat):∀ (a b:List (List AV)),bH ρ (a++b)=bH ρ a++bH ρ b
 | [],_=>rfl
 |x::a,b=>by simp only[amI,bH,Nj ρ a b]
theorem Rf(σ:St)(zs:List Nat):∀ (a b:List (List AV)),dh σ zs (a++b)=dh σ zs a++dh σ zs b
 | [],_=>rfl
 |x::a,b=>by simp only[amI,dh,Rf σ zs a b]
attribute [go_sem] VL.ren VL.fz Nj Rf
theorem Vw{α:Type}(f:α->List AV)(l:List α)(z:List (List AV)):List.take l.length (rows f l++z)=rows f l:=by
 rw[ajs WM];exact amf WM
attribute [go_sem] Vw
theorem Bw{α:Type}(o l:List α)(d:α){i:Nat}(h1:o.length<=i)(h2:i<l.length):(o++l.drop o.length).getD i d=l.getD i d:=by
 rw[alt,alt,amX h1,ak0];congr 2;omega
theorem BE{α:Type}(f:α->List AV)(hf:∀a b,(f a).length=(f b).length)(o l:List α)(x d:α)(h2:o.length<l.length):(rows f (o++l.drop o.length)).set o.length (spl ((rows f (o++l.drop o.length)).getD o.length []) 0 (f x))=rows f (o++[x]++l.drop (o.length+1)):=by
 rw[aS (f:=f) d (by simp;omega),acU (hf _ _)]
 have:(o++l.drop o.length).set o.length x=o++[x]++l.drop (o.length+1):=by
  rw[akI _ _ (amb _),akQ,amG h2,amx,amd];rfl
 rw[<-this];unfold rows;rw[al1]
theorem Vx{α:Type}(f:α->List AV)(o l:List α)(z:List AV)(h2:o.length<=l.length):(rows f (o++l.drop o.length)).take o.length++List.replicate (l.length-o.length) z++(rows f (o++l.drop o.length)).drop (o.length+(l.length-o.length))=rows f o++List.replicate (l.length-o.length) z:=by
 have e:rows f (o++l.drop o.length)=rows f o++rows f (l.drop o.length):=by unfold rows;exact amN
 rw[e,ajs WM,amf WM,ajF (by simp;try omega),amo]
theorem MH(l:List aW)(dd:aW)(fn:FuncId)(c:uF)(p:Nat->Bool)(hl:l.length<=2097152)(hc:∀i,i<l.length->ay Tryz.prog fn [.agg (aW.c (l.getD i dd)),.ptr 0 0] [.var c.cs] (.bool (p i)) [.var c.cs]):
 ∃ (z:VL) (kz:Nat),z.xs=List.replicate kz (ar yp:List AV)/\ay Tryz.prog 250 [.hs 34 1 0 l.length,.fn (.func fn) [.ptr 0 0]] [.var c.cs,.vec 34 (rows aW.c l)] (.hs 34 1 0 (RZ p l dd l.length).length) [.var c.cs,.vec 34 (rows aW.c (RZ p l dd l.length)++z.xs)]:=by
 have c1:=NB l [] dd fn c p hl hc;rw[amo]at c1;cases hf:dW p l.length with
 | none =>
   refine⟨⟨[],trivial⟩,0,rfl,?_⟩;have hd:RZ p l dd l.length=l:=by rw[UQ dd (amb _) (fun k hk=>iL hf k hk),ajp]
   rw[hd,amo];rw[hf]at c1;refine dS 8 ?_;refine gon ?_;refine oce [0,1] c1 ?_;refine aX ?_;exact ahY [] [0,1]
 | some j =>
   obtain⟨hj,_,hb⟩:=fZ hf;have hp:=(fZ hf).2.1;rw[hf]at c1;have hd:RZ p l dd (j+1)=l.take j:=by rw[VD,UQ dd WL hb];unfold V0;rw[al7 hp]
   have hln:=VN p l dd l.length;obtain⟨z,hz⟩:∃z:VL,∀w,w=(ar yp:List AV)->List.replicate (l.length-(RZ p l dd l.length).length) w=z.xs:=⟨⟨List.replicate (l.length-(RZ p l dd l.length).length) (ar yp:List AV),We (by first|exact gA _|exact(eP _).2 trivial|simp[PuL,Pu]) _⟩,fun w h=>by rw[h]⟩
   refine⟨z,_,(hz _ rfl).symm,?_⟩;refine dS 8 ?_;have e0:((j:Int)==-1)=false:=by simp;try omega
   have hw0:IntKind.i64.wrap ((j:Int)+1)=((j+1:Nat):Int):=af hj WL;refine gon ?_;refine oce [0,1] c1 ?_;refine bJ e0 ?_;refine ah hw0 ?_;refine az (fun i:Nat=>[(6,.int .i64 i),(5,.int .i64 (RZ p l dd i).length)]) (fun i=>[.var c.cs,.vec 34 (rows aW.c (RZ p l dd i++l.drop (RZ p l dd i).length))]) (fun i=>l.length-i) (fun i=>i<=l.length/\(RZ p l dd i).length<i) (j+1) ⟨hj,by rw[hd];simp;try omega⟩ ?_ ?_
   ·rw[hd];have q1:(l.take j).length=j:=by simp;try omega
    have q2:l.take j++l.drop j=l:=amF j l;rw[q1,q2];exact ais [] [0,1]
   clear hd hp hb e0 hw0;rintro i ⟨hi,hi2⟩;refine dp ?_;by_cases h1:i<l.length
   ·have e1:=inT h1
    have hw:=af h1 WL;have hs:=VD p l dd i;unfold V0 at hs;generalize RZ p l dd i=o at *;have hxl:i<(o++l.drop o.length).length:=by simp;try omega
    have hxk:o.length<(o++l.drop o.length).length:=by simp;try omega
    have hgd:(rows aW.c (o++l.drop o.length)).getD i []=aW.c (l.getD i dd):=by rw[aS (f:=aW.c) dd hxl,Bw o l dd WL h1]
    have hset:(rows aW.c (o++l.drop o.length)).set o.length (spl ((rows aW.c (o++l.drop o.length)).getD o.length []) 0 (ar (l.getD i dd).a))=rows aW.c (o++[l.getD i dd]++l.drop (o.length+1)):=BE aW.c (by intro a b;simp[aW.c]) o l (l.getD i dd) dd WL;have hwk:IntKind.i64.wrap ((o.length:Int)+1)=((o.length+1:Nat):Int):=af (show o.length<l.length by omega) WL;have hkd:decide ((o.length:Int)<((l.length:Nat):Int))=true:=au WL;have c2:=hc i h1;generalize hu:o++l.drop o.length=u at *;generalize l.getD i dd=x at *;refine bw e1 ?_;refine aZ hgd hxl ?_;refine oce [0] c2 ?_;cases h:p i with
    | true =>
      rw[al7 h]at hs;refine dQ ?_;refine ah hw ?_;refine⟨i+1,⟨h1,by rw[hs];omega⟩,WL,?_⟩;rw[hs,hu];exact ais [] [0,1]
    | false =>
      rw[al5 (by simp[h])]at hs;refine Ff ?_;refine eU hw hwk hset hxk hkd ?_;refine⟨i+1,⟨h1,by rw[hs];simp;try omega⟩,WL,?_⟩;rw[hs];exact ais [] [0,1]
   ·obtain rfl:i=l.length:=WL
    have e1:=inF (l.length);generalize RZ p l dd l.length=o at *;have hcl:∀z,_=_:=fun z=>Vx aW.c o l z hln
    have hdl:(l.drop o.length).length=l.length-o.length:=ajJ;refine bJ e1 ?_;refine aZ hdl amb ?_;rw[hcl,hz];rotate_left
    ·rfl
    refine dC hcl hdl amb ?_;exact ahY [] [0,1]
theorem Mi(l:List Blk)(dd:Blk)(fn:FuncId)(c:uF)(p:Nat->Bool)(hl:l.length<=2097152)(hc:∀i,i<l.length->ay Tryz.prog fn [.agg (aO (l.getD i dd)),.ptr 0 0] [.var c.cs] (.bool (p i)) [.var c.cs]):
 ∃ (z:VL) (kz:Nat),z.xs=List.replicate kz (aO cw:List AV)/\ay Tryz.prog 253 [.hs 238 1 0 l.length,.fn (.func fn) [.ptr 0 0]] [.var c.cs,.vec 238 (rows aO l)] (.hs 238 1 0 (RZ p l dd l.length).length) [.var c.cs,.vec 238 (rows aO (RZ p l dd l.length)++z.xs)]:=by
 have c1:=Nv l [] dd fn c p hl hc;rw[amo]at c1;cases hf:dW p l.length with
 | none =>
   refine⟨⟨[],trivial⟩,0,rfl,?_⟩;have hd:RZ p l dd l.length=l:=by rw[UQ dd (amb _) (fun k hk=>iL hf k hk),ajp]
   rw[hd,amo];rw[hf]at c1;refine dS 8 ?_;refine gon ?_;refine oce [0,1] c1 ?_;refine aX ?_;exact ahY [] [0,1]
 | some j =>
   obtain⟨hj,_,hb⟩:=fZ hf;have hp:=(fZ hf).2.1;rw[hf]at c1;have hd:RZ p l dd (j+1)=l.take j:=by rw[VD,UQ dd WL hb];unfold V0;rw[al7 hp]
   have hln:=VN p l dd l.length;obtain⟨z,hz⟩:∃z:VL,∀w,w=(aO cw:List AV)->List.replicate (l.length-(RZ p l dd l.length).length) w=z.xs:=⟨⟨List.replicate (l.length-(RZ p l dd l.length).length) (aO cw:List AV),We (by first|exact gA _|exact(eP _).2 trivial|simp[PuL,Pu]) _⟩,fun w h=>by rw[h]⟩
   refine⟨z,_,(hz _ rfl).symm,?_⟩;refine dS 8 ?_;have e0:((j:Int)==-1)=false:=by simp;try omega
   have hw0:IntKind.i64.wrap ((j:Int)+1)=((j+1:Nat):Int):=af hj WL;refine gon ?_;refine oce [0,1] c1 ?_;refine bJ e0 ?_;refine ah hw0 ?_;refine az (fun i:Nat=>[(6,.int .i64 i),(5,.int .i64 (RZ p l dd i).length)]) (fun i=>[.var c.cs,.vec 238 (rows aO (RZ p l dd i++l.drop (RZ p l dd i).length))]) (fun i=>l.length-i) (fun i=>i<=l.length/\(RZ p l dd i).length<i) (j+1) ⟨hj,by rw[hd];simp;try omega⟩ ?_ ?_
   ·rw[hd];have q1:(l.take j).length=j:=by simp;try omega
    have q2:l.take j++l.drop j=l:=amF j l;rw[q1,q2];exact ais [] [0,1]
   clear hd hp hb e0 hw0;rintro i ⟨hi,hi2⟩;refine dp ?_;by_cases h1:i<l.length
   ·have e1:=inT h1
    have hw:=af h1 WL;have hs:=VD p l dd i;unfold V0 at hs;generalize RZ p l dd i=o at *;have hxl:i<(o++l.drop o.length).length:=by simp;try omega
    have hxk:o.length<(o++l.drop o.length).length:=by simp;try omega
    have hgd:(rows aO (o++l.drop o.length)).getD i []=aO (l.getD i dd):=by rw[aS (f:=aO) dd hxl,Bw o l dd WL h1]
    have hset:(rows aO (o++l.drop o.length)).set o.length (spl ((rows aO (o++l.drop o.length)).getD o.length []) 0 (aO (l.getD i dd)))=rows aO (o++[l.getD i dd]++l.drop (o.length+1)):=BE aO (by intro a b;simp[aO]) o l (l.getD i dd) dd WL;have hwk:IntKind.i64.wrap ((o.length:Int)+1)=((o.length+1:Nat):Int):=af (show o.length<l.length by omega) WL;have hkd:decide ((o.length:Int)<((l.length:Nat):Int))=true:=au WL;have c2:=hc i h1;generalize hu:o++l.drop o.length=u at *;generalize l.getD i dd=x at *;refine bw e1 ?_;refine aZ hgd hxl ?_;refine oce [0] c2 ?_;cases h:p i with
    | true =>
      rw[al7 h]at hs;refine dQ ?_;refine ah hw ?_;refine⟨i+1,⟨h1,by rw[hs];omega⟩,WL,?_⟩;rw[hs,hu];exact ais [] [0,1]
    | false =>
      rw[al5 (by simp[h])]at hs;refine Ff ?_;refine eU hw hwk hset hxk hkd ?_;refine⟨i+1,⟨h1,by rw[hs];simp;try omega⟩,WL,?_⟩;rw[hs];exact ais [] [0,1]
   ·obtain rfl:i=l.length:=WL
    have e1:=inF (l.length);generalize RZ p l dd l.length=o at *;have hcl:∀z,_=_:=fun z=>Vx aO o l z hln
    have hdl:(l.drop o.length).length=l.length-o.length:=ajJ;refine bJ e1 ?_;refine aZ hdl amb ?_;rw[hcl,hz];rotate_left
    ·rfl
    refine dC hcl hdl amb ?_;exact ahY [] [0,1]
theorem Wn(s:ap)(hb:s.nodes.length<=2097152):PC Tryz.prog 168 [.agg (aE s.a)] (.agg (dB (sQ s))):=by
 refine ae 12 ?_;show Tri _ _ _ _ (PQ _ (.agg (dB (vM s.nodes s.nodes.length).1))) _ _
 have hz:vM s.nodes 0=(R4,false):=rfl;refine nx fun _=>?_
 refine BA s.nodes.length (fun i=>[(4,.bool (vM s.nodes i).2),(11,.int .i64 i)]) (fun i=>[.var (aE s.a),.var (dB R4),.var (dB (vM s.nodes i).1)]) (fun i h1 hw h2=>?_) (fun _=>?_)
 ·have hgd:=dy h1;have hs:=Ly s.nodes i;clear hz;generalize vM s.nodes i=p at *;obtain⟨⟨pj,pf⟩,sm⟩:=p;change _=ite _ _ _ at hs
  generalize nod s.nodes i=B at *;dsimp only at hs;cases sm<;>simp only[ak2,WJ,am6,amt]at hs<;>exact aw
 ·clear hz;exact aw
def VB(s:ap)(c:Cp):Int×Bool:=if aj s.nodes c.rt<0\/(nod s.nodes (aj s.nodes c.rt).toNat).status=2 then (-1,false)
 else (aj s.nodes c.rt,decide ((dk c.ep s.cfg.spe).2=0)&&decide ((nod s.nodes (aj s.nodes c.rt).toNat).blk.slot<=(dk c.ep s.cfg.spe).1))
theorem Wc(s:ap)(c:Cp)(hb:s.nodes.length<=2097152)(hc:U64 c.ep):PC Tryz.prog 318 [.agg (aE s.a),.agg (cpC c)] (.tup [.int .i64 (VB s c).1,.bool (VB s c).2]):=by
 refine ae 9 ?_;have c1:=zU s.nodes c.rt hb;have b1:=fM s.nodes c.rt;have c2:=Fv (e:=c.ep) (p:=s.cfg.spe) hc.1 hc.2;unfold VB;generalize aj s.nodes c.rt=I at *;generalize dk c.ep s.cfg.spe=S at *;by_cases q1:I<0
 ·rw[al7 (.inl q1)];exact aw
 obtain⟨k,rfl⟩:=ajO (alY.1 q1);have hg1:=dy (t:=s.nodes) (i:=k) WL;have hk:k<s.nodes.length:=WL
 rw[amw];clear b1;by_cases q3:(nod s.nodes k).status=2
 ·rw[al7 (.inr q3)];exact aw
 rw[al5 (fun h=>h.elim q1 q3)];by_cases q4:S.2=0<;>exact aw
theorem Wl(x:aW)(c:Cp):ay Tryz.prog 320 [.agg (aW.c x),.ptr 0 0] [.var (cpC c)] (.bool (decide (x.cp=c))) [.var (cpC c)]:=by
 refine afn 4 VA ?_;unfold UO;refine bd ?_;refine gon ?_;exact ahY [] [0]
def Wh(s:ap)(a b:Cp):Bool:=(VB s b).2&&((VB s a).2&&(eh s.nodes (VB s b).1 (VB s a).1&&(decide (b.ep<=a.ep)&&(decide (a.ep<=(kJ s.now s.cfg.spe).1)&&(dW (fun i=>decide ((tab s.tabs i).cp=a)) s.tabs.length).isSome))))
theorem Wq(s:ap)(h:StR s)(a b j0 f0:Cp)(ha:U64 a.ep)(hb:U64 b.ep)(R:Bool)(hR:R=Wh s a b):Tri Tryz.prog 94 0 (rM.tl 4) (PQ [.cell 6 true 33,.cell 7 true 33,.tmp 8] (.tup [.agg (cpC (bif R then a else cp0)),.agg (cpC (bif R then b else cp0)),.bool R])) ⟨16,[.agg (aE s.a),.agg (cpC j0),.agg (cpC f0),.ptr 0 0,.ptr 1 0,.ptr 2 0,.ptr 3 0,.ptr 4 0,.bool false,.dead,.dead,.dead,.dead,.dead,.dead,.dead],[]⟩ [.var (aE s.a),.var (cpC j0),.var (cpC f0),.var (cpC a),.var (cpC b)]:=by
 unfold rM;refine bd ?_;simp only[ab.tl];have c1:=Wc s b h.bn hb;have c2:=Wc s a h.bn ha;have c3:=Ws s.tabs false 320 ⟨cpC a,gV a⟩ (fun i=>decide ((tab s.tabs i).cp=a)) h.bt (fun i _=>Wl _ a);have c4:=ae9 s.now s.cfg.spe;have c5:=zW s.nodes h.tree h.bn (VB s b).1 (VB s a).1;unfold Wh at hR;generalize eh s.nodes (VB s b).1 (VB s a).1=V5 at *;generalize VB s a=A at *;generalize VB s b=B at *;generalize (dW (fun i=>decide ((tab s.tabs i).cp=a)) s.tabs.length).isSome=F at *;generalize kJ s.now s.cfg.spe=E at *;obtain⟨I,V2⟩:=A;obtain⟨K,V1⟩:=B;obtain⟨E1,E2⟩:=E;dsimp only at c1 c2 c3 c4 c5 hR;refine nx fun _=>?_
 refine oce [3] c3 ?_;refine nx fun _=>?_
 by_cases hv:(V1&&V2&&V5&&F)=true
 ·simp only[amk]at hv
  obtain⟨⟨⟨rfl,rfl⟩,rfl⟩,rfl⟩:=hv;by_cases q8:a.ep<b.ep
  ·rw[aA (show ¬b.ep<=a.ep by omega)]at hR;obtain rfl:R=false:=hR;exact aw
  rw[au (show b.ep<=a.ep by omega)]at hR;by_cases q9:E1<a.ep
  ·rw[aA (show ¬a.ep<=E1 by omega)]at hR;obtain rfl:R=false:=hR;exact aw
  rw[au (show a.ep<=E1 by omega)]at hR;obtain rfl:R=true:=hR;exact aw
 ·obtain rfl:R=false:=by rw[hR];cases V1<;>cases V2<;>cases V5<;>cases F<;>simp_all
  clear hR;cases V1
  ·exact aw
  cases V2
  ·exact aw
  cases V5
  ·exact aw
  cases F
  ·exact aw
  ·exact absurd rfl hv
theorem HD(s:ap)(h:StR s)(j f:Cp)(uj:U64 s.j.ep)(uf:U64 s.f.ep)(hj:U64 j.ep)(hf:U64 f.ep):PC Tryz.prog 249 [.agg (aE s.a),.agg (cpC j),.agg (cpC f)] (.tup [.agg (cpC (bif Wh s (fh s.j j) (fh s.f f)then fh s.j j else cp0)),.agg (cpC (bif Wh s (fh s.j j) (fh s.f f)then fh s.f f else cp0)),.bool (Wh s (fh s.j j) (fh s.f f))]):=by
 have tl:=Wq s h (fh s.j j) (fh s.f f) j f (Im uj hj) (Im uf hf) _ rfl;refine pfn 16 VC ?_;have hc:rM=.seq rM.hd (.seq (rM.tl 1).hd (.seq (rM.tl 2).hd (.seq (rM.tl 3).hd (rM.tl 4)))):=rfl;rw[hc];clear hc;generalize rM.tl 4=cT at *;unfold rM;refine bd ?_;simp only[ab.tl,ab.hd];have m1:fh s.j j=if s.j.ep<j.ep then j else s.j:=rfl
 have m2:fh s.f f=if s.f.ep<f.ep then f else s.f:=rfl
 by_cases q1:s.j.ep<j.ep<;>by_cases q2:s.f.ep<f.ep<;>simp only[q1,q2,amt,amj]at m1 m2<;>rw[m1,m2]at tl ⊢<;>clear m1 m2<;>(refine nx fun _=>?_;refine eg ?_ tl;exact ais [] [0,1,2,3,4])
end Go.Proofs.YtmpddimhleianaaGreat
namespace Go.FH
open Go Go.RowKit
theorem CY{e p now:Int}(he:0<=e)(hp:1<=p)(hp2:p<=64)(hn:0<=now)(hn2:now<18446744073709551616)(h:e<=IntKind.u64.wrap (Int.tdiv now p)):(dk e p).2=0:=by
 have hd:Int.tdiv now p=now / p:=ajC hn;have h0:0<=now / p:=akD hn WL;have h1:now / p<=now:=akS _ hn;rw[hd,aN h0 WL]at h;have hb:vy p=true:=by simp[vy];omega
 unfold dk;rw[al7 hb];unfold Ip;have hd2:Int.tdiv 18446744073709551615 p=18446744073709551615 / p:=ajC WN;have hq0:0<=18446744073709551615 / p:=akD WN WL;have hq1:18446744073709551615 / p<=18446744073709551615:=akS _ WN;have hle:now / p<=18446744073709551615 / p:=Int.ediv_le_ediv WL WL;rw[hd2,aN hq0 WL,al5 WL]
theorem Wm(o:Option Nat):o.isSome=decide (0<=Cj o):=by
 cases o with
 |none=>rfl
 |some k=>rw[Ck];simp
end Go.FH
namespace Go.Proofs.YtmpddimhleianaaGreat
open Go Go.FH Go.RowKit
theorem gv{s:ap}(h1:1<=s.cfg.spe)(h2:s.cfg.spe<=64)(n:Int):(kJ n s.cfg.spe).1=dg s n:=by
 unfold kJ dg;rw[al7 (by simp[vy];omega)]
theorem RD{s:ap}(h1:1<=s.cfg.spe)(h2:s.cfg.spe<=64)(hn:U64 s.now){a b:Cp}(ha:U64 a.ep)(hb:U64 b.ep):Wh s a b=wv s a b:=by
 unfold Wh wv;rw[gv h1 h2,Wm];unfold dJ;by_cases hE:a.ep<=dg s s.now
 case neg=>rw[aA hE];simp
 by_cases hB:b.ep<=a.ep
 case neg=>rw[aA hB];simp
 have ka:(dk a.ep s.cfg.spe).2=0:=CY ha.1 h1 h2 hn.1 hn.2 hE;have kb:(dk b.ep s.cfg.spe).2=0:=CY hb.1 h1 h2 hn.1 hn.2 (akT hB hE);unfold jA da VB;rw[ka,kb,au hE,au hB];generalize aj s.nodes a.rt=I;generalize aj s.nodes b.rt=K;generalize Cj _=T;by_cases i1:I<0
 ·rw[aA (show ¬0<=I by omega),al7 (c:=I<0\/_) (.inl i1)];simp
 by_cases i2:K<0
 ·rw[al7 (c:=K<0\/_) (.inl i2),aA (show ¬0<=K by omega)];simp
 by_cases i3:(nod s.nodes I.toNat).status=2
 ·rw[al7 (c:=I<0\/_) (.inr i3)];simp[i3]
 by_cases i4:(nod s.nodes K.toNat).status=2
 ·rw[al7 (c:=K<0\/_) (.inr i4)];simp[i4]
 rw[al5 (c:=I<0\/_) (fun h=>h.elim i1 i3),al5 (c:=K<0\/_) (fun h=>h.elim i2 i4),au (show 0<=I by omega),au (show 0<=K by omega),au (p:=(nod s.nodes I.toNat).status≠2) i3,au (p:=(nod s.nodes K.toNat).status≠2) i4];simp only[alE,am2,akh,aj9,akF];generalize decide ((nod s.nodes I.toNat).blk.slot<=_)=x;generalize decide ((nod s.nodes K.toNat).blk.slot<=_)=y;generalize eh s.nodes K I=z;generalize decide (0<=T)=t;cases x<;>cases y<;>cases z<;>cases t<;>rfl
theorem bP.spe{s:ap}{i:Nat}(h:bP s i):1<=s.cfg.spe/\s.cfg.spe<=64:=⟨h.cfg.s1,by have:=h.cfg.s4;omega⟩
theorem bP.may{s:ap}{i:Nat}(h:bP s i){a b:Cp}(ha:U64 a.ep)(hb:U64 b.ep):Wh s a b=wv s a b:=RD h.spe.1 h.spe.2 h.nw.1 ha hb
theorem bP.cp{s:ap}{i:Nat}(h:bP s i):CpR s:=by
 have r:=h.r;have h1:=h.tt;have h2:=h.aa;have h3:=h.cfg.b1;exact⟨r.bn,r.bl,r.be,WL,r.bb,r.bo,WL,fun a ha=>by have:=(h.av a ha).len;omega,WL⟩
theorem Q9(l:List aW)(e:Int):RZ (fun i=>decide ((tab l i).cp.ep<e)) l default l.length=fX l e:=by
 unfold RZ fX;refine iC fun k x hk=>?_
 unfold V0 tab;by_cases h:(l.getD k default).cp.ep<e
 ·rw[al7 (au h),al5 WL]
 ·rw[al5 (by dsimp only;rw[aA h];simp),al7 WL]
theorem Rq(l:List Blk)(a:Int):RZ (fun i=>decide ((l.getD i cw).slot<=a)) l cw l.length=bg (tW l a) [] l.length:=by
 unfold RZ;refine iC fun k x hk=>?_
 unfold V0 tW;by_cases h:(l.getD k cw).slot<=a
 ·rw[al7 (au h),al5 WL]
 ·rw[al5 (by dsimp only;rw[aA h];simp),al7 WL]
theorem OW(x:aW)(c:Cp):ay Tryz.prog 251 [.agg (aW.c x),.ptr 0 0] [.var (cpC c)] (.bool (decide (x.cp.ep<c.ep))) [.var (cpC c)]:=by
 refine dS 4 ?_;refine gon ?_;exact ahY [] [0]
theorem O6(x:Blk)(a:Int):ay Tryz.prog 254 [.agg (aO x),.ptr 0 0] [.var [.int .u64 a]] (.bool (decide (x.slot<=a))) [.var [.int .u64 a]]:=by
 refine dS 4 ?_;refine gon ?_;exact ahY [] [0]
def lh(s:ap):Sto:=⟨s.cfg.a,.sl 34 false (rows al s.latest),.sl 1 false (aH .i64 s.eqv),s.j,s.f,.sl 67 false (rows bp.c s.early),.hs 238 0 0 s.orph.length,.sl 240 false (rows bB s.nodes),s.now,s.boost,.sl 34 false (rows aW.c s.tabs)⟩
theorem Wo{α:Type}(f:α->List AV)(l z:List α):List.take l.length (rows f (l++z))=rows f l:=by
 unfold rows;rw[amN,ajs WM];exact amf WM
attribute [go_sem] Wo Nat.le_add_right
theorem Gc(l:List Blk)(fn:FuncId)(c:uF)(p:Nat->Bool)(hl:l.length<=2097152)(hc:∀i,i<l.length->ay Tryz.prog fn [.agg (aO (l.getD i cw)),.ptr 0 0] [.var c.cs] (.bool (p i)) [.var c.cs]):
 ∃z:List Blk,ay Tryz.prog 253 [.hs 238 1 0 l.length,.fn (.func fn) [.ptr 0 0]] [.var c.cs,.vec 238 (rows aO l)] (.hs 238 1 0 (RZ p l cw l.length).length) [.var c.cs,.vec 238 (rows aO (RZ p l cw l.length++z))]:=by
 obtain⟨z,k,hz,h⟩:=Mi l cw fn c p hl hc;refine⟨List.replicate k cw,?_⟩
 have:rows aO (RZ p l cw l.length++List.replicate k cw)=rows aO (RZ p l cw l.length)++z.xs:=by
  rw[hz];unfold rows;rw[amN,List.map_replicate]
 rw[this];exact h
theorem Wa(s:ap)(i:Nat)(h:bP s i)(j f:Cp)(hj:U64 j.ep)(hf:U64 f.ep):
 ∃z:List Blk,ay Tryz.prog 169 [.agg (aE s.a),.agg (cpC j),.agg (cpC f)] [] (.agg (aE (lh (dK s j f)))) [.vec 238 (rows aO ((dK s j f).orph++z))]:=by
 have c1:=el s h.cp;unfold BO at c1;have c2:=HD s h.r j f h.uj h.uf hj hf;rw[h.may (Im h.uj hj) (Im h.uf hf)]at c2;have hm:=fun e:wv s (fh s.j j) (fh s.f f)=true=>V8 e
 unfold dK;have ha:=Im h.uj hj;have hb:=Im h.uf hf;generalize fh s.j j=a at *;generalize fh s.f f=b at *;cases hM:wv s a b with
 | false =>
   rw[hM]at c2;rw[al7 rfl];refine⟨[],?_⟩;unfold lh;rw[amo];refine afn 13 dP ?_;unfold dw;refine bd ?_;clear hm hM;refine nx fun _=>?_
   refine oce [] c1 ?_;refine nx fun _=>?_
   exact ahY [4,5,6,7,9,10] [8]
 | true =>
   rw[hM]at c2;rw[al5 WM];obtain⟨k1,k2,k3⟩:=hm hM;obtain⟨zt,_,_,c3⟩:=MH s.tabs default 251 ⟨cpC a,gV a⟩ (fun i=>decide ((tab s.tabs i).cp.ep<a.ep)) (by have:=h.tt;omega) (fun i _=>OW _ a);rw[Q9]at c3;clear hm hM;by_cases hs:b=s.f
   ·rw[al7 hs];refine⟨[],?_⟩;unfold lh;rw[amo];replace hs:=eq_true hs
    refine afn 13 dP ?_;unfold dw;refine bd ?_;refine nx fun _=>?_
    refine oce [] c1 ?_;refine nx fun _=>?_
    refine oce [12,10] c3 ?_;refine nx fun _=>?_
    exact ahY [4,5,6,7,9,10] [8]
   ·rw[al5 hs]
    have b2:=fM s.nodes b.rt;have hI:isN s.nodes (aj s.nodes b.rt)=true:=dR.2 ⟨k2,b2.2⟩;have c6:=zU s.nodes b.rt h.r.bn;have c7:=Wj s.nodes h.tree (aj s.nodes b.rt) h.r.bn hI;have hl1:(eF s.nodes (aj s.nodes b.rt)).1.length<=s.nodes.length:=(uu s.nodes _ s.nodes.length).2;have c8:=zU (eF s.nodes (aj s.nodes b.rt)).1 s.boost (by have:=h.r.bn;omega);have c9:=Fv (e:=b.ep) (p:=s.cfg.spe) hb.1 hb.2;obtain⟨zo,c10⟩:=Gc s.orph 254 ⟨[.int .u64 (dk b.ep s.cfg.spe).1],by simp[PuL,Pu]⟩ (fun k=>decide ((s.orph.getD k cw).slot<=(dk b.ep s.cfg.spe).1)) h.r.bo (fun k _=>O6 _ _);rw[Rq]at c10;refine⟨zo,?_⟩;unfold lh da;generalize (eF s.nodes (aj s.nodes b.rt)).2=P2 at *;generalize (eF s.nodes (aj s.nodes b.rt)).1=P1 at *;generalize aj s.nodes b.rt=I at *;generalize aj P1 s.boost=B at *;dsimp only at c10 ⊢;generalize bg (tW s.orph (dk b.ep s.cfg.spe).1) [] s.orph.length=O at *;generalize dk b.ep s.cfg.spe=S at *;obtain⟨S1,S2⟩:=S;dsimp only at c9 c10 ⊢;clear hI b2 k1 k2 k3;refine afn 13 dP ?_;unfold dw;refine bd ?_;refine nx fun _=>?_
    refine oce [] c1 ?_;refine nx fun _=>?_
    refine oce [12,10] c3 ?_;refine nx fun _=>?_
    by_cases q:B<0
    ·rw[al7 q];refine nx fun _=>?_
     refine oce [16,8] c10 ?_;refine nx fun _=>?_
     exact ahY [4,5,6,7,10] [8]
    ·rw[al5 q];refine nx fun _=>?_
     refine oce [16,8] c10 ?_;refine nx fun _=>?_
     exact ahY [4,5,6,7,10] [8]
end Go.Proofs.YtmpddimhleianaaGreat
namespace Go.Proofs.YtmpddimhleianaaGreat
open Go Go.FH Go.RowKit
theorem Bu(s:ap)(h:CpR s):PC Tryz.prog 86 [.agg (aE s.a)] (.agg (aE s.a)):=by
 have c:=el s h;unfold BO at c;refine c.pc puA puA ?_;(try simp only[go_sem,Nat.reduceAdd,Nat.reduceSub,Nat.reduceMul,Nat.reduceLT,Nat.reduceLeDiff,Nat.reduceEqDiff,reduceIte,Int.reduceToNat,Int.reduceLT,Int.reduceLE,Int.reduceEq,Int.reduceNeg,reduceCtorEq,Int.reduceBEq,Int.reduceBNe])
 rfl
theorem Wb(s:ap)(i:Nat)(h:bP s i)(a:bp)(ha:a.vals.length<=2097152):PC Tryz.prog 170 [.agg (aE s.a),.agg (cy a.a)] (.tup [.bool (cm s a).1,.int .i64 (cm s a).2]):=by
 refine ae 15 ?_;obtain⟨R,hR⟩:∃R,R=cm s a:=⟨_,rfl⟩
 rw[<-hR];unfold cm at hR;have c1:=tq a.vals false s.cfg.bals.length WL;have c2:=ae9 a.slot s.cfg.spe;have c3:=ae9 s.now s.cfg.spe;have f2:=gv h.spe.1 h.spe.2 a.slot;have f3:=gv h.spe.1 h.spe.2 s.now;have c4:=zU s.nodes a.root h.r.bn;have c5:=zU s.nodes a.target.rt h.r.bn;have b4:=fM s.nodes a.root;have uS:U64 (dg s a.slot):=by unfold dg;exact ce _
 have uN:U64 (dg s s.now):=by unfold dg;exact ce _
 have c6:=Fv (e:=dg s a.slot) (p:=s.cfg.spe) uS.1 uS.2;have c7:=fun st=>D3 s.nodes h.tree h.r.bn (aj s.nodes a.root) st
 unfold da at hR;generalize aj s.nodes a.root=I at *;generalize aj s.nodes a.target.rt=G at *;generalize cE a.vals s.cfg.bals.length=V at *;generalize kJ a.slot s.cfg.spe=E1 at *;generalize kJ s.now s.cfg.spe=E2 at *;obtain⟨e11,e12⟩:=E1;obtain⟨e21,e22⟩:=E2;dsimp only at f2 f3 c2 c3;generalize dg s a.slot=W at *;generalize dg s s.now=M at *;subst f2 f3;by_cases q1:V=0
 case neg=>
  rw[al7 q1]at hR;subst hR;exact aw
 rw[al5 (by simp[q1])]at hR;subst q1;have uS0:=uS.1;have uS1:=uS.2;have uN0:=uN.1;have uN1:=uN.2;have fail:(a.target.ep≠e11\/(a.target.ep≠e21/\(e21=0\/a.target.ep≠IntKind.u64.wrap (e21-1))))->R=(false,18):=fun hq=>by rw[hR,al7 hq]
 by_cases q2:a.target.ep=e11
 case neg=>
  obtain rfl:=fail (.inl q2);clear fail hR;exact aw
 by_cases q3:e21<e11
 ·obtain rfl:=fail (.inr ⟨WL,by
   by_cases h0:e21=0
   ·exact .inl h0
   ·right;rw[aN WL WL];omega⟩)
  clear fail hR;exact aw
 have ew:IntKind.u64.wrap (e21-e11)=e21-e11:=aN WL WL;by_cases q4:1<e21-e11
 ·obtain rfl:=fail (.inr ⟨WL,by right;rw[aN WL WL];omega⟩);clear fail hR;exact aw
 rw [al5 (by
  rintro (h|⟨h1,h2⟩)
  ·exact h q2
  ·rcases h2 with h2|h2
   ·omega
   ·by_cases h0:e21=0
    ·omega
    ·rw[aN WL WL]at h2;omega)]at hR
 clear fail;by_cases q5:I<0
 ·rw[al7 (.inl q5)]at hR;subst hR;exact aw
 by_cases q6:G<0
 ·rw[al7 (.inr q6)]at hR;subst hR;exact aw
 rw[al5 (fun h=>h.elim q5 q6)]at hR;obtain⟨k,rfl⟩:=ajO (alY.1 q5);have hg:(rows bB s.nodes).getD k []=bB (nod s.nodes k):=aS (f:=bB) gr WL;have hk:k<s.nodes.length:=WL
 rw[amw,q2]at hR;generalize dk e11 s.cfg.spe=S at *;obtain⟨S1,S2⟩:=S;dsimp only at c6 hR;have c7:=c7 S1;generalize atT s.nodes k S1=T at *;subst hR;clear uS uN b4;by_cases q8:T=G
 ·rw[al5 (show ¬T≠G from fun h=>h q8)];exact aw
 ·rw[al7 (show T≠G from q8)];exact aw
theorem Wi(s:ap)(i:Nat)(h:bP s i)(a:bp)(ha:a.vals.length<=2097152):
 ay Tryz.prog 170 [.agg (aE { s.a with early:=.hs 67 0 0 s.early.length }),.agg (cy a.a)] [.vec 67 (rows bp.c s.early)] (.tup [.bool (cm s a).1,.int .i64 (cm s a).2]) [.vec 67 (rows bp.c s.early)]:=by
 refine ay.lend rfl ?_;have ht:List.take s.early.length (rows bp.c s.early)=rows bp.c s.early:=amf WM;(try simp only[go_sem,ht,al8,ama,ake,ako])
 exact Wb s i h a ha
theorem vq(s:ap)(i0:Nat)(h:bP s i0)(a:bp)(ha:a.vals.length<=2097152)(hj:∀j∈a.vals,0<=j/\j<s.latest.length):
 ay Tryz.prog 171 [.agg (aE s.a),.agg (cy a.a)] [] (.agg (aE { (castIn s a).a with early:=.hs 67 0 0 s.early.length })) [.vec 67 (rows bp.c s.early)]:=by
 have c1:=el s h.cp;unfold BO at c1;unfold castIn uM;generalize hep:a.target.ep=ep;generalize hl:a.vals=l at *;refine dS 22 ?_;refine gon ?_;refine oce [] c1 ?_;refine aZ hep hl ?_
 refine az (fun i:Nat=>[(21,.int .i64 i)]) (fun i=>[.var (aE s.a),.var (cy a.a),.var (aE kU),.vec 1 (aH .u64 s.cfg.bals),.vec 34 (rows al (bg (mK ep a.root l) (s.latest,0) i).1),.vec 1 (aH .i64 s.eqv),.vec 67 (rows bp.c s.early),.vec 238 (rows aO s.orph),.vec 240 (rows bB s.nodes),.vec 34 (rows aW.c s.tabs),.var (aE ⟨⟨s.cfg.lim,s.cfg.spe,s.cfg.boost,s.cfg.ttd,s.cfg.gen,.hs 1 3 0 s.cfg.bals.length⟩,.hs 34 4 0 s.latest.length,.hs 1 5 0 s.eqv.length,s.j,s.f,.hs 67 6 0 s.early.length,.hs 238 7 0 s.orph.length,.hs 240 8 0 s.nodes.length,s.now,s.boost,.hs 34 9 0 s.tabs.length⟩),.var (al ⟨true,ep,a.root⟩)]) (fun i=>l.length-i) (fun i=>i<=l.length) 0 (amc _) ?_ ?_
 ·exact ais [] [0,1,2,3,4,5,6,7,8,9,10,11]
 intro i hi;refine dp ?_;by_cases h1:i<l.length
 ·have e1:=inT h1
  have hw:=af h1 WL;have hgd:=gdn (k:=.i64) h1;have hm:l.getD i 0∈l:=by rw[alt,al6 h1];exact amS h1
  obtain⟨j0,j1⟩:=hj _ hm;have hs:=cX (mK ep a.root l) (s.latest,0) i;have hlen:=pd ep a.root l s.latest i;generalize bg (mK ep a.root l) (s.latest,0) i=p at *;obtain⟨u,n⟩:=p;dsimp only at hlen;have h3:(l.getD i 0).toNat<u.length:=WL
  have hgu:(rows al u).getD (l.getD i 0).toNat []=al (vot u (l.getD i 0).toNat):=aS (f:=al) dL h3;have hc:mK ep a.root l i (u,n)=if (vot u (l.getD i 0).toNat).has=false\/(vot u (l.getD i 0).toNat).ep<ep then (u.set (l.getD i 0).toNat ⟨true,ep,a.root⟩,IntKind.i64.wrap (n+1))else (u,n):=rfl
  generalize hx:vot u (l.getD i 0).toNat=x at *;generalize l.getD i 0=j at *;have hset:(rows al u).set j.toNat (al ⟨true,ep,a.root⟩)=rows al (u.set j.toNat ⟨true,ep,a.root⟩):=F2 al u j.toNat ⟨true,ep,a.root⟩;dsimp only;refine U6 e1 hgd hl hep ?_;obtain⟨xh,xe,xr⟩:=x;dsimp only at hc;cases xh with
  | false =>
    rw[al7 (.inl rfl)]at hc;refine HV hgd hgu hlen ?_;refine eU hgd hgu hset hw hlen ?_;refine⟨i+1,h1,WL,?_⟩;rw[hs,hc];exact ais [] [0,1,2,3,4,5,6,7,8,9,10,11]
  | true =>
    by_cases hx2:xe<ep
    ·have e2:=au hx2;rw[al7 (.inr hx2)]at hc;refine U6 hgd hgu e2 hlen ?_;refine eU hgd hgu hset hw hlen ?_;refine⟨i+1,h1,WL,?_⟩;rw[hs,hc];exact ais [] [0,1,2,3,4,5,6,7,8,9,10,11]
    ·have e2:=aA hx2;rw[al5 (by simp[hx2])]at hc;refine OA hgd hgu e2 hlen ?_;refine ah hw ?_;refine⟨i+1,h1,WL,?_⟩;rw[hs,hc];exact ais [] [0,1,2,3,4,5,6,7,8,9,10,11]
 ·obtain rfl:i=l.length:=WL
  have e1:=inF (l.length);have hlen:=pd ep a.root l s.latest l.length;generalize (bg (mK ep a.root l) (s.latest,0) l.length).1=L at *;rw[<-hlen];refine aF e1 ?_;exact ahY [3,4,5,7,8,9] [6]
theorem TX(s:ap)(m:Nat)(h:bP s m):PC Tryz.prog 103 [.agg (aE s.a)] (.tup [.agg (aE (gp s).1.a),.int .i64 (gp s).2]):=by
 refine ae 45 ?_;unfold gp;have hsp:=h.cfg.s1;have hs4:=h.cfg.s4;have hge:decide (s.now ≥ 1099511627776)=decide ((1099511627776:Int)<=s.now):=rfl;by_cases q1:1099511627776<=s.now
 ·have e1:decide ((1099511627776:Int)<=s.now)=true:=au q1;rw[al7 q1];refine cH hge e1 ?_;exact pZ (by first|rfl|exact evd) (by first|rfl|exact evd)
 have e1:decide ((1099511627776:Int)<=s.now)=false:=aA q1;rw[al5 q1];have hA:=h.tickA q1;have hB:=hA.tickB;have c0:=Bu s h.cp;have c1:=Wn (tickA s) hA.r.bn;have up:U64 (sQ (tickA s)).j.ep/\U64 (sQ (tickA s)).f.ep:=E9 fun k hk=>hA.blk hk
 obtain⟨zz,cu⟩:=Wa (tickA s) m hA (sQ (tickA s)).j (sQ (tickA s)).f up.1 up.2
 have c2:PC Tryz.prog 169 [.agg (aE (tickA s).a),.agg (cpC (sQ (tickA s)).j),.agg (cpC (sQ (tickA s)).f)] (.agg (aE (dK (tickA s) (sQ (tickA s)).j (sQ (tickA s)).f).a)):=by
  unfold lh at cu;refine cu.pc puA puA ?_;(try simp only[go_sem,Nat.reduceAdd,Nat.reduceSub,Nat.reduceMul,Nat.reduceLT,Nat.reduceLeDiff,Nat.reduceEqDiff,reduceIte,Int.reduceToNat,Int.reduceLT,Int.reduceLE,Int.reduceEq,Int.reduceNeg,reduceCtorEq,Int.reduceBEq,Int.reduceBNe])
  rfl
 clear cu;have c3:=PT (tickA s).now (tickA s).cfg.spe
 have hmod:IntKind.u64.wrap (Int.tmod (tickA s).now (tickA s).cfg.spe)=Int.tmod (tickA s).now (tickA s).cfg.spe:=by
  have hn:=hA.nw.1;have hsp':1<=(tickA s).cfg.spe:=hsp;rw[aly hn.lo];have h1:=Int.emod_nonneg (tickA s).now (show (tickA s).cfg.spe≠0 by omega);have h2:=Int.emod_lt_of_pos (tickA s).now (show 0<(tickA s).cfg.spe by omega);have hs4':(tickA s).cfg.spe<=4:=hs4;exact aN h1 WL
 have heb:vy (tickA s).cfg.spe=true:=by
  have hsp':1<=(tickA s).cfg.spe:=hsp;have hs4':(tickA s).cfg.spe<=4:=hs4;simp[vy];omega
 rw[heb,am2]at c3;have hT1:Int.tmod (tickA s).now (tickA s).cfg.spe=0->tickB (tickA s)=dK (tickA s) (sQ (tickA s)).j (sQ (tickA s)).f:=fun hz=>by unfold tickB;rw[hmod,al7 hz]
 have hT2:Int.tmod (tickA s).now (tickA s).cfg.spe≠0->tickB (tickA s)=tickA s:=fun hz=>by unfold tickB;rw[hmod,al5 hz]
 show Tri _ _ _ _ (PQ _ (.tup [.agg (aE (iw (tickB (tickA s)) (tickB (tickA s)).early.length).a),.int .i64 0])) _ _
 generalize tickB (tickA s)=S2 at *;refine fU hge e1 ?_;refine ahG c0 ?_;refine am c3 ?_;refine xT (fun _=>[]) (fun _=>[.var (aE s.a),.var (aE kU),.var (aE S2.a)]) (fun hT=>?_) (fun hF=>?_) ?_
 ·rw[hT1 (by simpa using hT)];refine gon ?_;refine ahG c1 ?_;refine ahG c2 ?_;exact ais [] [0,1,2]
 ·rw[hT2 (by simpa using hF)];refine gon ?_;exact ais [] [0,1,2]
 clear hT1 hT2 hmod c1 c2 c0 c3;refine gon ?_;refine pS 2 113 67 ?_ WQ (by exact zp _);simp only[go_sem,zq];have hK:∀k,k<=S2.early.length->bP (iw S2 k) m/\(iw S2 k).early.length<=k:=bP.tickR hB.av hB.aa hB
 have hz:iw S2 0=withE S2 []:=rfl;have haa:=hB.aa;refine az (fun i:Nat=>[(44,.int .i64 i)]) (fun i=>[.var (aE s.a),.var (aE kU),.var (aE { (iw S2 i).a with early:=.hs 67 3 0 (iw S2 i).early.length }),.vec 67 (rows bp.c (iw S2 i).early)]) (fun i=>S2.early.length-i) (fun i=>i<=S2.early.length) 0 (amc _) ?_ ?_
 ·rw[hz];unfold withE;exact ais [] [0,1,2,3]
 intro i hk;obtain⟨hki,hkl⟩:=hK i hk;have hsk:=Mf S2 i;refine dp ?_;by_cases h1:i<S2.early.length
 ·have e1:=inT h1
  have hw:=af h1 WL;have hgd:(rows bp.c S2.early).getD i []=cy (gO S2.early i).a:=aS (f:=bp.c) default h1;have hav:=(hB.av _ (ru h1)).len;have hc:tickR S2.early i (iw S2 i)=if (iw S2 i).now<=(gO S2.early i).slot then withE (iw S2 i) ((iw S2 i).early++[gO S2.early i])else if (cm (iw S2 i) (gO S2.early i)).2=0 then castIn (iw S2 i) (gO S2.early i)else iw S2 i:=rfl
  have c1:=Wi (iw S2 i) m hki (gO S2.early i) WL;have c2:=vq (iw S2 i) m hki (gO S2.early i) WL
  have hj:(cm (iw S2 i) (gO S2.early i)).2=0->∀j∈(gO S2.early i).vals,0<=j/\j<(iw S2 i).latest.length:=fun hq j hjm=>by
   have hv:cE (gO S2.early i).vals (iw S2 i).cfg.bals.length=0:=by
    unfold cm at hq;split at hq
    ·rename_i h1;exact absurd hq h1
    ·rename_i h1;simpa using h1
   obtain⟨u,hm,rfl⟩:=amJ hjm;have:=(iS hv).2 u hm;rw[alt,al6 hm,amT]at this;have hll:=hki.ll;omega
  clear hK;have hcl:(castIn (iw S2 i) (gO S2.early i)).early=(iw S2 i).early:=rfl;rw[hc]at hsk;generalize hs:iw S2 i=s1 at *;generalize gO S2.early i=a at *;have hr:rows bp.c s1.early++[cy a.a]=rows bp.c (s1.early++[a]):=cR bp.c s1.early a;generalize hR:cm s1 a=R at *;obtain⟨R1,R2⟩:=R;dsimp only at c1 hsk hj;have hg2:decide (a.slot ≥ s1.now)=decide (s1.now<=a.slot):=rfl;refine bw e1 ?_;refine ah hgd ?_;by_cases q2:s1.now<=a.slot
  ·have e2:=au q2;rw[al7 q2]at hsk;refine mQ hg2 e2 ?_;refine dC hgd hr hw ?_;refine⟨i+1,h1,WL,?_⟩;rw[hsk];unfold withE;exact ais [] [0,1,2,5]
  ·have e2:=aA q2
   rw[al5 q2]at hsk;refine fp hg2 e2 ?_;refine ah hgd ?_;refine ocg [3] c1 ?_;by_cases q3:R2=0
   ·rw[al7 q3]at hsk;subst q3;have c3:=c2 (hj rfl);generalize hcs:castIn s1 a=s3 at *;refine Ff ?_;have ht:List.take s1.early.length (rows bp.c s1.early)=rows bp.c s1.early:=amf WM;refine EK [3] ?_;simp only[evZ,F7];(try simp only[go_sem,Nat.reduceAdd,Nat.reduceSub,Nat.reduceMul,Nat.reduceLT,Nat.reduceLeDiff,Nat.reduceEqDiff,reduceIte,Int.reduceToNat,Int.reduceLT,Int.reduceLE,Int.reduceEq,Int.reduceNeg,reduceCtorEq,Int.reduceBEq,Int.reduceBNe,ht])
    refine gon ?_;refine oce [] c3 ?_;refine ah hw ?_;refine⟨i+1,h1,WL,?_⟩;rw[hsk,hcl];exact ais [] [0,1,2,5]
   ·have e3:(R2==0)=false:=by simp[q3]
    rw[al5 q3]at hsk;refine bJ e3 ?_;refine ah hw ?_;refine⟨i+1,h1,WL,?_⟩;rw[hsk];exact ais [] [0,1,2,3]
 ·obtain rfl:i=S2.early.length:=WL
  have e1:=inF (S2.early.length);generalize iw S2 S2.early.length=s1 at *;have ht:List.take s1.early.length (rows bp.c s1.early)=rows bp.c s1.early:=amf WM;refine aF e1 ?_;refine⟨_,(by first|rfl|exact evd),.inl ?_⟩;exact uZ ht
end Go.Proofs.YtmpddimhleianaaGreat
