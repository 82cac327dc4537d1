/- Joined. -/
import Derived.Test.YtmpddimhleianaaGreatW3v
import Derived.Test.YtmpddimhleianaaGreatChecked
import Derived.KernelRfl
import Derived.Test.YtmpddimhleianaaGreatV5v
import Derived.Test.YtmpddimhleianaaGreatV4v
import Derived.Test.YtmpddimhleianaaGreatW5v
import Derived.Test.YtmpddimhleianaaGreatV7v
import Derived.Test.YtmpddimhleianaaGreatR1v
set_option linter.unusedVariables false
set_option linter.unusedSimpArgs false
set_option maxRecDepth 8000
set_option maxHeartbeats 4000000
namespace Go.Proofs.YtmpddimhleianaaGreat
open Go Go.FH Go.RowKit
theorem FQ{n:Int}(h0:0<=n)(h1:n<18446744073709551616):gD .u64 n 4294967295=n%4294967296:=by
 obtain⟨m,rfl⟩:=afF h0;unfold gD
 have:(BitVec.ofInt IntKind.u64.bits (m:Int) &&& BitVec.ofInt IntKind.u64.bits 4294967295).toNat=m%4294967296:=by
  rw[aee,BitVec.ofInt_natCast,show BitVec.ofInt IntKind.u64.bits 4294967295=BitVec.ofNat IntKind.u64.bits (2 ^ 32-1)by decide,aeL,aeL];rw[show (2 ^ 32-1)%2 ^ IntKind.u64.bits=2 ^ 32-1 by decide,Nat.and_two_pow_sub_one_eq_mod];rw[Nat.mod_mod_of_dvd _ af2]
 rw[this,aC af0 af0];omega
theorem Ov(n:Int):fd .u64 n 32=n / 4294967296:=by
 unfold fd;rw[show ((2:Int) ^ (min 32 IntKind.u64.bits))=4294967296 by decide];exact ade _ af0
theorem vq(n:Int):PC Tryz.prog 248 [.int .u64 n] (.bool (nS n)):=by
 refine aQ 3 ?_;unfold nS;cases h:decide (1<=n)with
 | true =>
   refine aA h ?_;exact aj
 | false =>
   refine aA h ?_;exact aj
theorem pG(s p:Int):PC Tryz.prog 255 [.int .u64 s,.int .u64 p] (.tup [.int .u64 (iC s p).1,.int .i64 (iC s p).2]):=by
 refine aQ 6 ?_;have c1:=vq p;unfold iC;refine gon ?_;refine ap c1 ?_;cases h:nS p with
 | true =>
   have h0:p≠0:=by simp[nS]at h;omega
   rw[afA rfl];refine d6 ?_;refine aA h0 ?_;exact aj
 | false =>
   rw[afx af1];refine bD ?_;exact aj
theorem Cr{x0 x1 y0 y1:Int}(hx0:0<=x0)(hx0':x0<4294967296)(hx1:0<=x1)(hx1':x1<4294967296)(hy0:0<=y0)(hy0':y0<4294967296)(hy1:0<=y1)(hy1':y1<4294967296)(x y:Int)(hx:x=x1*4294967296+x0)(hy:y=y1*4294967296+y0):
 PC Tryz.prog 347 [.int .u64 x,.int .u64 y] (.tup [.int .u64 (x*y / 18446744073709551616),.int .u64 (IntKind.u64.wrap (x*y))]):=by
 refine aQ 14 ?_;obtain⟨b00,b10,b01,b11,hz⟩:=ZH hx0 hx0' hx1 hx1' hy0 hy0' hy1 hy1';have mk:∀n:Int,0<=n->n<18446744073709551616->gD .u64 n 4294967295=n%4294967296:=fun n h1 h2=>FQ h1 h2
 have sh:∀n:Int,fd .u64 n 32=n / 4294967296:=fun n=>Ov n
 have e1:gD .u64 x 4294967295=x0:=by rw[mk x af0 af0];omega
 have e2:fd .u64 x 32=x1:=by rw[sh];omega
 have e3:gD .u64 y 4294967295=y0:=by rw[mk y af0 af0];omega
 have e4:fd .u64 y 32=y1:=by rw[sh];omega
 have hxy:x*y=x1*y1*18446744073709551616+(x1*y0+x0*y1)*4294967296+x0*y0:=by rw[hx,hy];exact hz
 have e5:IntKind.u64.wrap (x0*y0)=x0*y0:=lT b00.1 af0;have e6:IntKind.u64.wrap (x1*y0)=x1*y0:=lT b10.1 af0;have e7:IntKind.u64.wrap (x0*y1)=x0*y1:=lT b01.1 af0;have e8:IntKind.u64.wrap (x1*y1)=x1*y1:=lT b11.1 af0;generalize hpz:x*y=z at *;clear hz;generalize hp0:x0*y0=p00 at *;generalize hp1:x1*y0=p10 at *;generalize hp2:x0*y1=p01 at *;generalize hp3:x1*y1=p11 at *;have e9:fd .u64 p00 32=p00 / 4294967296:=sh _;have e10:IntKind.u64.wrap (p10+p00 / 4294967296)=p10+p00 / 4294967296:=lT af0 af0;have e11:gD .u64 (p10+p00 / 4294967296) 4294967295=(p10+p00 / 4294967296)%4294967296:=mk _ af0 af0;have e12:fd .u64 (p10+p00 / 4294967296) 32=(p10+p00 / 4294967296) / 4294967296:=sh _;generalize hT:p10+p00 / 4294967296=T at *;have e13:IntKind.u64.wrap (T%4294967296+p01)=T%4294967296+p01:=lT af0 af0;have e14:IntKind.u64.wrap (p11+T / 4294967296)=p11+T / 4294967296:=lT af0 af0;have e15:fd .u64 (T%4294967296+p01) 32=(T%4294967296+p01) / 4294967296:=sh _;have e16:IntKind.u64.wrap (p11+T / 4294967296+(T%4294967296+p01) / 4294967296)=z / 18446744073709551616:=by rw[lT af0 af0];omega
 repeat(first|refine aM ?_|simp only[go_sem,hpz,hp0,hp1,hp2,hp3,hT,e1,e2,e3,e4,e5,e6,e7,e8,e9,e10,e11,e12,e13,e14,e15,e16])
 exact aj
theorem Sj{a b:Int}(ha:0<=a)(ha2:a<18446744073709551616)(hb:0<=b)(hb2:b<18446744073709551616):PC Tryz.prog 315 [.int .u64 a,.int .u64 b] (.tup [.int .u64 (Cs a b).1,.int .i64 (Cs a b).2]):=by
 rw[<-Xv ha ha2 hb hb2];refine aQ 8 ?_;have c1:=Cr (x0:=a%4294967296) (x1:=a / 4294967296) (y0:=b%4294967296) (y1:=b / 4294967296) af0 af0 af0 af0 af0 af0 af0 af0 a b af0 af0;unfold ZG;refine gon ?_;refine ap c1 ?_;by_cases h:a*b / 18446744073709551616=0
 ·have e1:(a*b / 18446744073709551616==0)=true:=by simp[h]
  rw[afA h];refine aW e1 ?_;exact aj
 ·have e1:(a*b / 18446744073709551616==0)=false:=by simp[h]
  rw[afx h];refine aS e1 ?_;exact aj
theorem oV{e p:Int}(he:0<=e)(he2:e<18446744073709551616):PC Tryz.prog 231 [.int .u64 e,.int .u64 p] (.tup [.int .u64 (cH e p).1,.int .i64 (cH e p).2]):=by
 refine aQ 6 ?_;have c1:=vq p;unfold cH;refine gon ?_;refine ap c1 ?_;cases h:nS p with
 | true =>
   have c2:=Sj he he2 (b:=p) (by simp[nS]at h;omega) (by simp[nS]at h;omega);rw[afA rfl];refine bY ?_;refine abl c2 ?_;exact aj
 | false =>
   rw[afx af1];refine bD ?_;exact aj
theorem T7(s p:Int):PC Tryz.prog 167 [.int .u64 s,.int .u64 p] (.bool (nS p&&decide (Int.tmod s p=0))):=by
 refine aQ 5 ?_;have c1:=vq p;refine gon ?_;refine ap c1 ?_;cases h:nS p with
 | true =>
   have h0:p≠0:=by simp[nS]at h;omega
   have e1:(Int.tmod s p==0)=decide (Int.tmod s p=0):=by by_cases h:Int.tmod s p=0<;>simp[h]
   refine bm h0 e1 ?_;exact aj
 | false =>
   refine gon ?_;exact aj
theorem gP(r:Rt):PC Tryz.prog 146 [.agg (rtc r)] (.bool (decide (r=rt0))):=by
 refine aQ 3 ?_;refine gon ?_;exact aj
theorem PA(a b:Rt):aJ Tryz.prog 349 [.va 1 0 0 32,.va 1 1 0 32] [.var (rtc a),.var (rtc b)] (.int .i64 (qm a b)) [.var (rtc a),.var (rtc b)]:=by
 refine cZ 8 ?_;have e1:=WY a b;refine aA e1 ?_;exact abF [] [0,1]
theorem Gn(a b:Rt):PC Tryz.prog 310 [.agg (rtc a),.agg (rtc b)] (.int .i64 (qm a b)):=by
 refine aQ 5 ?_;have c1:=PA a b;refine gon ?_;refine drg [0,1] c1 ?_;exact aj
theorem B0(n:Int):PC Tryz.prog 237 [.int .u64 n] (.bool false):=by
 refine aQ 3 ?_;refine gon ?_;exact aj
theorem yF(a b:Int):PC Tryz.prog 144 [.int .u64 a,.int .u64 b] (.int .i64 (m0 a b)):=by
 refine aQ 7 ?_;have c1:=B0 a;have c2:=B0 b;unfold m0;refine gon ?_;refine abl c1 ?_;refine ap c2 ?_;refine bY ?_;refine aab ?_;by_cases h1:a<b
 ·have e1:=ax h1;rw[afA h1];refine aW e1 ?_;exact aj
 ·have e1:=aD h1
  rw[afx h1];refine aS e1 ?_;by_cases h2:b<a
  ·have e2:=ax h2;rw[afA h2];refine aW e2 ?_;exact aj
  ·have e2:=aD h2;rw[afx h2];refine aS e2 ?_;exact aj
theorem OK(l:List Int)(cl:Bool)(hl:l.length<=1000):PC Tryz.prog 143 [.sl 1 cl (ah .i64 l)] (.int .i64 (orI l)):=by
 refine aQ 9 ?_;obtain⟨R,hR⟩:∃R,R=orI (l.drop 0):=⟨_,rfl⟩
 have hR0:orI l=R:=by rw[hR,aeP]
 rw[hR0];refine gon ?_;refine aE (fun i:Nat=>[(8,.int .i64 i)]) (fun _=>[]) (fun i=>l.length-i) (fun i=>i<=l.length/\R=orI (l.drop i)) 0 ⟨afK _,hR⟩ ?_ ?_
 ·exact abS [] []
 clear hR hR0;rintro i ⟨hi,hn⟩;refine fM ?_;by_cases h1:i<l.length
 ·have e1:=inT h1
  have hw:=ae h1 af0;rw[acG h1]at hn;have hg:l.getD i 0=l[i]:=by simp[List.getD,h1]
  rw[<-hg]at hn;have hgd:=gdn (k:=.i64) h1;generalize l.getD i 0=x at *;simp only[orI]at hn;refine bO e1 ?_;refine aA hgd ?_;by_cases h2:x=0
  ·subst h2;rw[afx af1]at hn;refine d6 ?_;refine aA hw ?_;refine⟨i+1,⟨h1,hn⟩,af0,?_⟩;exact abS [] []
  ·have e2:(x != 0)=true:=by simp[h2]
   rw[afA h2]at hn;subst hn;refine aW e2 ?_;exact aj
 ·obtain rfl:i=l.length:=af0
  have e1:=inF (l.length);rw[adR]at hn;subst hn;refine aS e1 ?_;exact aj
theorem UX(a b:Cp):PC Tryz.prog 269 [.agg (cpC a),.agg (cpC b)] (.int .i64 (gT a b)):=by
 refine aQ 5 ?_;have c1:=yF a.ep b.ep;have c2:=Gn a.rt b.rt;have c3:=OK [m0 a.ep b.ep,qm a.rt b.rt] true af1;rw[XK]at c3;refine gon ?_;refine aP (c1) ?_;refine gon ?_;refine aP (c2) ?_;refine gon ?_;refine aP (c3) ?_;refine gon ?_;exact aj
theorem yj(a b:aB):PC Tryz.prog 187 [.agg (bE a.a),.agg (bE b.a)] (.int .i64 (gT a.cp b.cp)):=by
 refine aQ 5 ?_;have c1:=UX a.cp b.cp;refine gon ?_;refine abl c1 ?_;exact aj
theorem PI(l:List Int)(cl:Bool)(hl:l.length<=2097152):PC Tryz.prog 238 [.sl 1 cl (ah .u64 l)] (.tup [.int .u64 (zS l 0).1,.bool (zS l 0).2]):=by
 refine aQ 10 ?_;obtain⟨R,hR⟩:∃R,R=zS (l.drop 0) 0:=⟨_,rfl⟩
 have hR0:zS l 0=R:=by rw[hR,aeP]
 rw[hR0];refine gon ?_;refine aE (fun x:Nat×Int=>[(9,.int .i64 x.1),(4,.int .u64 x.2)]) (fun _=>[]) (fun x=>l.length-x.1) (fun x=>x.1<=l.length/\R=zS (l.drop x.1) x.2) (0,0) ⟨afK _,hR⟩ ?_ ?_
 ·exact abS [] []
 clear hR hR0;rintro⟨i,n⟩ ⟨hi,hn⟩;dsimp only at hi hn ⊢;refine fM ?_;by_cases h1:i<l.length
 ·have e1:=inT h1
  have hw:=ae h1 af0;rw[acG h1]at hn;have hg:l.getD i 0=l[i]:=by simp[List.getD,h1]
  rw[<-hg]at hn;have hgd:=gdn (k:=.u64) h1;generalize l.getD i 0=x at *;simp only[zS]at hn;refine bO e1 ?_;refine aA hgd ?_;by_cases h2:IntKind.u64.wrap (4611686018427387904-n)<x
  ·have e2:=ax h2;rw[afA h2]at hn;subst hn;refine aW e2 ?_;exact aj
  ·have e2:=aD h2;rw[afx h2]at hn;refine da e2 ?_;refine aA hw ?_;refine⟨(i+1,IntKind.u64.wrap (n+x)),⟨h1,hn⟩,by dsimp only;omega,?_⟩;exact abS [] []
 ·obtain rfl:i=l.length:=af0
  have e1:=inF (l.length);rw[adR]at hn;subst hn;refine aS e1 ?_;exact aj
theorem ab0(t:aB)(n:Int)(hl:t.bals.length<=2097152)(hu:∀x∈t.bals,0<=x/\x<18446744073709551616):PC Tryz.prog 147 [.agg (bE t.a),.int .i64 n] (.int .i64 (fY t n)):=by
 refine aQ 7 ?_;have c1:=PI t.bals false hl;have h0:=Sw hu;unfold fY;by_cases h1:(t.bals.length:Int)=n
 ·have e1:((t.bals.length:Int) != n)=false:=by simp[h1]
  rw[afx (by simp[h1])];refine aS e1 ?_;refine ap c1 ?_;cases h2:(zS t.bals 0).2 with
  | true =>
    rw[afx (fun h=>by have:=h0.1 h;rw[h2]at this;cases this)];refine bY ?_;exact aj
  | false =>
    rw[afA (h0.2 h2)];refine bD ?_;exact aj
 ·have e1:((t.bals.length:Int) != n)=true:=by simp[h1]
  rw[afA h1];refine aW e1 ?_;exact aj
theorem vL(cl:Bool)(l:List Int)(hl:l.length<=2097152):aJ Tryz.prog 148 [.sl 1 cl (ah .u64 l)] [] (.hs 1 0 0 l.length) [.vec 1 (ah .u64 l)]:=by
 refine cZ 3 ?_;refine gon ?_;refine fun b hb=>?_
 cases b with
 | true =>
   have h0:l=[]:=by simpa[rows,ah]using hb rfl
   subst h0;refine kT ?_;refine fR (fQ ?_);refine zg ?_;refine dT 2 1 ?_;simp only[go_sem];refine gon ?_;exact abF [] [0]
 | false =>
   refine bY ?_;exact abF [] [0]
theorem Jo(cl:Bool)(l:List Int)(hl:l.length<=2097152):aJ Tryz.prog 240 [.sl 1 cl (ah .i64 l)] [] (.hs 1 0 0 l.length) [.vec 1 (ah .i64 l)]:=by
 refine cZ 3 ?_;refine gon ?_;refine fun b hb=>?_
 cases b with
 | true =>
   have h0:l=[]:=by simpa[rows,ah]using hb rfl
   subst h0;refine kT ?_;refine fR (fQ ?_);refine zg ?_;refine dT 2 1 ?_;simp only[go_sem];refine gon ?_;exact abF [] [0]
 | false =>
   refine bY ?_;exact abF [] [0]
theorem Te(cl:Bool)(l:List Vot)(hl:l.length<=2097152):aJ Tryz.prog 239 [.sl 34 cl (rows bJ l)] [] (.hs 34 0 0 l.length) [.vec 34 (rows bJ l)]:=by
 refine cZ 3 ?_;refine gon ?_;refine fun b hb=>?_
 cases b with
 | true =>
   have h0:l=[]:=by simpa[rows,ah]using hb rfl
   subst h0;refine kT ?_;refine fR (fQ ?_);refine zg ?_;refine dT 2 34 ?_;simp only[go_sem];refine gon ?_;exact abF [] [0]
 | false =>
   refine bY ?_;exact abF [] [0]
theorem Td(cl:Bool)(l:List Nod)(hl:l.length<=2097152):aJ Tryz.prog 241 [.sl 240 cl (rows aT l)] [] (.hs 240 0 0 l.length) [.vec 240 (rows aT l)]:=by
 refine cZ 3 ?_;refine gon ?_;refine fun b hb=>?_
 cases b with
 | true =>
   have h0:l=[]:=by simpa[rows,ah]using hb rfl
   subst h0;refine kT ?_;refine fR (fQ ?_);refine zg ?_;refine dT 2 240 ?_;simp only[go_sem];refine gon ?_;exact abF [] [0]
 | false =>
   refine bY ?_;exact abF [] [0]
theorem Tb(cl:Bool)(l:List Blk)(hl:l.length<=2097152):aJ Tryz.prog 152 [.sl 238 cl (rows au l)] [] (.hs 238 0 0 l.length) [.vec 238 (rows au l)]:=by
 refine cZ 3 ?_;refine gon ?_;refine fun b hb=>?_
 cases b with
 | true =>
   have h0:l=[]:=by simpa[rows,ah]using hb rfl
   subst h0;refine kT ?_;refine fR (fQ ?_);refine zg ?_;refine dT 2 238 ?_;simp only[go_sem];refine gon ?_;exact abF [] [0]
 | false =>
   refine bY ?_;exact abF [] [0]
theorem Fz(t:aB)(hl:t.bals.length<=2097152):PC Tryz.prog 189 [.agg (bE t.a)] (.agg (bE t.a)):=by
 refine aQ 3 ?_;have c1:=vL false t.bals hl;refine gon ?_;refine ocg [] c1 ?_;exact aj
theorem Fo(t:aX)(hl:t.vals.length<=2097152):PC Tryz.prog 151 [.agg (cK t.a)] (.agg (cK t.a)):=by
 refine aQ 3 ?_;have c1:=Jo false t.vals hl;refine gon ?_;refine ocg [] c1 ?_;exact aj
theorem GU{α:Type}(f:α->List AV)(l:List α)(d:α){i:Nat}(h:i<l.length):rows f (l.take i)++[f (l.getD i d)]=rows f (l.take (i+1)):=by
 rw[dn,acB,afy,afz h];rfl
theorem Mb(l:List aB)(cl:Bool)(hl:l.length<=1000)(hb:∀t∈l,t.bals.length<=2097152):aJ Tryz.prog 242 [.sl 34 cl (rows aB.c l),.fn (.func 189) []] [] (.hs 34 0 0 l.length) [.vec 34 (rows aB.c l)]:=by
 refine cZ 11 ?_;refine gon ?_;refine dT 5 34 ?_;simp only[go_sem];have hz:rows aB.c (l.take 0)=[]:=rfl;refine aE (fun i:Nat=>[(10,.int .i64 i),(5,.hs 34 0 0 i)]) (fun i=>[.vec 34 (rows aB.c (l.take i))]) (fun i=>l.length-i) (fun i=>i<=l.length) 0 (afK _) ?_ ?_
 ·rw[hz];exact abS [] [0]
 intro i hi;refine fM ?_;by_cases h1:i<l.length
 ·have e1:=inT h1;have hw:=ae h1 af0;have hgd:(rows aB.c l).getD i []=bE (l.getD i default).a:=aK (f:=aB.c) default h1;have hsn:=GU aB.c l default h1;have hm:l.getD i default∈l:=by rw[afy,afz h1];exact afY _
  have c1:=Fz _ (hb _ hm);have hli:(l.take i).length=i:=by simp;omega
  generalize l.getD i default=x at *;have hrl:(rows aB.c (l.take i)).length=i:=by simp;omega
  have htk:List.take i (rows aB.c (l.take i))=rows aB.c (l.take i):=afD af0;refine bO e1 ?_;refine aA hgd ?_;refine ap c1 ?_;refine fk hsn hw hli htk ?_;refine⟨i+1,h1,af0,?_⟩;exact abS [] [2]
 ·obtain rfl:i=l.length:=af0
  have e1:=inF (l.length);rw[acL];refine aS e1 ?_;exact abF [] [0]
theorem Ma(l:List aX)(cl:Bool)(hl:l.length<=1000)(hb:∀t∈l,t.vals.length<=2097152):aJ Tryz.prog 150 [.sl 67 cl (rows aX.c l),.fn (.func 151) []] [] (.hs 67 0 0 l.length) [.vec 67 (rows aX.c l)]:=by
 refine cZ 11 ?_;refine gon ?_;refine dT 5 67 ?_;simp only[go_sem];have hz:rows aX.c (l.take 0)=[]:=rfl;refine aE (fun i:Nat=>[(10,.int .i64 i),(5,.hs 67 0 0 i)]) (fun i=>[.vec 67 (rows aX.c (l.take i))]) (fun i=>l.length-i) (fun i=>i<=l.length) 0 (afK _) ?_ ?_
 ·rw[hz];exact abS [] [0]
 intro i hi;refine fM ?_;by_cases h1:i<l.length
 ·have e1:=inT h1;have hw:=ae h1 af0;have hgd:(rows aX.c l).getD i []=cK (l.getD i default).a:=aK (f:=aX.c) default h1;have hsn:=GU aX.c l default h1;have hm:l.getD i default∈l:=by rw[afy,afz h1];exact afY _
  have c1:=Fo _ (hb _ hm);have hli:(l.take i).length=i:=by simp;omega
  generalize l.getD i default=x at *;have hrl:(rows aX.c (l.take i)).length=i:=by simp;omega
  have htk:List.take i (rows aX.c (l.take i))=rows aX.c (l.take i):=afD af0;refine bO e1 ?_;refine aA hgd ?_;refine ap c1 ?_;refine fk hsn hw hli htk ?_;refine⟨i+1,h1,af0,?_⟩;exact abS [] [2]
 ·obtain rfl:i=l.length:=af0
  have e1:=inF (l.length);rw[acL];refine aS e1 ?_;exact abF [] [0]
theorem L5(l:List aB)(cl:Bool)(hl:l.length<=1000)(hb:∀t∈l,t.bals.length<=2097152):aJ Tryz.prog 154 [.sl 34 cl (rows aB.c l)] [] (.hs 34 0 0 l.length) [.vec 34 (rows aB.c l)]:=by
 refine cZ 3 ?_;have c1:=Mb l cl hl hb;refine gon ?_;refine ocg [] c1 ?_;exact abF [] [0]
theorem uT(l:List Nod)(cl:Bool)(hl:l.length<=2097152):aJ Tryz.prog 153 [.agg [.sl 240 cl (rows aT l)]] [] (.agg [.hs 240 0 0 l.length]) [.vec 240 (rows aT l)]:=by
 refine cZ 3 ?_;have c1:=Td cl l hl;refine gon ?_;refine ocg [] c1 ?_;exact abF [] [2]
theorem Jv(l:List Vot)(q:List Int)(hl:l.length<=2097152)(hq:q.length<=2097152):aJ Tryz.prog 149 [.agg [.sl 34 false (rows bJ l),.sl 1 false (ah .i64 q)]] [] (.agg [.hs 34 0 0 l.length,.hs 1 1 0 q.length]) [.vec 34 (rows bJ l),.vec 1 (ah .i64 q)]:=by
 refine cZ 3 ?_;have c1:=Te false l hl;have c2:=Jo false q hq;refine gon ?_;refine dsg [] c1 ?_;refine dsg [] c2 ?_;exact abF [] [2,3]
structure CpR(s:af):Prop where
 bn:s.nodes.length<=2097152
 bl:s.latest.length<=2097152
 be:s.eqv.length<=2097152
 bt:s.tabs.length<=1000
 bb:∀t∈s.tabs,t.bals.length<=2097152
 bo:s.orph.length<=2097152
 ba:s.early.length<=1000
 bv:∀a∈s.early,a.vals.length<=2097152
 bc:s.cfg.bals.length<=2097152
def Ki(s:af):Sto:=⟨⟨s.cfg.lim,s.cfg.spe,s.cfg.boost,s.cfg.ttd,s.cfg.gen,.hs 1 0 0 s.cfg.bals.length⟩,.hs 34 1 0 s.latest.length,.hs 1 2 0 s.eqv.length,s.j,s.f,.hs 67 3 0 s.early.length,.hs 238 4 0 s.orph.length,.hs 240 5 0 s.nodes.length,s.now,s.boost,.hs 34 6 0 s.tabs.length⟩
theorem lH(s:af)(h:CpR s):aJ Tryz.prog 86 [.agg (ak s.a)] [] (.agg (ak (Ki s)))
 [.vec 1 (ah .u64 s.cfg.bals),.vec 34 (rows bJ s.latest),.vec 1 (ah .i64 s.eqv),.vec 67 (rows aX.c s.early),.vec 238 (rows au s.orph),.vec 240 (rows aT s.nodes),.vec 34 (rows aB.c s.tabs)]:=by
 refine cZ 3 ?_;have c1:=vL false s.cfg.bals h.bc;have c2:=Jv s.latest s.eqv h.bl h.be;have c3:=Ma s.early false h.ba h.bv;have c4:=Tb false s.orph h.bo;have c5:=uT s.nodes false h.bn;have c6:=L5 s.tabs false h.bt h.bb;refine gon ?_;refine ocg [] c1 ?_;refine ocg [] c2 ?_;refine ocg [] c3 ?_;refine ocg [] c4 ?_;refine ocg [] c5 ?_;refine ocg [] c6 ?_;exact abF [] [2,3,4,5,6,7,8]
structure iM where
 cs:List AV
 pu:PuL cs
theorem iM.ren(c:iM)(ρ:Nat->Nat):dN ρ c.cs=c.cs:=PuL.ren ρ c.pu
theorem iM.fz(c:iM)(σ:St)(zs:List Nat):fzL σ zs c.cs=c.cs:=PuL.fz σ zs c.pu
attribute [go_sem] iM.ren iM.fz
theorem J3(l:List Nod)(cl:Bool)(fn:FuncId)(c:iM)(p:Nat->Bool)(hl:l.length<=2097152)(hc:∀i,i<l.length->aJ Tryz.prog fn [.agg (aT (l.getD i kr)),.ptr 0 0] [.var c.cs] (.bool (p i)) [.var c.cs]):aJ Tryz.prog 221 [.sl 240 cl (rows aT l),.fn (.func fn) [.ptr 0 0]] [.var c.cs] (.int .i64 (ng (cm p l.length))) [.var c.cs]:=by
 refine cZ 9 ?_;have hN:cm p l.length=gl p (l.length-0) 0:=rfl;refine gon ?_;refine aE (fun i:Nat=>[(8,.int .i64 i)]) (fun _=>[.var c.cs]) (fun i=>l.length-i) (fun i=>i<=l.length/\cm p l.length=gl p (l.length-i) i) 0 ⟨afK _,hN⟩ ?_ ?_
 ·exact abS [] [0]
 clear hN;rintro i ⟨hi,hn⟩;rw[hn];refine fM ?_;by_cases h1:i<l.length
 ·have e1:=inT h1
  have hw:=ae h1 af0;have hgd:(rows aT l).getD i []=aT (l.getD i kr):=aK (f:=aT) kr h1;have c1:=hc i h1;refine bO e1 ?_;refine aA hgd ?_;refine oce [0] c1 ?_;cases h:p i with
  | true =>
    rw[jP h1 h];refine bD ?_;exact abF [] [0]
  | false =>
    rw[jt h1 h];refine d6 ?_;refine aA hw ?_;refine⟨i+1,⟨h1,rfl⟩,af0,?_⟩;exact abS [] [0]
 ·obtain rfl:i=l.length:=af0
  have e1:=inF (l.length);rw[lK];refine aS e1 ?_;exact abF [] [0]
theorem Ub(l:List aB)(cl:Bool)(fn:FuncId)(c:iM)(p:Nat->Bool)(hl:l.length<=2097152)(hc:∀i,i<l.length->aJ Tryz.prog fn [.agg (aB.c (l.getD i default)),.ptr 0 0] [.var c.cs] (.bool (p i)) [.var c.cs]):aJ Tryz.prog 302 [.sl 34 cl (rows aB.c l),.fn (.func fn) [.ptr 0 0]] [.var c.cs] (.int .i64 (ng (cm p l.length))) [.var c.cs]:=by
 refine cZ 9 ?_;have hN:cm p l.length=gl p (l.length-0) 0:=rfl;refine gon ?_;refine aE (fun i:Nat=>[(8,.int .i64 i)]) (fun _=>[.var c.cs]) (fun i=>l.length-i) (fun i=>i<=l.length/\cm p l.length=gl p (l.length-i) i) 0 ⟨afK _,hN⟩ ?_ ?_
 ·exact abS [] [0]
 clear hN;rintro i ⟨hi,hn⟩;rw[hn];refine fM ?_;by_cases h1:i<l.length
 ·have e1:=inT h1
  have hw:=ae h1 af0;have hgd:(rows aB.c l).getD i []=aB.c (l.getD i default):=aK (f:=aB.c) default h1;have c1:=hc i h1;refine bO e1 ?_;refine aA hgd ?_;refine oce [0] c1 ?_;cases h:p i with
  | true =>
    rw[jP h1 h];refine bD ?_;exact abF [] [0]
  | false =>
    rw[jt h1 h];refine d6 ?_;refine aA hw ?_;refine⟨i+1,⟨h1,rfl⟩,af0,?_⟩;exact abS [] [0]
 ·obtain rfl:i=l.length:=af0
  have e1:=inF (l.length);rw[lK];refine aS e1 ?_;exact abF [] [0]
theorem T9(l:List Blk)(cl:Bool)(fn:FuncId)(c:iM)(p:Nat->Bool)(hl:l.length<=2097152)(hc:∀i,i<l.length->aJ Tryz.prog fn [.agg (au (l.getD i dx)),.ptr 0 0] [.var c.cs] (.bool (p i)) [.var c.cs]):aJ Tryz.prog 178 [.sl 238 cl (rows au l),.fn (.func fn) [.ptr 0 0]] [.var c.cs] (.int .i64 (ng (cm p l.length))) [.var c.cs]:=by
 refine cZ 9 ?_;have hN:cm p l.length=gl p (l.length-0) 0:=rfl;refine gon ?_;refine aE (fun i:Nat=>[(8,.int .i64 i)]) (fun _=>[.var c.cs]) (fun i=>l.length-i) (fun i=>i<=l.length/\cm p l.length=gl p (l.length-i) i) 0 ⟨afK _,hN⟩ ?_ ?_
 ·exact abS [] [0]
 clear hN;rintro i ⟨hi,hn⟩;rw[hn];refine fM ?_;by_cases h1:i<l.length
 ·have e1:=inT h1
  have hw:=ae h1 af0;have hgd:(rows au l).getD i []=au (l.getD i dx):=aK (f:=au) dx h1;have c1:=hc i h1;refine bO e1 ?_;refine aA hgd ?_;refine oce [0] c1 ?_;cases h:p i with
  | true =>
    rw[jP h1 h];refine bD ?_;exact abF [] [0]
  | false =>
    rw[jt h1 h];refine d6 ?_;refine aA hw ?_;refine⟨i+1,⟨h1,rfl⟩,af0,?_⟩;exact abS [] [0]
 ·obtain rfl:i=l.length:=af0
  have e1:=inF (l.length);rw[lK];refine aS e1 ?_;exact abF [] [0]
theorem Uc(l:List Vot)(cl:Bool)(fn:FuncId)(p:Nat->Bool)(hl:l.length<=2097152)(hc:∀i,i<l.length->PC Tryz.prog fn [.agg (bJ (l.getD i eY))] (.bool (p i))):PC Tryz.prog 316 [.sl 34 cl (rows bJ l),.fn (.func fn) []] (.int .i64 (ng (cm p l.length))):=by
 refine aQ 9 ?_;have hN:cm p l.length=gl p (l.length-0) 0:=rfl;refine gon ?_;refine aE (fun i:Nat=>[(8,.int .i64 i)]) (fun _=>[]) (fun i=>l.length-i) (fun i=>i<=l.length/\cm p l.length=gl p (l.length-i) i) 0 ⟨afK _,hN⟩ ?_ ?_
 ·exact abS [] []
 clear hN;rintro i ⟨hi,hn⟩;rw[hn];refine fM ?_;by_cases h1:i<l.length
 ·have e1:=inT h1
  have hw:=ae h1 af0;have hgd:(rows bJ l).getD i []=bJ (l.getD i eY):=aK (f:=bJ) eY h1;have c1:=hc i h1;refine bO e1 ?_;refine aA hgd ?_;refine ap c1 ?_;cases h:p i with
  | true =>
    rw[jP h1 h];refine bD ?_;exact aj
  | false =>
    rw[jt h1 h];refine d6 ?_;refine aA hw ?_;refine⟨i+1,⟨h1,rfl⟩,af0,?_⟩;exact abS [] []
 ·obtain rfl:i=l.length:=af0
  have e1:=inF (l.length);rw[lK];refine aS e1 ?_;exact aj
theorem Tj(l:List Nod)(cl:Bool)(fn:FuncId)(c:iM)(p:Nat->Bool)(hl:l.length<=2097152)(hc:∀i,i<l.length->aJ Tryz.prog fn [.agg (aT (l.getD i kr)),.ptr 0 0] [.var c.cs] (.bool (p i)) [.var c.cs]):aJ Tryz.prog 235 [.sl 240 cl (rows aT l),.fn (.func fn) [.ptr 0 0]] [.var c.cs] (.bool (cm p l.length).isSome) [.var c.cs]:=by
 refine cZ 5 ?_;have c1:=J3 l cl fn c p hl hc;refine gon ?_;refine oce [0] c1 ?_;cases h:cm p l.length with
 | none =>
   refine gon ?_;exact abF [] [0]
 | some i =>
   have e2:decide ((i:Int) ≥ 0)=true:=ax af0;refine aA e2 ?_;exact abF [] [0]
theorem acm(l:List aB)(cl:Bool)(fn:FuncId)(c:iM)(p:Nat->Bool)(hl:l.length<=2097152)(hc:∀i,i<l.length->aJ Tryz.prog fn [.agg (aB.c (l.getD i default)),.ptr 0 0] [.var c.cs] (.bool (p i)) [.var c.cs]):aJ Tryz.prog 319 [.sl 34 cl (rows aB.c l),.fn (.func fn) [.ptr 0 0]] [.var c.cs] (.bool (cm p l.length).isSome) [.var c.cs]:=by
 refine cZ 5 ?_;have c1:=Ub l cl fn c p hl hc;refine gon ?_;refine oce [0] c1 ?_;cases h:cm p l.length with
 | none =>
   refine gon ?_;exact abF [] [0]
 | some i =>
   have e2:decide ((i:Int) ≥ 0)=true:=ax af0;refine aA e2 ?_;exact abF [] [0]
theorem Th(l:List Blk)(cl:Bool)(fn:FuncId)(c:iM)(p:Nat->Bool)(hl:l.length<=2097152)(hc:∀i,i<l.length->aJ Tryz.prog fn [.agg (au (l.getD i dx)),.ptr 0 0] [.var c.cs] (.bool (p i)) [.var c.cs]):aJ Tryz.prog 323 [.sl 238 cl (rows au l),.fn (.func fn) [.ptr 0 0]] [.var c.cs] (.bool (cm p l.length).isSome) [.var c.cs]:=by
 refine cZ 5 ?_;have c1:=T9 l cl fn c p hl hc;refine gon ?_;refine oce [0] c1 ?_;cases h:cm p l.length with
 | none =>
   refine gon ?_;exact abF [] [0]
 | some i =>
   have e2:decide ((i:Int) ≥ 0)=true:=ax af0;refine aA e2 ?_;exact abF [] [0]
theorem Tk(l:List Vot)(cl:Bool)(fn:FuncId)(p:Nat->Bool)(hl:l.length<=2097152)(hc:∀i,i<l.length->PC Tryz.prog fn [.agg (bJ (l.getD i eY))] (.bool (p i))):PC Tryz.prog 232 [.sl 34 cl (rows bJ l),.fn (.func fn) []] (.bool (cm p l.length).isSome):=by
 refine aQ 5 ?_;have c1:=Uc l cl fn p hl hc;refine gon ?_;refine ap c1 ?_;cases h:cm p l.length with
 | none =>
   refine gon ?_;exact aj
 | some i =>
   have e2:decide ((i:Int) ≥ 0)=true:=ax af0;refine aA e2 ?_;exact aj
theorem Mg(x:Nod)(r:Rt):aJ Tryz.prog 222 [.agg (aT x),.ptr 0 0] [.var (rtc r)] (.bool (decide (x.blk.root=r))) [.var (rtc r)]:=by
 refine cZ 4 ?_;refine gon ?_;exact abF [] [0]
theorem dW(t:List Nod)(r:Rt)(hb:t.length<=2097152):PC Tryz.prog 125 [.agg [.sl 240 false (rows aT t)],.agg (rtc r)] (.int .i64 (ab t r)):=by
 refine aQ 5 ?_;have c1:=J3 t false 222 ⟨rtc r,dH r⟩ (fun i=>decide ((nod t i).blk.root=r)) hb (fun i _=>Mg _ r);refine gon ?_;refine ocg [1] c1 ?_;exact aj
theorem pT(t:List Nod)(i:Int):PC Tryz.prog 322 [.agg [.sl 240 false (rows aT t)],.int .i64 i] (.bool (isN t i)):=by
 refine aQ 5 ?_;unfold isN;by_cases h0:0<=i
 ·have e0:decide (i ≥ 0)=true:=ax h0;have e1:=ax h0;refine bm e0 e1 ?_;exact aj
 ·have e0:decide (i ≥ 0)=false:=aD h0;have e1:=aD h0;refine bm e0 e1 ?_;exact aj
theorem Vc(t:List Nod)(ht:bk t)(hb:t.length<=2097152)(i slot:Int):PC Tryz.prog 256 [.agg [.sl 240 false (rows aT t)],.int .i64 i,.int .u64 slot] (.int .i64 (atT t i slot)):=by
 refine aQ 7 ?_;generalize hR:atT t i slot=R;refine gon ?_;refine aE (fun j:Int=>[(1,.int .i64 j)]) (fun _=>[.var [.sl 240 false (rows aT t)]]) (fun j=>(j+1).toNat) (fun j=>atT t j slot=R) i hR ?_ ?_
 ·exact abS [] [0]
 clear hR;intro j hR;have c1:=pT t j;refine gon ?_;refine ap c1 ?_;cases h:isN t j with
 | false =>
   rw[vy slot h]at hR;subst hR;refine bY ?_;exact aj
 | true =>
   obtain⟨h0,h1⟩:=ez.1 h;obtain⟨k,rfl⟩:=afF h0;have hk:k<t.length:=af0
   have hgd:(rows aT t).getD k []=aT (nod t k):=aK (f:=aT) kr hk;have hbd:decide ((k:Int)<((t.length:Nat):Int))=true:=ax h1;rw[LI ht hk]at hR
   have hup:(nod t k).up<k:=by
    rcases acF k with h|h
    ·subst h;have:=ht.root;omega
    ·have:=ht.ok k h hk;omega
   refine kT ?_;refine aA hgd ?_;by_cases h2:(nod t k).blk.slot<=slot
   ·have e2:=ax h2;rw[afA h2]at hR;subst hR;refine aW e2 ?_;exact aj
   ·have e2:=aD h2;rw[afx h2]at hR;refine da e2 ?_;refine aA hgd ?_;refine⟨(nod t k).up,hR,af0,?_⟩;exact abS [] [0]
theorem QO(t:List Nod)(ht:bk t)(hb:t.length<=2097152)(a b:Int):PC Tryz.prog 321 [.agg [.sl 240 false (rows aT t)],.int .i64 a,.int .i64 b] (.bool (bw t a b)):=by
 refine aQ 7 ?_;have c1:=pT t a;have c2:=pT t b;refine gon ?_;refine ap c1 ?_;cases ha:isN t a with
 | false =>
   rw[vw ht (.inl ha)];refine bD ?_;exact aj
 | true =>
   refine gon ?_;refine ap c2 ?_;cases hb:isN t b with
   | false =>
     rw[vw ht (.inr hb)];refine bD ?_;exact aj
   | true =>
     refine d6 ?_;generalize hR:bw t a b=R;refine gon ?_;refine aE (fun j:Int=>[(2,.int .i64 j)]) (fun _=>[.var [.sl 240 false (rows aT t)]]) (fun j=>(j+1).toNat) (fun j=>isN t j=true/\bw t a j=R) b ⟨hb,hR⟩ ?_ ?_
     ·exact abS [] [0]
     clear hR hb;rintro j ⟨hj,hR⟩;obtain⟨h0,h1⟩:=ez.1 hj;obtain⟨k,rfl⟩:=afF h0;have hk:k<t.length:=af0
     have ha0:=(ez.1 ha).1;by_cases h2:(k:Int) > a
     ·have e2:=ax h2;have hgd:(rows aT t).getD k []=aT (nod t k):=aK (f:=aT) kr hk;have hbd:decide ((k:Int)<((t.length:Nat):Int))=true:=ax h1;rw[Jc ht hk af0]at hR;have hup:=ht.ok k af0 hk;refine bO e2 ?_;refine aA hgd ?_;refine⟨(nod t k).up,⟨ez.2 af0,hR⟩,af0,?_⟩;exact abS [] [0]
     ·have e2:=aD h2;rw[SQ ht hk af0]at hR;have e3:(a==(k:Int))=R:=by rw[<-hR];by_cases h:a=(k:Int)<;>simp[h]
      refine da e2 ?_;refine aA e3 ?_;exact aj
theorem M6(b:Blk)(st:Int):PC Tryz.prog 85 [.agg (au b),.int .i64 st] (.agg [.sl 240 false (rows aT [⟨b,-1,st⟩])]):=by
 refine aQ 5 ?_;refine gon ?_;refine⟨_,by first|rfl|exact evd,.inr ⟨.agg [.sl 240 true (rows aT [⟨b,-1,st⟩])],evd,by simp[Pu,PuL,gW],Wk.agg ⟨Wk.open_ _ _ _,fun h=>h,trivial⟩⟩⟩
theorem CK(i:Int):PC Tryz.prog 314 [.int .i64 i] (.bool (decide (0<=i)&&decide (i<=2))):=by
 refine aQ 3 ?_;by_cases h0:0<=i
 ·have e0:decide (i ≥ 0)=true:=ax h0;have e1:=ax h0;refine bm e0 e1 ?_;exact aj
 ·have e0:decide (i ≥ 0)=false:=aD h0;have e1:=aD h0;refine bm e0 e1 ?_;exact aj
theorem Ng(b:Blk):PC Tryz.prog 262 [.agg (au b)] (.int .i64 (if b.payload=rt0 then 1 else 0)):=by
 refine aQ 3 ?_;have c1:=gP b.payload;refine gon ?_;refine ap c1 ?_;by_cases h:b.payload=rt0
 ·rw[afA h,ax h];refine bD ?_;exact aj
 ·rw[afx h,aD h];refine bY ?_;exact aj
theorem MR(t:List Nod)(hb:t.length<=2097152):PC Tryz.prog 329 [.sl 240 false (rows aT t)] (.sl 240 true (rows aT t)):=by
 refine aQ 3 ?_;refine gon ?_;exact aj
theorem Q6(t:List Nod)(b:Blk)(st:Int)(hb:t.length<=2097152):PC Tryz.prog 261 [.agg [.sl 240 false (rows aT t)],.agg (au b),.int .i64 st] (.tup [.agg [.sl 240 false (rows aT (eZ t b st).1)],.int .i64 (eZ t b st).2]):=by
 refine aQ 9 ?_;have c1:=CK st;have c2:=dW t b.root hb;have c3:=dW t b.parent hb;have c4:=MR t hb;have b3:=dl t b.parent;unfold eZ;generalize ab t b.root=x at *;generalize ab t b.parent=y at *;refine gon ?_;refine ap c1 ?_;by_cases q1:0<=st/\st<=2
 case neg=>
  have e1:(decide (0<=st)&&decide (st<=2))=false:=by rw[aen,afQ,afQ];omega
  rw[afA q1];refine aW e1 ?_;exact TE
 have e1:(decide (0<=st)&&decide (st<=2))=true:=by simp[q1]
 rw[afx (fun h=>h q1)];refine aS e1 ?_;refine abl c2 ?_;refine eQ (fun h=>?_) (fun h=>?_)
 ·rw[afA (by simpa using h)];refine gon ?_;exact TE
 rw[afx (by simpa using h)];refine gon ?_;refine abl c3 ?_;clear h;refine eQ (fun h=>?_) (fun h=>?_)
 ·rw[afA (by simpa using h)];refine gon ?_;exact TE
 have hy0:0<=y:=by simpa using h
 have hgd:(rows aT t).getD y.toNat []=aT (nod t y.toNat):=aK (f:=aT) kr af0;rw[afx (by simpa using h)];refine aA hgd ?_;clear h;refine eQ (fun h=>?_) (fun h=>?_)
 ·rw[afA (by simpa using h)];refine gon ?_;exact TE
 rw[afx (by simpa using h)];refine gon ?_;clear h;refine eQ (fun h=>?_) (fun h=>?_)
 ·rw[afA (by simp at h;omega)];refine gon ?_;exact TE
 rw[afx (by simp at h;omega)];have hr:=dn aT t ⟨b,y,st⟩;refine gon ?_;refine aP (c4) ?_;refine aA hr ?_;exact aj
theorem Qv(l z:List aB)(dd:aB)(fn:FuncId)(c:iM)(p:Nat->Bool)(hl:l.length<=2097152)(hc:∀i,i<l.length->aJ Tryz.prog fn [.agg (aB.c (l.getD i dd)),.ptr 0 0] [.var c.cs] (.bool (p i)) [.var c.cs]):aJ Tryz.prog 302 [.hs 34 1 0 l.length,.fn (.func fn) [.ptr 0 0]] [.var c.cs,.vec 34 (rows aB.c (l++z))] (.int .i64 (ng (cm p l.length))) [.var c.cs,.vec 34 (rows aB.c (l++z))]:=by
 refine cZ 9 ?_;have hN:cm p l.length=gl p (l.length-0) 0:=rfl;refine gon ?_;refine aE (fun i:Nat=>[(8,.int .i64 i)]) (fun _=>[.var c.cs,.vec 34 (rows aB.c (l++z))]) (fun i=>l.length-i) (fun i=>i<=l.length/\cm p l.length=gl p (l.length-i) i) 0 ⟨afK _,hN⟩ ?_ ?_
 ·exact abS [] [0,1]
 clear hN;rintro i ⟨hi,hn⟩;rw[hn];refine fM ?_;by_cases h1:i<l.length
 ·have e1:=inT h1
  have hw:=ae h1 af0;have hxi:i<(l++z).length:=by simp;omega
  have hgd:(rows aB.c (l++z)).getD i []=aB.c (l.getD i dd):=by rw[aK (f:=aB.c) dd hxi,afy,afU h1,<-afy]
  generalize l++z=u at *;have c1:=hc i h1;refine bO e1 ?_;refine bm hgd hxi ?_;refine oce [0] c1 ?_;cases h:p i with
  | true =>
    rw[jP h1 h];refine bD ?_;exact abF [] [0,1]
  | false =>
    rw[jt h1 h];refine d6 ?_;refine aA hw ?_;refine⟨i+1,⟨h1,rfl⟩,af0,?_⟩;exact abS [] [0,1]
 ·obtain rfl:i=l.length:=af0
  have e1:=inF (l.length);rw[lK];refine aS e1 ?_;exact abF [] [0,1]
theorem Qt(l z:List Blk)(dd:Blk)(fn:FuncId)(c:iM)(p:Nat->Bool)(hl:l.length<=2097152)(hc:∀i,i<l.length->aJ Tryz.prog fn [.agg (au (l.getD i dd)),.ptr 0 0] [.var c.cs] (.bool (p i)) [.var c.cs]):aJ Tryz.prog 178 [.hs 238 1 0 l.length,.fn (.func fn) [.ptr 0 0]] [.var c.cs,.vec 238 (rows au (l++z))] (.int .i64 (ng (cm p l.length))) [.var c.cs,.vec 238 (rows au (l++z))]:=by
 refine cZ 9 ?_;have hN:cm p l.length=gl p (l.length-0) 0:=rfl;refine gon ?_;refine aE (fun i:Nat=>[(8,.int .i64 i)]) (fun _=>[.var c.cs,.vec 238 (rows au (l++z))]) (fun i=>l.length-i) (fun i=>i<=l.length/\cm p l.length=gl p (l.length-i) i) 0 ⟨afK _,hN⟩ ?_ ?_
 ·exact abS [] [0,1]
 clear hN;rintro i ⟨hi,hn⟩;rw[hn];refine fM ?_;by_cases h1:i<l.length
 ·have e1:=inT h1
  have hw:=ae h1 af0;have hxi:i<(l++z).length:=by simp;omega
  have hgd:(rows au (l++z)).getD i []=au (l.getD i dd):=by rw[aK (f:=au) dd hxi,afy,afU h1,<-afy]
  generalize l++z=u at *;have c1:=hc i h1;refine bO e1 ?_;refine bm hgd hxi ?_;refine oce [0] c1 ?_;cases h:p i with
  | true =>
    rw[jP h1 h];refine bD ?_;exact abF [] [0,1]
  | false =>
    rw[jt h1 h];refine d6 ?_;refine aA hw ?_;refine⟨i+1,⟨h1,rfl⟩,af0,?_⟩;exact abS [] [0,1]
 ·obtain rfl:i=l.length:=af0
  have e1:=inF (l.length);rw[lK];refine aS e1 ?_;exact abF [] [0,1]
theorem acb(t:List Nod)(ht:bk t)(i0:Int)(hb:t.length<=2097152)(h0:isN t i0=true):
 PC Tryz.prog 252 [.agg [.sl 240 false (rows aT t)],.int .i64 i0] (.tup [.agg [.sl 240 false (rows aT (fo t i0).1)],.sl 1 false (ah .i64 (fo t i0).2),.int .i64 0]):=by
 refine aQ 24 ?_;unfold fo;obtain⟨g0,g1⟩:=ez.1 h0;have q0:¬i0<0:=af0
 have q1:¬i0 ≥ ((t.length:Nat):Int):=af0
 refine nx fun _=>?_
 refine ou 1 0 240 ?_;simp only[go_sem];refine dT 5 1 ?_;simp only[go_sem];refine dI t.length (fun i=>[(23,.int .i64 i),(5,.hs 1 3 0 (aH (dM t i0) ([],[]) i).2.length)]) (fun i=>[.var [.sl 240 false (rows aT t)],.var [.hs 240 2 0 (aH (dM t i0) ([],[]) i).1.length],.vec 240 (rows aT (aH (dM t i0) ([],[]) i).1),.vec 1 (ah .i64 (aH (dM t i0) ([],[]) i).2)]) (fun i h1 hw h2=>?_) (fun _=>?_)
 ·have hgd:(rows aT t).getD i []=aT (nod t i):=aK (f:=aT) kr h1
  have hs:=bg (dM t i0) ([],[]) i;obtain⟨hl2,hl1⟩:=yk t i0 i;obtain⟨hu1,hu2⟩:=abN ht i0 h1
  have hup:(nod t i).up<i:=by
   rcases acF i with h|h
   ·subst h;have:=ht.root;omega
   ·exact(ht.ok i h h1).2
  generalize aH (dM t i0) ([],[]) i=p at *;obtain⟨kp,ix⟩:=p;dsimp only at hl1 hl2 hu1 hu2;change _=ite _ (kp++[⟨_,ite _ _ (ix.getD _ _),_⟩],ix++[(kp.length:Int)]) (kp,ix++[-1])at hs
  have hr:∀w:Int,ah .i64 ix++[[AV.int .i64 w]]=ah .i64 (ix++[w]):=fun w=>kX .i64 ix [w]
  have hrn:=dn aT kp;clear h0 g0 g1 q0 q1 hu2;by_cases hk:(i:Int)=i0
  ·rw[ax (Or.inl hk)]at hu1;rw[afA hu1,afA hk]at hs;clear hu1;subst hk;have hk:=eq_self (i:Int);refine nx fun _=>?_
   exact gcJ [0,1,6,5]
  rw[afx hk]at hs;by_cases hn:0<=(nod t i).up
  ·have hP:upP t i0 i ix=ix.getD (nod t i).up.toNat 0:=by unfold upP;rw[afA ⟨hk,hn⟩]
   rw[hP]at hu1;obtain⟨u,hu⟩:=afF hn;rw[hu]at hu1 hs hup;rw[afH]at hu1 hs;have hgi:=gdn (k:=.i64) (ns:=ix) (i:=u) af0;have hui:u<i:=af0
   generalize ix.getD u 0=q at *;clear hP hn;by_cases hq:q<0
   ·rw[afx (by rw[hu1];simp;omega)]at hs;clear hu1;refine nx fun _=>?_
    exact gcJ [0,1,2,5]
   ·rw[afA (by rw[hu1];simp;omega)]at hs;clear hu1;refine nx fun _=>?_
    exact gcJ [0,1,6,5]
  ·have hP:upP t i0 i ix=-1:=by unfold upP;rw[afx (fun h=>hn h.2)]
   rw[hP]at hu1;rw[afx (by rw[hu1];simp[hk])]at hs;clear hu1 hP;refine nx fun _=>?_
   exact gcJ [0,1,2,5]
 ·obtain⟨hl2,hl1⟩:=yk t i0 t.length;clear h0 g0 g1;exact aw
def ab3{α:Type}(p:Nat->Bool)(l:List α)(d:α)(i:Nat)(o:List α):List α:=if p i=true then o else o++[l.getD i d]
def SF{α:Type}(p:Nat->Bool)(l:List α)(d:α)(k:Nat):List α:=aH (ab3 p l d) [] k
theorem abX{α:Type}(p:Nat->Bool)(l:List α)(d:α)(k:Nat):SF p l d (k+1)=ab3 p l d k (SF p l d k):=rfl
theorem ab1{α:Type}(p:Nat->Bool)(l:List α)(d:α):∀k,(SF p l d k).length<=k
 |0=>afE _
 | k + 1 => by
   have:=ab1 p l d k;rw[abX];unfold ab3;split<;>simp<;>omega
theorem abT{α:Type}{p:Nat->Bool}{l:List α}(d:α):∀ {k},k<=l.length->(∀i,i<k->p i=false)->SF p l d k=l.take k
 |0,_,_=>by simp[SF,aH]
 | k + 1, hk, h => by
   rw[abX,abT d af0 fun i hi=>h i af0];unfold ab3;rw[afx (by simp[h k af0]),acB,afy,afz (show k<l.length by omega)];rfl
theorem ab8{x:List AV}(h:PuL x):∀n:Nat,fU (List.replicate n x)
 |0=>trivial
 |n+1=>⟨h,ab8 h n⟩
structure abY where
 xs:List (List AV)
 pu:fU xs
theorem abY.ren(c:abY)(ρ:Nat->Nat):dm ρ c.xs=c.xs:=fU.ren ρ c.pu
theorem abY.fz(c:abY)(σ:St)(zs:List Nat):gm σ zs c.xs=c.xs:=fU.fz σ zs c.pu
theorem Gq(ρ:Nat->Nat):∀ (a b:List (List AV)),dm ρ (a++b)=dm ρ a++dm ρ b
 | [],_=>rfl
 |x::a,b=>by simp only[aea,dm,Gq ρ a b]
theorem JL(σ:St)(zs:List Nat):∀ (a b:List (List AV)),gm σ zs (a++b)=gm σ zs a++gm σ zs b
 | [],_=>rfl
 |x::a,b=>by simp only[aea,gm,JL σ zs a b]
attribute [go_sem] abY.ren abY.fz Gq JL
theorem NQ{α:Type}(f:α->List AV)(l:List α)(z:List (List AV)):List.take l.length (rows f l++z)=rows f l:=by
 rw[afS af1];exact afD af1
attribute [go_sem] NQ
theorem Hz{α:Type}(o l:List α)(d:α){i:Nat}(h1:o.length<=i)(h2:i<l.length):(o++l.drop o.length).getD i d=l.getD i d:=by
 rw[afy,afy,acS h1,ae4];congr 2;omega
theorem HA{α:Type}(f:α->List AV)(hf:∀a b,(f a).length=(f b).length)(o l:List α)(x d:α)(h2:o.length<l.length):(rows f (o++l.drop o.length)).set o.length (spl ((rows f (o++l.drop o.length)).getD o.length []) 0 (f x))=rows f (o++[x]++l.drop (o.length+1)):=by
 rw[aK (f:=f) d (by simp;omega),Dc (hf _ _)]
 have:(o++l.drop o.length).set o.length x=o++[x]++l.drop (o.length+1):=by
  rw[aeU _ _ (afE _),aey,acG h2,act,afZ];rfl
 rw[<-this];unfold rows;rw[afk]
theorem Og{α:Type}(f:α->List AV)(o l:List α)(z:List AV)(h2:o.length<=l.length):(rows f (o++l.drop o.length)).take o.length++List.replicate (l.length-o.length) z++(rows f (o++l.drop o.length)).drop (o.length+(l.length-o.length))=rows f o++List.replicate (l.length-o.length) z:=by
 have e:rows f (o++l.drop o.length)=rows f o++rows f (l.drop o.length):=by unfold rows;exact acu
 rw[e,afS af1,afD af1,acK (by simp;try omega),acH]
theorem aal(l:List aB)(dd:aB)(fn:FuncId)(c:iM)(p:Nat->Bool)(hl:l.length<=2097152)(hc:∀i,i<l.length->aJ Tryz.prog fn [.agg (aB.c (l.getD i dd)),.ptr 0 0] [.var c.cs] (.bool (p i)) [.var c.cs]):
 ∃ (z:abY) (kz:Nat),z.xs=List.replicate kz (bE ot:List AV)/\aJ Tryz.prog 250 [.hs 34 1 0 l.length,.fn (.func fn) [.ptr 0 0]] [.var c.cs,.vec 34 (rows aB.c l)] (.hs 34 1 0 (SF p l dd l.length).length) [.var c.cs,.vec 34 (rows aB.c (SF p l dd l.length)++z.xs)]:=by
 have c1:=Qv l [] dd fn c p hl hc;rw[acH]at c1;cases hf:cm p l.length with
 | none =>
   refine⟨⟨[],trivial⟩,0,rfl,?_⟩;have hd:SF p l dd l.length=l:=by rw[abT dd (afE _) (fun k hk=>fh hf k hk),acL]
   rw[hd,acH];rw[hf]at c1;refine cZ 8 ?_;refine gon ?_;refine oce [0,1] c1 ?_;refine bD ?_;exact abF [] [0,1]
 | some j =>
   obtain⟨hj,_,hb⟩:=cJ hf;have hp:=(cJ hf).2.1;rw[hf]at c1;have hd:SF p l dd (j+1)=l.take j:=by rw[abX,abT dd af0 hb];unfold ab3;rw[afA hp]
   have hln:=ab1 p l dd l.length;obtain⟨z,hz⟩:∃z:abY,∀w,w=(bE ot:List AV)->List.replicate (l.length-(SF p l dd l.length).length) w=z.xs:=⟨⟨List.replicate (l.length-(SF p l dd l.length).length) (bE ot:List AV),ab8 (by first|exact gf _|exact(gJ _).2 trivial|simp[PuL,Pu]) _⟩,fun w h=>by rw[h]⟩
   refine⟨z,_,(hz _ rfl).symm,?_⟩;refine cZ 8 ?_;have e0:((j:Int)==-1)=false:=by simp;try omega
   have hw0:IntKind.i64.wrap ((j:Int)+1)=((j+1:Nat):Int):=ae hj af0;refine gon ?_;refine oce [0,1] c1 ?_;refine da e0 ?_;refine aA hw0 ?_;refine aE (fun i:Nat=>[(6,.int .i64 i),(5,.int .i64 (SF p l dd i).length)]) (fun i=>[.var c.cs,.vec 34 (rows aB.c (SF p l dd i++l.drop (SF p l dd i).length))]) (fun i=>l.length-i) (fun i=>i<=l.length/\(SF p l dd i).length<i) (j+1) ⟨hj,by rw[hd];simp;try omega⟩ ?_ ?_
   ·rw[hd];have q1:(l.take j).length=j:=by simp;try omega
    have q2:l.take j++l.drop j=l:=afX j l;rw[q1,q2];exact abS [] [0,1]
   clear hd hp hb e0 hw0;rintro i ⟨hi,hi2⟩;refine fM ?_;by_cases h1:i<l.length
   ·have e1:=inT h1
    have hw:=ae h1 af0;have hs:=abX p l dd i;unfold ab3 at hs;generalize SF p l dd i=o at *;have hxl:i<(o++l.drop o.length).length:=by simp;try omega
    have hxk:o.length<(o++l.drop o.length).length:=by simp;try omega
    have hgd:(rows aB.c (o++l.drop o.length)).getD i []=aB.c (l.getD i dd):=by rw[aK (f:=aB.c) dd hxl,Hz o l dd af0 h1]
    have hset:(rows aB.c (o++l.drop o.length)).set o.length (spl ((rows aB.c (o++l.drop o.length)).getD o.length []) 0 (bE (l.getD i dd).a))=rows aB.c (o++[l.getD i dd]++l.drop (o.length+1)):=HA aB.c (by intro a b;simp[aB.c]) o l (l.getD i dd) dd af0;have hwk:IntKind.i64.wrap ((o.length:Int)+1)=((o.length+1:Nat):Int):=ae (show o.length<l.length by omega) af0;have hkd:decide ((o.length:Int)<((l.length:Nat):Int))=true:=ax af0;have c2:=hc i h1;generalize hu:o++l.drop o.length=u at *;generalize l.getD i dd=x at *;refine bO e1 ?_;refine bm hgd hxl ?_;refine oce [0] c2 ?_;cases h:p i with
    | true =>
      rw[afA h]at hs;refine d6 ?_;refine aA hw ?_;refine⟨i+1,⟨h1,by rw[hs];omega⟩,af0,?_⟩;rw[hs,hu];exact abS [] [0,1]
    | false =>
      rw[afx (by simp[h])]at hs;refine kT ?_;refine ec hw hwk hset hxk hkd ?_;refine⟨i+1,⟨h1,by rw[hs];simp;try omega⟩,af0,?_⟩;rw[hs];exact abS [] [0,1]
   ·obtain rfl:i=l.length:=af0
    have e1:=inF (l.length);generalize SF p l dd l.length=o at *;have hcl:∀z,_=_:=fun z=>Og aB.c o l z hln
    have hdl:(l.drop o.length).length=l.length-o.length:=acT;refine da e1 ?_;refine bm hdl afE ?_;rw[hcl,hz];rotate_left
    ·rfl
    refine eS hcl hdl afE ?_;exact abF [] [0,1]
theorem acj(l:List Blk)(dd:Blk)(fn:FuncId)(c:iM)(p:Nat->Bool)(hl:l.length<=2097152)(hc:∀i,i<l.length->aJ Tryz.prog fn [.agg (au (l.getD i dd)),.ptr 0 0] [.var c.cs] (.bool (p i)) [.var c.cs]):
 ∃ (z:abY) (kz:Nat),z.xs=List.replicate kz (au dx:List AV)/\aJ Tryz.prog 253 [.hs 238 1 0 l.length,.fn (.func fn) [.ptr 0 0]] [.var c.cs,.vec 238 (rows au l)] (.hs 238 1 0 (SF p l dd l.length).length) [.var c.cs,.vec 238 (rows au (SF p l dd l.length)++z.xs)]:=by
 have c1:=Qt l [] dd fn c p hl hc;rw[acH]at c1;cases hf:cm p l.length with
 | none =>
   refine⟨⟨[],trivial⟩,0,rfl,?_⟩;have hd:SF p l dd l.length=l:=by rw[abT dd (afE _) (fun k hk=>fh hf k hk),acL]
   rw[hd,acH];rw[hf]at c1;refine cZ 8 ?_;refine gon ?_;refine oce [0,1] c1 ?_;refine bD ?_;exact abF [] [0,1]
 | some j =>
   obtain⟨hj,_,hb⟩:=cJ hf;have hp:=(cJ hf).2.1;rw[hf]at c1;have hd:SF p l dd (j+1)=l.take j:=by rw[abX,abT dd af0 hb];unfold ab3;rw[afA hp]
   have hln:=ab1 p l dd l.length;obtain⟨z,hz⟩:∃z:abY,∀w,w=(au dx:List AV)->List.replicate (l.length-(SF p l dd l.length).length) w=z.xs:=⟨⟨List.replicate (l.length-(SF p l dd l.length).length) (au dx:List AV),ab8 (by first|exact gf _|exact(gJ _).2 trivial|simp[PuL,Pu]) _⟩,fun w h=>by rw[h]⟩
   refine⟨z,_,(hz _ rfl).symm,?_⟩;refine cZ 8 ?_;have e0:((j:Int)==-1)=false:=by simp;try omega
   have hw0:IntKind.i64.wrap ((j:Int)+1)=((j+1:Nat):Int):=ae hj af0;refine gon ?_;refine oce [0,1] c1 ?_;refine da e0 ?_;refine aA hw0 ?_;refine aE (fun i:Nat=>[(6,.int .i64 i),(5,.int .i64 (SF p l dd i).length)]) (fun i=>[.var c.cs,.vec 238 (rows au (SF p l dd i++l.drop (SF p l dd i).length))]) (fun i=>l.length-i) (fun i=>i<=l.length/\(SF p l dd i).length<i) (j+1) ⟨hj,by rw[hd];simp;try omega⟩ ?_ ?_
   ·rw[hd];have q1:(l.take j).length=j:=by simp;try omega
    have q2:l.take j++l.drop j=l:=afX j l;rw[q1,q2];exact abS [] [0,1]
   clear hd hp hb e0 hw0;rintro i ⟨hi,hi2⟩;refine fM ?_;by_cases h1:i<l.length
   ·have e1:=inT h1
    have hw:=ae h1 af0;have hs:=abX p l dd i;unfold ab3 at hs;generalize SF p l dd i=o at *;have hxl:i<(o++l.drop o.length).length:=by simp;try omega
    have hxk:o.length<(o++l.drop o.length).length:=by simp;try omega
    have hgd:(rows au (o++l.drop o.length)).getD i []=au (l.getD i dd):=by rw[aK (f:=au) dd hxl,Hz o l dd af0 h1]
    have hset:(rows au (o++l.drop o.length)).set o.length (spl ((rows au (o++l.drop o.length)).getD o.length []) 0 (au (l.getD i dd)))=rows au (o++[l.getD i dd]++l.drop (o.length+1)):=HA au (by intro a b;simp[au]) o l (l.getD i dd) dd af0;have hwk:IntKind.i64.wrap ((o.length:Int)+1)=((o.length+1:Nat):Int):=ae (show o.length<l.length by omega) af0;have hkd:decide ((o.length:Int)<((l.length:Nat):Int))=true:=ax af0;have c2:=hc i h1;generalize hu:o++l.drop o.length=u at *;generalize l.getD i dd=x at *;refine bO e1 ?_;refine bm hgd hxl ?_;refine oce [0] c2 ?_;cases h:p i with
    | true =>
      rw[afA h]at hs;refine d6 ?_;refine aA hw ?_;refine⟨i+1,⟨h1,by rw[hs];omega⟩,af0,?_⟩;rw[hs,hu];exact abS [] [0,1]
    | false =>
      rw[afx (by simp[h])]at hs;refine kT ?_;refine ec hw hwk hset hxk hkd ?_;refine⟨i+1,⟨h1,by rw[hs];simp;try omega⟩,af0,?_⟩;rw[hs];exact abS [] [0,1]
   ·obtain rfl:i=l.length:=af0
    have e1:=inF (l.length);generalize SF p l dd l.length=o at *;have hcl:∀z,_=_:=fun z=>Og au o l z hln
    have hdl:(l.drop o.length).length=l.length-o.length:=acT;refine da e1 ?_;refine bm hdl afE ?_;rw[hcl,hz];rotate_left
    ·rfl
    refine eS hcl hdl afE ?_;exact abF [] [0,1]
theorem acf(s:af)(hb:s.nodes.length<=2097152):PC Tryz.prog 168 [.agg (ak s.a)] (.agg (gc (kc s))):=by
 refine aQ 12 ?_;show Tri _ _ _ _ (PQ _ (.agg (gc (CJ s.nodes s.nodes.length).1))) _ _
 have hz:CJ s.nodes 0=(KE,false):=rfl;refine nx fun _=>?_
 refine dI s.nodes.length (fun i=>[(4,.bool (CJ s.nodes i).2),(11,.int .i64 i)]) (fun i=>[.var (ak s.a),.var (gc KE),.var (gc (CJ s.nodes i).1)]) (fun i h1 hw h2=>?_) (fun _=>?_)
 ·have hgd:=dv h1;have hs:=XP s.nodes i;clear hz;generalize CJ s.nodes i=p at *;obtain⟨⟨pj,pf⟩,sm⟩:=p;change _=ite _ _ _ at hs
  generalize nod s.nodes i=B at *;dsimp only at hs;cases sm<;>simp only[aei,afq,afp,aco]at hs<;>exact aw
 ·clear hz;exact aw
def abV(s:af)(c:Cp):Int×Bool:=if ab s.nodes c.rt<0\/(nod s.nodes (ab s.nodes c.rt).toNat).status=2 then (-1,false)
 else (ab s.nodes c.rt,decide ((cH c.ep s.cfg.spe).2=0)&&decide ((nod s.nodes (ab s.nodes c.rt).toNat).blk.slot<=(cH c.ep s.cfg.spe).1))
theorem ab7(s:af)(c:Cp)(hb:s.nodes.length<=2097152)(hc:U64 c.ep):PC Tryz.prog 318 [.agg (ak s.a),.agg (cpC c)] (.tup [.int .i64 (abV s c).1,.bool (abV s c).2]):=by
 refine aQ 9 ?_;have c1:=dW s.nodes c.rt hb;have b1:=dl s.nodes c.rt;have c2:=oV (e:=c.ep) (p:=s.cfg.spe) hc.1 hc.2;unfold abV;generalize ab s.nodes c.rt=I at *;generalize cH c.ep s.cfg.spe=S at *;by_cases q1:I<0
 ·rw[afA (.inl q1)];exact aw
 obtain⟨k,rfl⟩:=afF (ac8.1 q1);have hg1:=dv (t:=s.nodes) (i:=k) af0;have hk:k<s.nodes.length:=af0
 rw[afH];clear b1;by_cases q3:(nod s.nodes k).status=2
 ·rw[afA (.inr q3)];exact aw
 rw[afx (fun h=>h.elim q1 q3)];by_cases q4:S.2=0<;>exact aw
theorem acd(x:aB)(c:Cp):aJ Tryz.prog 320 [.agg (aB.c x),.ptr 0 0] [.var (cpC c)] (.bool (decide (x.cp=c))) [.var (cpC c)]:=by
 refine afn 4 abU ?_;unfold SG;refine bd ?_;refine gon ?_;exact abF [] [0]
def ab9(s:af)(a b:Cp):Bool:=(abV s b).2&&((abV s a).2&&(bw s.nodes (abV s b).1 (abV s a).1&&(decide (b.ep<=a.ep)&&(decide (a.ep<=(iC s.now s.cfg.spe).1)&&(cm (fun i=>decide ((tab s.tabs i).cp=a)) s.tabs.length).isSome))))
theorem ack(s:af)(h:StR s)(a b j0 f0:Cp)(ha:U64 a.ep)(hb:U64 b.ep)(R:Bool)(hR:R=ab9 s a b):Tri Tryz.prog 94 0 (rk.tl 4) (PQ [.cell 6 true 33,.cell 7 true 33,.tmp 8] (.tup [.agg (cpC (bif R then a else cp0)),.agg (cpC (bif R then b else cp0)),.bool R])) ⟨16,[.agg (ak s.a),.agg (cpC j0),.agg (cpC f0),.ptr 0 0,.ptr 1 0,.ptr 2 0,.ptr 3 0,.ptr 4 0,.bool false,.dead,.dead,.dead,.dead,.dead,.dead,.dead],[]⟩ [.var (ak s.a),.var (cpC j0),.var (cpC f0),.var (cpC a),.var (cpC b)]:=by
 unfold rk;refine bd ?_;simp only[am.tl];have c1:=ab7 s b h.bn hb;have c2:=ab7 s a h.bn ha;have c3:=acm s.tabs false 320 ⟨cpC a,gG a⟩ (fun i=>decide ((tab s.tabs i).cp=a)) h.bt (fun i _=>acd _ a);have c4:=pG s.now s.cfg.spe;have c5:=QO s.nodes h.tree h.bn (abV s b).1 (abV s a).1;unfold ab9 at hR;generalize bw s.nodes (abV s b).1 (abV s a).1=V5 at *;generalize abV s a=A at *;generalize abV s b=B at *;generalize (cm (fun i=>decide ((tab s.tabs i).cp=a)) s.tabs.length).isSome=F at *;generalize iC s.now s.cfg.spe=E at *;obtain⟨I,V2⟩:=A;obtain⟨K,V1⟩:=B;obtain⟨E1,E2⟩:=E;dsimp only at c1 c2 c3 c4 c5 hR;refine nx fun _=>?_
 refine oce [3] c3 ?_;refine nx fun _=>?_
 by_cases hv:(V1&&V2&&V5&&F)=true
 ·simp only[afL]at hv
  obtain⟨⟨⟨rfl,rfl⟩,rfl⟩,rfl⟩:=hv;by_cases q8:a.ep<b.ep
  ·rw[aD (show ¬b.ep<=a.ep by omega)]at hR;obtain rfl:R=false:=hR;exact aw
  rw[ax (show b.ep<=a.ep by omega)]at hR;by_cases q9:E1<a.ep
  ·rw[aD (show ¬a.ep<=E1 by omega)]at hR;obtain rfl:R=false:=hR;exact aw
  rw[ax (show a.ep<=E1 by omega)]at hR;obtain rfl:R=true:=hR;exact aw
 ·obtain rfl:R=false:=by rw[hR];cases V1<;>cases V2<;>cases V5<;>cases F<;>simp_all
  clear hR;cases V1
  ·exact aw
  cases V2
  ·exact aw
  cases V5
  ·exact aw
  cases F
  ·exact aw
  ·exact absurd rfl hv
theorem ZQ(s:af)(h:StR s)(j f:Cp)(uj:U64 s.j.ep)(uf:U64 s.f.ep)(hj:U64 j.ep)(hf:U64 f.ep):PC Tryz.prog 249 [.agg (ak s.a),.agg (cpC j),.agg (cpC f)] (.tup [.agg (cpC (bif ab9 s (eU s.j j) (eU s.f f)then eU s.j j else cp0)),.agg (cpC (bif ab9 s (eU s.j j) (eU s.f f)then eU s.f f else cp0)),.bool (ab9 s (eU s.j j) (eU s.f f))]):=by
 have tl:=ack s h (eU s.j j) (eU s.f f) j f (u7 uj hj) (u7 uf hf) _ rfl;refine pfn 16 abW ?_;have hc:rk=.seq rk.hd (.seq (rk.tl 1).hd (.seq (rk.tl 2).hd (.seq (rk.tl 3).hd (rk.tl 4)))):=rfl;rw[hc];clear hc;generalize rk.tl 4=cT at *;unfold rk;refine bd ?_;simp only[am.tl,am.hd];have m1:eU s.j j=if s.j.ep<j.ep then j else s.j:=rfl
 have m2:eU s.f f=if s.f.ep<f.ep then f else s.f:=rfl
 by_cases q1:s.j.ep<j.ep<;>by_cases q2:s.f.ep<f.ep<;>simp only[q1,q2,aco,acq]at m1 m2<;>rw[m1,m2]at tl ⊢<;>clear m1 m2<;>(refine nx fun _=>?_;refine fN ?_ tl;exact abS [] [0,1,2,3,4])
end Go.Proofs.YtmpddimhleianaaGreat
namespace Go.FH
open Go Go.RowKit
theorem sM{e p now:Int}(he:0<=e)(hp:1<=p)(hp2:p<=64)(hn:0<=now)(hn2:now<18446744073709551616)(h:e<=IntKind.u64.wrap (Int.tdiv now p)):(cH e p).2=0:=by
 have hd:Int.tdiv now p=now / p:=acy hn;have h0:0<=now / p:=adx hn af0;have h1:now / p<=now:=adB _ hn;rw[hd,aC h0 af0]at h;have hb:nS p=true:=by simp[nS];omega
 unfold cH;rw[afA hb];unfold Cs;have hd2:Int.tdiv 18446744073709551615 p=18446744073709551615 / p:=acy af2;have hq0:0<=18446744073709551615 / p:=adx af2 af0;have hq1:18446744073709551615 / p<=18446744073709551615:=adB _ af2;have hle:now / p<=18446744073709551615 / p:=Int.ediv_le_ediv af0 af0;rw[hd2,aC hq0 af0,afx af0]
theorem ace(o:Option Nat):o.isSome=decide (0<=ng o):=by
 cases o with
 |none=>rfl
 |some k=>rw[iu];simp
end Go.FH
namespace Go.Proofs.YtmpddimhleianaaGreat
open Go Go.FH Go.RowKit
theorem ta{s:af}(h1:1<=s.cfg.spe)(h2:s.cfg.spe<=64)(n:Int):(iC n s.cfg.spe).1=dg s n:=by
 unfold iC dg;rw[afA (by simp[nS];omega)]
theorem Xp{s:af}(h1:1<=s.cfg.spe)(h2:s.cfg.spe<=64)(hn:U64 s.now){a b:Cp}(ha:U64 a.ep)(hb:U64 b.ep):ab9 s a b=zG s a b:=by
 unfold ab9 zG;rw[ta h1 h2,ace];unfold dr;by_cases hE:a.ep<=dg s s.now
 case neg=>rw[aD hE];simp
 by_cases hB:b.ep<=a.ep
 case neg=>rw[aD hB];simp
 have ka:(cH a.ep s.cfg.spe).2=0:=sM ha.1 h1 h2 hn.1 hn.2 hE;have kb:(cH b.ep s.cfg.spe).2=0:=sM hb.1 h1 h2 hn.1 hn.2 (adK hB hE);unfold lI di abV;rw[ka,kb,ax hE,ax hB];generalize ab s.nodes a.rt=I;generalize ab s.nodes b.rt=K;generalize ng _=T;by_cases i1:I<0
 ·rw[aD (show ¬0<=I by omega),afA (c:=I<0\/_) (.inl i1)];simp
 by_cases i2:K<0
 ·rw[afA (c:=K<0\/_) (.inl i2),aD (show ¬0<=K by omega)];simp
 by_cases i3:(nod s.nodes I.toNat).status=2
 ·rw[afA (c:=I<0\/_) (.inr i3)];simp[i3]
 by_cases i4:(nod s.nodes K.toNat).status=2
 ·rw[afA (c:=K<0\/_) (.inr i4)];simp[i4]
 rw[afx (c:=I<0\/_) (fun h=>h.elim i1 i3),afx (c:=K<0\/_) (fun h=>h.elim i2 i4),ax (show 0<=I by omega),ax (show 0<=K by omega),ax (p:=(nod s.nodes I.toNat).status≠2) i3,ax (p:=(nod s.nodes K.toNat).status≠2) i4];simp only[afb,acD,adP,ac9,adI];generalize decide ((nod s.nodes I.toNat).blk.slot<=_)=x;generalize decide ((nod s.nodes K.toNat).blk.slot<=_)=y;generalize bw s.nodes K I=z;generalize decide (0<=T)=t;cases x<;>cases y<;>cases z<;>cases t<;>rfl
theorem bi.spe{s:af}{i:Nat}(h:bi s i):1<=s.cfg.spe/\s.cfg.spe<=64:=⟨h.cfg.s1,by have:=h.cfg.s4;omega⟩
theorem bi.may{s:af}{i:Nat}(h:bi s i){a b:Cp}(ha:U64 a.ep)(hb:U64 b.ep):ab9 s a b=zG s a b:=Xp h.spe.1 h.spe.2 h.nw.1 ha hb
theorem bi.cp{s:af}{i:Nat}(h:bi s i):CpR s:=by
 have r:=h.r;have h1:=h.tt;have h2:=h.aa;have h3:=h.cfg.b1;exact⟨r.bn,r.bl,r.be,af0,r.bb,r.bo,af0,fun a ha=>by have:=(h.av a ha).len;omega,af0⟩
theorem abj(l:List aB)(e:Int):SF (fun i=>decide ((tab l i).cp.ep<e)) l default l.length=eJ l e:=by
 unfold SF eJ;refine ow fun k x hk=>?_
 unfold ab3 tab;by_cases h:(l.getD k default).cp.ep<e
 ·rw[afA (ax h),afx af0]
 ·rw[afx (by dsimp only;rw[aD h];simp),afA af0]
theorem abk(l:List Blk)(a:Int):SF (fun i=>decide ((l.getD i dx).slot<=a)) l dx l.length=aH (pO l a) [] l.length:=by
 unfold SF;refine ow fun k x hk=>?_
 unfold ab3 pO;by_cases h:(l.getD k dx).slot<=a
 ·rw[afA (ax h),afx af0]
 ·rw[afx (by dsimp only;rw[aD h];simp),afA af0]
theorem aan(x:aB)(c:Cp):aJ Tryz.prog 251 [.agg (aB.c x),.ptr 0 0] [.var (cpC c)] (.bool (decide (x.cp.ep<c.ep))) [.var (cpC c)]:=by
 refine cZ 4 ?_;refine gon ?_;exact abF [] [0]
theorem aao(x:Blk)(a:Int):aJ Tryz.prog 254 [.agg (au x),.ptr 0 0] [.var [.int .u64 a]] (.bool (decide (x.slot<=a))) [.var [.int .u64 a]]:=by
 refine cZ 4 ?_;refine gon ?_;exact abF [] [0]
def y8(s:af):Sto:=⟨s.cfg.a,.sl 34 false (rows bJ s.latest),.sl 1 false (ah .i64 s.eqv),s.j,s.f,.sl 67 false (rows aX.c s.early),.hs 238 0 0 s.orph.length,.sl 240 false (rows aT s.nodes),s.now,s.boost,.sl 34 false (rows aB.c s.tabs)⟩
theorem acg{α:Type}(f:α->List AV)(l z:List α):List.take l.length (rows f (l++z))=rows f l:=by
 unfold rows;rw[acu,afS af1];exact afD af1
attribute [go_sem] acg Nat.le_add_right
theorem Zt(l:List Blk)(fn:FuncId)(c:iM)(p:Nat->Bool)(hl:l.length<=2097152)(hc:∀i,i<l.length->aJ Tryz.prog fn [.agg (au (l.getD i dx)),.ptr 0 0] [.var c.cs] (.bool (p i)) [.var c.cs]):
 ∃z:List Blk,aJ Tryz.prog 253 [.hs 238 1 0 l.length,.fn (.func fn) [.ptr 0 0]] [.var c.cs,.vec 238 (rows au l)] (.hs 238 1 0 (SF p l dx l.length).length) [.var c.cs,.vec 238 (rows au (SF p l dx l.length++z))]:=by
 obtain⟨z,k,hz,h⟩:=acj l dx fn c p hl hc;refine⟨List.replicate k dx,?_⟩
 have:rows au (SF p l dx l.length++List.replicate k dx)=rows au (SF p l dx l.length)++z.xs:=by
  rw[hz];unfold rows;rw[acu,List.map_replicate]
 rw[this];exact h
theorem ab4(s:af)(i:Nat)(h:bi s i)(j f:Cp)(hj:U64 j.ep)(hf:U64 f.ep):
 ∃z:List Blk,aJ Tryz.prog 169 [.agg (ak s.a),.agg (cpC j),.agg (cpC f)] [] (.agg (ak (y8 (dw s j f)))) [.vec 238 (rows au ((dw s j f).orph++z))]:=by
 have c1:=lH s h.cp;unfold Ki at c1;have c2:=ZQ s h.r j f h.uj h.uf hj hf;rw[h.may (u7 h.uj hj) (u7 h.uf hf)]at c2;have hm:=fun e:zG s (eU s.j j) (eU s.f f)=true=>OB e
 unfold dw;have ha:=u7 h.uj hj;have hb:=u7 h.uf hf;generalize eU s.j j=a at *;generalize eU s.f f=b at *;cases hM:zG s a b with
 | false =>
   rw[hM]at c2;rw[afA rfl];refine⟨[],?_⟩;unfold y8;rw[acH];refine afn 13 JF ?_;unfold rL;refine bd ?_;clear hm hM;refine nx fun _=>?_
   refine oce [] c1 ?_;refine nx fun _=>?_
   exact abF [4,5,6,7,9,10] [8]
 | true =>
   rw[hM]at c2;rw[afx af1];obtain⟨k1,k2,k3⟩:=hm hM;obtain⟨zt,_,_,c3⟩:=aal s.tabs default 251 ⟨cpC a,gG a⟩ (fun i=>decide ((tab s.tabs i).cp.ep<a.ep)) (by have:=h.tt;omega) (fun i _=>aan _ a);rw[abj]at c3;clear hm hM;by_cases hs:b=s.f
   ·rw[afA hs];refine⟨[],?_⟩;unfold y8;rw[acH];replace hs:=eq_true hs
    refine afn 13 JF ?_;unfold rL;refine bd ?_;refine nx fun _=>?_
    refine oce [] c1 ?_;refine nx fun _=>?_
    refine oce [12,10] c3 ?_;refine nx fun _=>?_
    exact abF [4,5,6,7,9,10] [8]
   ·rw[afx hs]
    have b2:=dl s.nodes b.rt;have hI:isN s.nodes (ab s.nodes b.rt)=true:=ez.2 ⟨k2,b2.2⟩;have c6:=dW s.nodes b.rt h.r.bn;have c7:=acb s.nodes h.tree (ab s.nodes b.rt) h.r.bn hI;have hl1:(fo s.nodes (ab s.nodes b.rt)).1.length<=s.nodes.length:=(yk s.nodes _ s.nodes.length).2;have c8:=dW (fo s.nodes (ab s.nodes b.rt)).1 s.boost (by have:=h.r.bn;omega);have c9:=oV (e:=b.ep) (p:=s.cfg.spe) hb.1 hb.2;obtain⟨zo,c10⟩:=Zt s.orph 254 ⟨[.int .u64 (cH b.ep s.cfg.spe).1],by simp[PuL,Pu]⟩ (fun k=>decide ((s.orph.getD k dx).slot<=(cH b.ep s.cfg.spe).1)) h.r.bo (fun k _=>aao _ _);rw[abk]at c10;refine⟨zo,?_⟩;unfold y8 di;generalize (fo s.nodes (ab s.nodes b.rt)).2=P2 at *;generalize (fo s.nodes (ab s.nodes b.rt)).1=P1 at *;generalize ab s.nodes b.rt=I at *;generalize ab P1 s.boost=B at *;dsimp only at c10 ⊢;generalize aH (pO s.orph (cH b.ep s.cfg.spe).1) [] s.orph.length=O at *;generalize cH b.ep s.cfg.spe=S at *;obtain⟨S1,S2⟩:=S;dsimp only at c9 c10 ⊢;clear hI b2 k1 k2 k3;refine afn 13 JF ?_;unfold rL;refine bd ?_;refine nx fun _=>?_
    refine oce [] c1 ?_;refine nx fun _=>?_
    refine oce [12,10] c3 ?_;refine nx fun _=>?_
    by_cases q:B<0
    ·rw[afA q];refine nx fun _=>?_
     refine oce [16,8] c10 ?_;refine nx fun _=>?_
     exact abF [4,5,6,7,10] [8]
    ·rw[afx q];refine nx fun _=>?_
     refine oce [16,8] c10 ?_;refine nx fun _=>?_
     exact abF [4,5,6,7,10] [8]
end Go.Proofs.YtmpddimhleianaaGreat
namespace Go.Proofs.YtmpddimhleianaaGreat
open Go Go.FH Go.RowKit
theorem Hx(s:af)(h:CpR s):PC Tryz.prog 86 [.agg (ak s.a)] (.agg (ak s.a)):=by
 have c:=lH s h;unfold Ki at c;refine c.pc puA puA ?_;(try simp only[go_sem,Nat.reduceAdd,Nat.reduceSub,Nat.reduceMul,Nat.reduceLT,Nat.reduceLeDiff,Nat.reduceEqDiff,reduceIte,Int.reduceToNat,Int.reduceLT,Int.reduceLE,Int.reduceEq,Int.reduceNeg,reduceCtorEq,Int.reduceBEq,Int.reduceBNe])
 rfl
theorem ab5(s:af)(i:Nat)(h:bi s i)(a:aX)(ha:a.vals.length<=2097152):PC Tryz.prog 170 [.agg (ak s.a),.agg (cK a.a)] (.tup [.bool (ei s a).1,.int .i64 (ei s a).2]):=by
 refine aQ 15 ?_;obtain⟨R,hR⟩:∃R,R=ei s a:=⟨_,rfl⟩
 rw[<-hR];unfold ei at hR;have c1:=jV a.vals false s.cfg.bals.length af0;have c2:=pG a.slot s.cfg.spe;have c3:=pG s.now s.cfg.spe;have f2:=ta h.spe.1 h.spe.2 a.slot;have f3:=ta h.spe.1 h.spe.2 s.now;have c4:=dW s.nodes a.root h.r.bn;have c5:=dW s.nodes a.target.rt h.r.bn;have b4:=dl s.nodes a.root;have uS:U64 (dg s a.slot):=by unfold dg;exact dc _
 have uN:U64 (dg s s.now):=by unfold dg;exact dc _
 have c6:=oV (e:=dg s a.slot) (p:=s.cfg.spe) uS.1 uS.2;have c7:=fun st=>Vc s.nodes h.tree h.r.bn (ab s.nodes a.root) st
 unfold di at hR;generalize ab s.nodes a.root=I at *;generalize ab s.nodes a.target.rt=G at *;generalize cM a.vals s.cfg.bals.length=V at *;generalize iC a.slot s.cfg.spe=E1 at *;generalize iC s.now s.cfg.spe=E2 at *;obtain⟨e11,e12⟩:=E1;obtain⟨e21,e22⟩:=E2;dsimp only at f2 f3 c2 c3;generalize dg s a.slot=W at *;generalize dg s s.now=M at *;subst f2 f3;by_cases q1:V=0
 case neg=>
  rw[afA q1]at hR;subst hR;exact aw
 rw[afx (by simp[q1])]at hR;subst q1;have uS0:=uS.1;have uS1:=uS.2;have uN0:=uN.1;have uN1:=uN.2;have fail:(a.target.ep≠e11\/(a.target.ep≠e21/\(e21=0\/a.target.ep≠IntKind.u64.wrap (e21-1))))->R=(false,18):=fun hq=>by rw[hR,afA hq]
 by_cases q2:a.target.ep=e11
 case neg=>
  obtain rfl:=fail (.inl q2);clear fail hR;exact aw
 by_cases q3:e21<e11
 ·obtain rfl:=fail (.inr ⟨af0,by
   by_cases h0:e21=0
   ·exact .inl h0
   ·right;rw[aC af0 af0];omega⟩)
  clear fail hR;exact aw
 have ew:IntKind.u64.wrap (e21-e11)=e21-e11:=aC af0 af0;by_cases q4:1<e21-e11
 ·obtain rfl:=fail (.inr ⟨af0,by right;rw[aC af0 af0];omega⟩);clear fail hR;exact aw
 rw [afx (by
  rintro (h|⟨h1,h2⟩)
  ·exact h q2
  ·rcases h2 with h2|h2
   ·omega
   ·by_cases h0:e21=0
    ·omega
    ·rw[aC af0 af0]at h2;omega)]at hR
 clear fail;by_cases q5:I<0
 ·rw[afA (.inl q5)]at hR;subst hR;exact aw
 by_cases q6:G<0
 ·rw[afA (.inr q6)]at hR;subst hR;exact aw
 rw[afx (fun h=>h.elim q5 q6)]at hR;obtain⟨k,rfl⟩:=afF (ac8.1 q5);have hg:(rows aT s.nodes).getD k []=aT (nod s.nodes k):=aK (f:=aT) kr af0;have hk:k<s.nodes.length:=af0
 rw[afH,q2]at hR;generalize cH e11 s.cfg.spe=S at *;obtain⟨S1,S2⟩:=S;dsimp only at c6 hR;have c7:=c7 S1;generalize atT s.nodes k S1=T at *;subst hR;clear uS uN b4;by_cases q8:T=G
 ·rw[afx (show ¬T≠G from fun h=>h q8)];exact aw
 ·rw[afA (show T≠G from q8)];exact aw
theorem aca(s:af)(i:Nat)(h:bi s i)(a:aX)(ha:a.vals.length<=2097152):
 aJ Tryz.prog 170 [.agg (ak { s.a with early:=.hs 67 0 0 s.early.length }),.agg (cK a.a)] [.vec 67 (rows aX.c s.early)] (.tup [.bool (ei s a).1,.int .i64 (ei s a).2]) [.vec 67 (rows aX.c s.early)]:=by
 refine aJ.lend rfl ?_;have ht:List.take s.early.length (rows aX.c s.early)=rows aX.c s.early:=afD af1;(try simp only[go_sem,ht,afG,afM,acV,adl])
 exact ab5 s i h a ha
theorem CE(s:af)(i0:Nat)(h:bi s i0)(a:aX)(ha:a.vals.length<=2097152)(hj:∀j∈a.vals,0<=j/\j<s.latest.length):
 aJ Tryz.prog 171 [.agg (ak s.a),.agg (cK a.a)] [] (.agg (ak { (castIn s a).a with early:=.hs 67 0 0 s.early.length })) [.vec 67 (rows aX.c s.early)]:=by
 have c1:=lH s h.cp;unfold Ki at c1;unfold castIn vJ;generalize hep:a.target.ep=ep;generalize hl:a.vals=l at *;refine cZ 22 ?_;refine gon ?_;refine oce [] c1 ?_;refine bm hep hl ?_
 refine aE (fun i:Nat=>[(21,.int .i64 i)]) (fun i=>[.var (ak s.a),.var (cK a.a),.var (ak i6),.vec 1 (ah .u64 s.cfg.bals),.vec 34 (rows bJ (aH (kP ep a.root l) (s.latest,0) i).1),.vec 1 (ah .i64 s.eqv),.vec 67 (rows aX.c s.early),.vec 238 (rows au s.orph),.vec 240 (rows aT s.nodes),.vec 34 (rows aB.c s.tabs),.var (ak ⟨⟨s.cfg.lim,s.cfg.spe,s.cfg.boost,s.cfg.ttd,s.cfg.gen,.hs 1 3 0 s.cfg.bals.length⟩,.hs 34 4 0 s.latest.length,.hs 1 5 0 s.eqv.length,s.j,s.f,.hs 67 6 0 s.early.length,.hs 238 7 0 s.orph.length,.hs 240 8 0 s.nodes.length,s.now,s.boost,.hs 34 9 0 s.tabs.length⟩),.var (bJ ⟨true,ep,a.root⟩)]) (fun i=>l.length-i) (fun i=>i<=l.length) 0 (afK _) ?_ ?_
 ·exact abS [] [0,1,2,3,4,5,6,7,8,9,10,11]
 intro i hi;refine fM ?_;by_cases h1:i<l.length
 ·have e1:=inT h1
  have hw:=ae h1 af0;have hgd:=gdn (k:=.i64) h1;have hm:l.getD i 0∈l:=by rw[afy,afz h1];exact afY h1
  obtain⟨j0,j1⟩:=hj _ hm;have hs:=bg (kP ep a.root l) (s.latest,0) i;have hlen:=nP ep a.root l s.latest i;generalize aH (kP ep a.root l) (s.latest,0) i=p at *;obtain⟨u,n⟩:=p;dsimp only at hlen;have h3:(l.getD i 0).toNat<u.length:=af0
  have hgu:(rows bJ u).getD (l.getD i 0).toNat []=bJ (vot u (l.getD i 0).toNat):=aK (f:=bJ) eY h3;have hc:kP ep a.root l i (u,n)=if (vot u (l.getD i 0).toNat).has=false\/(vot u (l.getD i 0).toNat).ep<ep then (u.set (l.getD i 0).toNat ⟨true,ep,a.root⟩,IntKind.i64.wrap (n+1))else (u,n):=rfl
  generalize hx:vot u (l.getD i 0).toNat=x at *;generalize l.getD i 0=j at *;have hset:(rows bJ u).set j.toNat (bJ ⟨true,ep,a.root⟩)=rows bJ (u.set j.toNat ⟨true,ep,a.root⟩):=pY bJ u j.toNat ⟨true,ep,a.root⟩;dsimp only;refine On e1 hgd hl hep ?_;obtain⟨xh,xe,xr⟩:=x;dsimp only at hc;cases xh with
  | false =>
    rw[afA (.inl rfl)]at hc;refine BP hgd hgu hlen ?_;refine ec hgd hgu hset hw hlen ?_;refine⟨i+1,h1,af0,?_⟩;rw[hs,hc];exact abS [] [0,1,2,3,4,5,6,7,8,9,10,11]
  | true =>
    by_cases hx2:xe<ep
    ·have e2:=ax hx2;rw[afA (.inr hx2)]at hc;refine On hgd hgu e2 hlen ?_;refine ec hgd hgu hset hw hlen ?_;refine⟨i+1,h1,af0,?_⟩;rw[hs,hc];exact abS [] [0,1,2,3,4,5,6,7,8,9,10,11]
    ·have e2:=aD hx2;rw[afx (by simp[hx2])]at hc;refine BQ hgd hgu e2 hlen ?_;refine aA hw ?_;refine⟨i+1,h1,af0,?_⟩;rw[hs,hc];exact abS [] [0,1,2,3,4,5,6,7,8,9,10,11]
 ·obtain rfl:i=l.length:=af0
  have e1:=inF (l.length);have hlen:=nP ep a.root l s.latest l.length;generalize (aH (kP ep a.root l) (s.latest,0) l.length).1=L at *;rw[<-hlen];refine aS e1 ?_;exact abF [3,4,5,7,8,9] [6]
theorem Nj(s:af)(m:Nat)(h:bi s m):PC Tryz.prog 103 [.agg (ak s.a)] (.tup [.agg (ak (dF s).1.a),.int .i64 (dF s).2]):=by
 refine aQ 45 ?_;unfold dF;have hsp:=h.cfg.s1;have hs4:=h.cfg.s4;have hge:decide (s.now ≥ 1099511627776)=decide ((1099511627776:Int)<=s.now):=rfl;by_cases q1:1099511627776<=s.now
 ·have e1:decide ((1099511627776:Int)<=s.now)=true:=ax q1;rw[afA q1];refine dV hge e1 ?_;exact iG (by first|rfl|exact evd) (by first|rfl|exact evd)
 have e1:decide ((1099511627776:Int)<=s.now)=false:=aD q1;rw[afx q1];have hA:=h.tickA q1;have hB:=hA.tickB;have c0:=Hx s h.cp;have c1:=acf (tickA s) hA.r.bn;have up:U64 (kc (tickA s)).j.ep/\U64 (kc (tickA s)).f.ep:=HY fun k hk=>hA.blk hk
 obtain⟨zz,cu⟩:=ab4 (tickA s) m hA (kc (tickA s)).j (kc (tickA s)).f up.1 up.2
 have c2:PC Tryz.prog 169 [.agg (ak (tickA s).a),.agg (cpC (kc (tickA s)).j),.agg (cpC (kc (tickA s)).f)] (.agg (ak (dw (tickA s) (kc (tickA s)).j (kc (tickA s)).f).a)):=by
  unfold y8 at cu;refine cu.pc puA puA ?_;(try simp only[go_sem,Nat.reduceAdd,Nat.reduceSub,Nat.reduceMul,Nat.reduceLT,Nat.reduceLeDiff,Nat.reduceEqDiff,reduceIte,Int.reduceToNat,Int.reduceLT,Int.reduceLE,Int.reduceEq,Int.reduceNeg,reduceCtorEq,Int.reduceBEq,Int.reduceBNe])
  rfl
 clear cu;have c3:=T7 (tickA s).now (tickA s).cfg.spe
 have hmod:IntKind.u64.wrap (Int.tmod (tickA s).now (tickA s).cfg.spe)=Int.tmod (tickA s).now (tickA s).cfg.spe:=by
  have hn:=hA.nw.1;have hsp':1<=(tickA s).cfg.spe:=hsp;rw[adC hn.lo];have h1:=Int.emod_nonneg (tickA s).now (show (tickA s).cfg.spe≠0 by omega);have h2:=Int.emod_lt_of_pos (tickA s).now (show 0<(tickA s).cfg.spe by omega);have hs4':(tickA s).cfg.spe<=4:=hs4;exact aC h1 af0
 have heb:nS (tickA s).cfg.spe=true:=by
  have hsp':1<=(tickA s).cfg.spe:=hsp;have hs4':(tickA s).cfg.spe<=4:=hs4;simp[nS];omega
 rw[heb,acD]at c3;have hT1:Int.tmod (tickA s).now (tickA s).cfg.spe=0->tickB (tickA s)=dw (tickA s) (kc (tickA s)).j (kc (tickA s)).f:=fun hz=>by unfold tickB;rw[hmod,afA hz]
 have hT2:Int.tmod (tickA s).now (tickA s).cfg.spe≠0->tickB (tickA s)=tickA s:=fun hz=>by unfold tickB;rw[hmod,afx hz]
 show Tri _ _ _ _ (PQ _ (.tup [.agg (ak (dA (tickB (tickA s)) (tickB (tickA s)).early.length).a),.int .i64 0])) _ _
 generalize tickB (tickA s)=S2 at *;refine pi hge e1 ?_;refine abl c0 ?_;refine ap c3 ?_;refine tF (fun _=>[]) (fun _=>[.var (ak s.a),.var (ak i6),.var (ak S2.a)]) (fun hT=>?_) (fun hF=>?_) ?_
 ·rw[hT1 (by simpa using hT)];refine gon ?_;refine abl c1 ?_;refine abl c2 ?_;exact abS [] [0,1,2]
 ·rw[hT2 (by simpa using hF)];refine gon ?_;exact abS [] [0,1,2]
 clear hT1 hT2 hmod c1 c2 c0 c3;refine gon ?_;refine ou 2 113 67 ?_ af5 (by exact uH _);simp only[go_sem,uI];have hK:∀k,k<=S2.early.length->bi (dA S2 k) m/\(dA S2 k).early.length<=k:=bi.tickR hB.av hB.aa hB
 have hz:dA S2 0=withE S2 []:=rfl;have haa:=hB.aa;refine aE (fun i:Nat=>[(44,.int .i64 i)]) (fun i=>[.var (ak s.a),.var (ak i6),.var (ak { (dA S2 i).a with early:=.hs 67 3 0 (dA S2 i).early.length }),.vec 67 (rows aX.c (dA S2 i).early)]) (fun i=>S2.early.length-i) (fun i=>i<=S2.early.length) 0 (afK _) ?_ ?_
 ·rw[hz];unfold withE;exact abS [] [0,1,2,3]
 intro i hk;obtain⟨hki,hkl⟩:=hK i hk;have hsk:=O9 S2 i;refine fM ?_;by_cases h1:i<S2.early.length
 ·have e1:=inT h1
  have hw:=ae h1 af0;have hgd:(rows aX.c S2.early).getD i []=cK (fB S2.early i).a:=aK (f:=aX.c) default h1;have hav:=(hB.av _ (rH h1)).len;have hc:tickR S2.early i (dA S2 i)=if (dA S2 i).now<=(fB S2.early i).slot then withE (dA S2 i) ((dA S2 i).early++[fB S2.early i])else if (ei (dA S2 i) (fB S2.early i)).2=0 then castIn (dA S2 i) (fB S2.early i)else dA S2 i:=rfl
  have c1:=aca (dA S2 i) m hki (fB S2.early i) af0;have c2:=CE (dA S2 i) m hki (fB S2.early i) af0
  have hj:(ei (dA S2 i) (fB S2.early i)).2=0->∀j∈(fB S2.early i).vals,0<=j/\j<(dA S2 i).latest.length:=fun hq j hjm=>by
   have hv:cM (fB S2.early i).vals (dA S2 i).cfg.bals.length=0:=by
    unfold ei at hq;split at hq
    ·rename_i h1;exact absurd hq h1
    ·rename_i h1;simpa using h1
   obtain⟨u,hm,rfl⟩:=acp hjm;have:=(ie hv).2 u hm;rw[afy,afz hm,ac7]at this;have hll:=hki.ll;omega
  clear hK;have hcl:(castIn (dA S2 i) (fB S2.early i)).early=(dA S2 i).early:=rfl;rw[hc]at hsk;generalize hs:dA S2 i=s1 at *;generalize fB S2.early i=a at *;have hr:rows aX.c s1.early++[cK a.a]=rows aX.c (s1.early++[a]):=dn aX.c s1.early a;generalize hR:ei s1 a=R at *;obtain⟨R1,R2⟩:=R;dsimp only at c1 hsk hj;have hg2:decide (a.slot ≥ s1.now)=decide (s1.now<=a.slot):=rfl;refine bO e1 ?_;refine aA hgd ?_;by_cases q2:s1.now<=a.slot
  ·have e2:=ax q2;rw[afA q2]at hsk;refine Om hg2 e2 ?_;refine eS hgd hr hw ?_;refine⟨i+1,h1,af0,?_⟩;rw[hsk];unfold withE;exact abS [] [0,1,2,5]
  ·have e2:=aD q2
   rw[afx q2]at hsk;refine iJ hg2 e2 ?_;refine aA hgd ?_;refine ocg [3] c1 ?_;by_cases q3:R2=0
   ·rw[afA q3]at hsk;subst q3;have c3:=c2 (hj rfl);generalize hcs:castIn s1 a=s3 at *;refine kT ?_;have ht:List.take s1.early.length (rows aX.c s1.early)=rows aX.c s1.early:=afD af1;refine Dt [3] ?_;simp only[evZ,BO];(try simp only[go_sem,Nat.reduceAdd,Nat.reduceSub,Nat.reduceMul,Nat.reduceLT,Nat.reduceLeDiff,Nat.reduceEqDiff,reduceIte,Int.reduceToNat,Int.reduceLT,Int.reduceLE,Int.reduceEq,Int.reduceNeg,reduceCtorEq,Int.reduceBEq,Int.reduceBNe,ht])
    refine gon ?_;refine oce [] c3 ?_;refine aA hw ?_;refine⟨i+1,h1,af0,?_⟩;rw[hsk,hcl];exact abS [] [0,1,2,5]
   ·have e3:(R2==0)=false:=by simp[q3]
    rw[afx q3]at hsk;refine da e3 ?_;refine aA hw ?_;refine⟨i+1,h1,af0,?_⟩;rw[hsk];exact abS [] [0,1,2,3]
 ·obtain rfl:i=S2.early.length:=af0
  have e1:=inF (S2.early.length);generalize dA S2 S2.early.length=s1 at *;have ht:List.take s1.early.length (rows aX.c s1.early)=rows aX.c s1.early:=afD af1;refine aS e1 ?_;refine⟨_,(by first|rfl|exact evd),.inl ?_⟩;exact uv ht
end Go.Proofs.YtmpddimhleianaaGreat
