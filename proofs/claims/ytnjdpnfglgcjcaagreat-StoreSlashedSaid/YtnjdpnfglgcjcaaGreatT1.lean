/-
 My texts Qa, Qb, Qc, joined.
-/
import Derived.Test.YtnjdpnfglgcjcaaGreatW3
import Derived.Test.YtnjdpnfglgcjcaaGreatW4
import Derived.Test.YtnjdpnfglgcjcaaGreatV5
import Derived.Test.YtnjdpnfglgcjcaaGreatW5
import Derived.Test.YtnjdpnfglgcjcaaGreatV4
set_option linter.unusedVariables false
set_option linter.unusedSimpArgs false
set_option maxRecDepth 8000
set_option maxHeartbeats 4000000
namespace Go.Proofs.YtnjdpnfglgcjcaaGreat
open Go Go.FH Go.RowKit
theorem UU{n:Int}(h0:0<=n)(h1:n<18446744073709551616):gr .u64 n 4294967295=n%4294967296:=by
 obtain⟨m,rfl⟩:=Int.eq_ofNat_of_zero_le h0;unfold gr
 have:(BitVec.ofInt IntKind.u64.bits (m:Int) &&& BitVec.ofInt IntKind.u64.bits 4294967295).toNat=m%4294967296:=by
  rw[BitVec.toNat_and,BitVec.ofInt_natCast,show BitVec.ofInt IntKind.u64.bits 4294967295=BitVec.ofNat IntKind.u64.bits (2 ^ 32-1)by decide,BitVec.toNat_ofNat,BitVec.toNat_ofNat];rw[show (2 ^ 32-1)%2 ^ IntKind.u64.bits=2 ^ 32-1 by decide,Nat.and_two_pow_sub_one_eq_mod];rw[Nat.mod_mod_of_dvd _ (by decide)]
 rw[this,aU (by omega) (by omega)];omega
theorem ZK(n:Int):fH .u64 n 32=n / 4294967296:=by
 unfold fH;rw[show ((2:Int) ^ (min 32 IntKind.u64.bits))=4294967296 by decide];exact Int.fdiv_eq_ediv_of_nonneg _ (by omega)
theorem xO(n:Int):PC Tryz.prog 246 [.int .u64 n] (.bool (mO n)):=by
 refine PC.fact 3 LS (by simp) puA puA ?_;unfold yx;refine bd ?_;unfold mO;cases h:decide (1<=n)with
 | true =>
   refine ap h ?_;exact af
 | false =>
   refine ap h ?_;exact af
theorem kX(s p:Int):PC Tryz.prog 254 [.int .u64 s,.int .u64 p] (.tup [.int .u64 (fC s p).1,.int .i64 (fC s p).2]):=by
 refine PC.fact 6 CQ (by simp) puA puA ?_;unfold rz;refine bd ?_;have c1:=xO p;unfold fC;refine gon ?_;refine ai c1 ?_;cases h:mO p with
 | true =>
   have h0:p≠0:=by simp[mO]at h;omega
   rw[if_pos rfl];refine dk ?_;refine ap h0 ?_;exact af
 | false =>
   rw[if_neg (by simp)];refine aV ?_;exact af
theorem Rs{x0 x1 y0 y1:Int}(hx0:0<=x0)(hx0':x0<4294967296)(hx1:0<=x1)(hx1':x1<4294967296)(hy0:0<=y0)(hy0':y0<4294967296)(hy1:0<=y1)(hy1':y1<4294967296)(x y:Int)(hx:x=x1*4294967296+x0)(hy:y=y1*4294967296+y0):
 PC Tryz.prog 390 [.int .u64 x,.int .u64 y] (.tup [.int .u64 (x*y / 18446744073709551616),.int .u64 (IntKind.u64.wrap (x*y))]):=by
 refine PC.fact 14 yF (by simp) puA puA ?_;unfold oF;refine bd ?_;obtain⟨b00,b10,b01,b11,hz⟩:=abG hx0 hx0' hx1 hx1' hy0 hy0' hy1 hy1';have mk:∀n:Int,0<=n->n<18446744073709551616->gr .u64 n 4294967295=n%4294967296:=fun n h1 h2=>UU h1 h2
 have sh:∀n:Int,fH .u64 n 32=n / 4294967296:=fun n=>ZK n
 have e1:gr .u64 x 4294967295=x0:=by rw[mk x (by omega) (by omega)];omega
 have e2:fH .u64 x 32=x1:=by rw[sh];omega
 have e3:gr .u64 y 4294967295=y0:=by rw[mk y (by omega) (by omega)];omega
 have e4:fH .u64 y 32=y1:=by rw[sh];omega
 have hxy:x*y=x1*y1*18446744073709551616+(x1*y0+x0*y1)*4294967296+x0*y0:=by rw[hx,hy];exact hz
 have e5:IntKind.u64.wrap (x0*y0)=x0*y0:=lj b00.1 (by omega);have e6:IntKind.u64.wrap (x1*y0)=x1*y0:=lj b10.1 (by omega);have e7:IntKind.u64.wrap (x0*y1)=x0*y1:=lj b01.1 (by omega);have e8:IntKind.u64.wrap (x1*y1)=x1*y1:=lj b11.1 (by omega);generalize hpz:x*y=z at *;clear hz;generalize hp0:x0*y0=p00 at *;generalize hp1:x1*y0=p10 at *;generalize hp2:x0*y1=p01 at *;generalize hp3:x1*y1=p11 at *;have e9:fH .u64 p00 32=p00 / 4294967296:=sh _;have e10:IntKind.u64.wrap (p10+p00 / 4294967296)=p10+p00 / 4294967296:=lj (by omega) (by omega);have e11:gr .u64 (p10+p00 / 4294967296) 4294967295=(p10+p00 / 4294967296)%4294967296:=mk _ (by omega) (by omega);have e12:fH .u64 (p10+p00 / 4294967296) 32=(p10+p00 / 4294967296) / 4294967296:=sh _;generalize hT:p10+p00 / 4294967296=T at *;have e13:IntKind.u64.wrap (T%4294967296+p01)=T%4294967296+p01:=lj (by omega) (by omega);have e14:IntKind.u64.wrap (p11+T / 4294967296)=p11+T / 4294967296:=lj (by omega) (by omega);have e15:fH .u64 (T%4294967296+p01) 32=(T%4294967296+p01) / 4294967296:=sh _;have e16:IntKind.u64.wrap (p11+T / 4294967296+(T%4294967296+p01) / 4294967296)=z / 18446744073709551616:=by rw[lj (by omega) (by omega)];omega
 repeat(first|refine bU ?_|simp only[go_sem,hpz,hp0,hp1,hp2,hp3,hT,e1,e2,e3,e4,e5,e6,e7,e8,e9,e10,e11,e12,e13,e14,e15,e16])
 exact af
theorem Wv{a b:Int}(ha:0<=a)(ha2:a<18446744073709551616)(hb:0<=b)(hb2:b<18446744073709551616):PC Tryz.prog 337 [.int .u64 a,.int .u64 b] (.tup [.int .u64 (CV a b).1,.int .i64 (CV a b).2]):=by
 rw[<-ZT ha ha2 hb hb2];refine PC.fact 8 N4 (by simp) puA puA ?_;unfold BH;refine bd ?_;have c1:=Rs (x0:=a%4294967296) (x1:=a / 4294967296) (y0:=b%4294967296) (y1:=b / 4294967296) (by omega) (by omega) (by omega) (by omega) (by omega) (by omega) (by omega) (by omega) a b (by omega) (by omega);unfold abF;refine gon ?_;refine ai c1 ?_;by_cases h:a*b / 18446744073709551616=0
 ·have e1:(a*b / 18446744073709551616==0)=true:=by simp[h]
  rw[if_pos h];refine aE e1 ?_;exact af
 ·have e1:(a*b / 18446744073709551616==0)=false:=by simp[h]
  rw[if_neg h];refine aD e1 ?_;exact af
theorem iw{e p:Int}(he:0<=e)(he2:e<18446744073709551616):PC Tryz.prog 251 [.int .u64 e,.int .u64 p] (.tup [.int .u64 (bD e p).1,.int .i64 (bD e p).2]):=by
 refine PC.fact 6 CS (by simp) puA puA ?_;unfold rB;refine bd ?_;have c1:=xO p;unfold bD;refine gon ?_;refine ai c1 ?_;cases h:mO p with
 | true =>
   have c2:=Wv he he2 (b:=p) (by simp[mO]at h;omega) (by simp[mO]at h;omega);rw[if_pos rfl];refine bh ?_;refine acT c2 ?_;exact af
 | false =>
   rw[if_neg (by simp)];refine aV ?_;exact af
theorem XK(s p:Int):PC Tryz.prog 122 [.int .u64 s,.int .u64 p] (.bool (mO p&&decide (Int.tmod s p=0))):=by
 refine PC.fact 5 CR (by simp) puA puA ?_;unfold rA;refine bd ?_;have c1:=xO p;refine gon ?_;refine ai c1 ?_;cases h:mO p with
 | true =>
   have h0:p≠0:=by simp[mO]at h;omega
   have e1:(Int.tmod s p==0)=decide (Int.tmod s p=0):=by by_cases h:Int.tmod s p=0<;>simp[h]
   refine aO h0 e1 ?_;exact af
 | false =>
   refine gon ?_;exact af
theorem jk(r:Rt):PC Tryz.prog 146 [.agg (rtc r)] (.bool (decide (r=rt0))):=by
 refine PC.fact 3 EL (by simp) puA puA ?_;unfold sH;refine bd ?_;refine gon ?_;exact af
theorem T8(a b:Rt):aI Tryz.prog 391 [.va 1 0 0 32,.va 1 1 0 32] [.var (rtc a),.var (rtc b)] (.int .i64 (rI a b)) [.var (rtc a),.var (rtc b)]:=by
 refine aI.fact 8 Ct (by simp) ?_ (by simp);unfold ra;refine bd ?_;have e1:=Zz a b;refine ap e1 ?_;exact adb [] [0,1]
theorem VA(a b:Rt):PC Tryz.prog 339 [.agg (rtc a),.agg (rtc b)] (.int .i64 (rI a b)):=by
 refine PC.fact 5 CO (by simp) puA puA ?_;unfold rx;refine bd ?_;have c1:=T8 a b;refine gon ?_;refine QB [0,1] (c1) evd (bx.mk' (by simp) evd) ?_;refine evg ?_;refine gon ?_;exact af
theorem Fb(n:Int):PC Tryz.prog 349 [.int .u64 n] (.bool false):=by
 refine PC.fact 3 xc (by simp) puA puA ?_;unfold nu;refine bd ?_;refine gon ?_;exact af
theorem Wu(a b:Int):PC Tryz.prog 274 [.int .u64 a,.int .u64 b] (.int .i64 (W9 a b)):=by
 refine PC.fact 7 sV (by simp) puA puA ?_;unfold lD;refine bd ?_;have c1:=Fb a;have c2:=Fb b;unfold W9;refine gon ?_;refine acT c1 ?_;refine ai c2 ?_;refine bh ?_;refine abW ?_;by_cases h1:a<b
 ·have e1:=ak h1;rw[if_pos h1];refine aE e1 ?_;exact af
 ·have e1:=au h1
  rw[if_neg h1];refine aD e1 ?_;by_cases h2:b<a
  ·have e2:=ak h2;rw[if_pos h2];refine aE e2 ?_;exact af
  ·have e2:=au h2;rw[if_neg h2];refine aD e2 ?_;exact af
theorem Z3(l:List Int)(cl:Bool)(hl:l.length<=1000):PC Tryz.prog 273 [.sl 1 cl (ax .i64 l)] (.int .i64 (orI l)):=by
 refine PC.fact 9 K9 (by simp) puA puA ?_;unfold yc;refine bd ?_;obtain⟨R,hR⟩:∃R,R=orI (l.drop 0):=⟨_,rfl⟩
 have hR0:orI l=R:=by rw[hR,List.drop_zero]
 rw[hR0];refine gon ?_;refine ay (fun i:Nat=>[(8,.int .i64 i)]) (fun _=>[]) (fun i=>l.length-i) (fun i=>i<=l.length/\R=orI (l.drop i)) 0 ⟨Nat.zero_le _,hR⟩ ?_ ?_
 ·exact adk [] []
 clear hR hR0;rintro i ⟨hi,hn⟩;refine dM ?_;by_cases h1:i<l.length
 ·have e1:=inT h1
  have hw:=ah h1 (by omega);rw[List.drop_eq_getElem_cons h1]at hn;have hg:l.getD i 0=l[i]:=by simp[List.getD,h1]
  rw[<-hg]at hn;have hgd:=gdn (k:=.i64) h1;generalize l.getD i 0=x at *;simp only[orI]at hn;refine bg e1 ?_;refine ap hgd ?_;by_cases h2:x=0
  ·subst h2;rw[if_neg (by simp)]at hn;refine dk ?_;refine ap hw ?_;refine⟨i+1,⟨h1,hn⟩,by omega,?_⟩;exact adk [] []
  ·have e2:(x != 0)=true:=by simp[h2]
   rw[if_pos h2]at hn;subst hn;refine aE e2 ?_;exact af
 ·obtain rfl:i=l.length:=by omega
  have e1:=inF (l.length);rw[List.drop_length]at hn;subst hn;refine aD e1 ?_;exact af
theorem X5(a b:Cp):PC Tryz.prog 262 [.agg (cpC a),.agg (cpC b)] (.int .i64 (gh a b)):=by
 refine PC.fact 5 uF (by simp) puA puA ?_;unfold mr;refine bd ?_;have c1:=Wu a.ep b.ep;have c2:=VA a.rt b.rt;have c3:=Z3 [W9 a.ep b.ep,rI a.rt b.rt] true (by simp);rw[Z2]at c3;refine gon ?_;refine aC (c1) ?_;refine gon ?_;refine aC (c2) ?_;refine gon ?_;refine aC (c3) ?_;refine gon ?_;exact af
theorem AF(a b:aH):PC Tryz.prog 141 [.agg (bE a.a),.agg (bE b.a)] (.int .i64 (gh a.cp b.cp)):=by
 refine PC.fact 5 Ew (by simp) puA puA ?_;unfold sk;refine bd ?_;have c1:=X5 a.cp b.cp;refine gon ?_;refine acT c1 ?_;exact af
theorem Uk(l:List Int)(cl:Bool)(hl:l.length<=1000000):PC Tryz.prog 261 [.sl 1 cl (ax .u64 l)] (.tup [.int .u64 (Dg l 0).1,.bool (Dg l 0).2]):=by
 refine PC.fact 10 Ec (by simp) puA puA ?_;unfold sb;refine bd ?_;obtain⟨R,hR⟩:∃R,R=Dg (l.drop 0) 0:=⟨_,rfl⟩
 have hR0:Dg l 0=R:=by rw[hR,List.drop_zero]
 rw[hR0];refine gon ?_;refine ay (fun x:Nat×Int=>[(9,.int .i64 x.1),(4,.int .u64 x.2)]) (fun _=>[]) (fun x=>l.length-x.1) (fun x=>x.1<=l.length/\R=Dg (l.drop x.1) x.2) (0,0) ⟨Nat.zero_le _,hR⟩ ?_ ?_
 ·exact adk [] []
 clear hR hR0;rintro⟨i,n⟩ ⟨hi,hn⟩;dsimp only at hi hn ⊢;refine dM ?_;by_cases h1:i<l.length
 ·have e1:=inT h1
  have hw:=ah h1 (by omega);rw[List.drop_eq_getElem_cons h1]at hn;have hg:l.getD i 0=l[i]:=by simp[List.getD,h1]
  rw[<-hg]at hn;have hgd:=gdn (k:=.u64) h1;generalize l.getD i 0=x at *;simp only[Dg]at hn;refine bg e1 ?_;refine ap hgd ?_;by_cases h2:IntKind.u64.wrap (4611686018427387904-n)<x
  ·have e2:=ak h2;rw[if_pos h2]at hn;subst hn;refine aE e2 ?_;exact af
  ·have e2:=au h2;rw[if_neg h2]at hn;refine aQ e2 ?_;refine ap hw ?_;refine⟨(i+1,IntKind.u64.wrap (n+x)),⟨h1,hn⟩,by dsimp only;omega,?_⟩;exact adk [] []
 ·obtain rfl:i=l.length:=by omega
  have e1:=inF (l.length);rw[List.drop_length]at hn;subst hn;refine aD e1 ?_;exact af
theorem wv(t:aH)(n:Int)(hl:t.bals.length<=1000000)(hu:∀x∈t.bals,0<=x/\x<18446744073709551616):PC Tryz.prog 139 [.agg (bE t.a),.int .i64 n] (.int .i64 (fJ t n)):=by
 refine PC.fact 7 ph (by simp) puA puA ?_;unfold ja;refine bd ?_;have c1:=Uk t.bals false hl;have h0:=Kb hu;unfold fJ;by_cases h1:(t.bals.length:Int)=n
 ·have e1:((t.bals.length:Int) != n)=false:=by simp[h1]
  rw[if_neg (by simp[h1])];refine aD e1 ?_;refine ai c1 ?_;cases h2:(Dg t.bals 0).2 with
  | true =>
    rw[if_neg (fun h=>by have:=h0.1 h;rw[h2]at this;cases this)];refine bh ?_;exact af
  | false =>
    rw[if_pos (h0.2 h2)];refine aV ?_;exact af
 ·have e1:((t.bals.length:Int) != n)=true:=by simp[h1]
  rw[if_pos h1];refine aE e1 ?_;exact af
theorem Wp{α:Type}(f:α->List AV)(l:List α):List.take l.length (rows f l)=rows f l:=List.take_of_length_le (by simp)
theorem Wo(k:IntKind)(l:List Int):List.take l.length (ax k l)=ax k l:=List.take_of_length_le (by simp)
attribute [go_sem] Wp Wo
theorem NL(cl:Bool)(l:List Int)(hl:l.length<=1000000):aI Tryz.prog 217 [.sl 1 cl (ax .u64 l)] [] (.hs 1 0 0 l.length) [.vec 1 (ax .u64 l)]:=by
 refine aI.fact 3 mi (by simp) ?_ (by simp);unfold gC;refine bd ?_;refine gon ?_;refine fun b hb=>?_
 cases b with
 | true =>
   have h0:l=[]:=by simpa[rows,ax]using hb rfl
   subst h0;refine kO ?_;refine iO (iN ?_);refine Pv ?_;refine eY 2 1 ?_;simp only[go_sem];refine gon ?_;exact adb [] [0]
 | false =>
   refine bh ?_;exact adb [] [0]
theorem NI(cl:Bool)(l:List Int)(hl:l.length<=1000000):aI Tryz.prog 257 [.sl 1 cl (ax .i64 l)] [] (.hs 1 0 0 l.length) [.vec 1 (ax .i64 l)]:=by
 refine aI.fact 3 qL (by simp) ?_ (by simp);unfold kg;refine bd ?_;refine gon ?_;refine fun b hb=>?_
 cases b with
 | true =>
   have h0:l=[]:=by simpa[rows,ax]using hb rfl
   subst h0;refine kO ?_;refine iO (iN ?_);refine Pv ?_;refine eY 2 1 ?_;simp only[go_sem];refine gon ?_;exact adb [] [0]
 | false =>
   refine bh ?_;exact adb [] [0]
theorem W6(cl:Bool)(l:List Vot)(hl:l.length<=1000000):aI Tryz.prog 315 [.sl 34 cl (rows bM l)] [] (.hs 34 0 0 l.length) [.vec 34 (rows bM l)]:=by
 refine aI.fact 3 ku (by simp) ?_ (by simp);unfold fQ;refine bd ?_;refine gon ?_;refine fun b hb=>?_
 cases b with
 | true =>
   have h0:l=[]:=by simpa[rows,ax]using hb rfl
   subst h0;refine kO ?_;refine iO (iN ?_);refine Pv ?_;refine eY 2 34 ?_;simp only[go_sem];refine gon ?_;exact adb [] [0]
 | false =>
   refine bh ?_;exact adb [] [0]
theorem W5(cl:Bool)(l:List Nod)(hl:l.length<=1000000):aI Tryz.prog 316 [.sl 240 cl (rows aP l)] [] (.hs 240 0 0 l.length) [.vec 240 (rows aP l)]:=by
 refine aI.fact 3 kr (by simp) ?_ (by simp);unfold fP;refine bd ?_;refine gon ?_;refine fun b hb=>?_
 cases b with
 | true =>
   have h0:l=[]:=by simpa[rows,ax]using hb rfl
   subst h0;refine kO ?_;refine iO (iN ?_);refine Pv ?_;refine eY 2 240 ?_;simp only[go_sem];refine gon ?_;exact adb [] [0]
 | false =>
   refine bh ?_;exact adb [] [0]
theorem W4(cl:Bool)(l:List Blk)(hl:l.length<=1000000):aI Tryz.prog 220 [.sl 238 cl (rows aA l)] [] (.hs 238 0 0 l.length) [.vec 238 (rows aA l)]:=by
 refine aI.fact 3 jA (by simp) ?_ (by simp);unfold fB;refine bd ?_;refine gon ?_;refine fun b hb=>?_
 cases b with
 | true =>
   have h0:l=[]:=by simpa[rows,ax]using hb rfl
   subst h0;refine kO ?_;refine iO (iN ?_);refine Pv ?_;refine eY 2 238 ?_;simp only[go_sem];refine gon ?_;exact adb [] [0]
 | false =>
   refine bh ?_;exact adb [] [0]
theorem IQ(t:aH)(hl:t.bals.length<=1000000):PC Tryz.prog 143 [.agg (bE t.a)] (.agg (bE t.a)):=by
 refine PC.fact 3 Es (by simp) puA puA ?_;unfold sg;refine bd ?_;have c1:=NL false t.bals hl;refine gon ?_;refine bP [] (c1) evd (bx.mk' (by simp) evd) ?_;refine evg ?_;refine gon ?_;exact af
theorem IG(t:aW)(hl:t.vals.length<=1000000):PC Tryz.prog 128 [.agg (bZ t.a)] (.agg (bZ t.a)):=by
 refine PC.fact 3 sW (by simp) puA puA ?_;unfold lE;refine bd ?_;have c1:=NI false t.vals hl;refine gon ?_;refine bP [] (c1) evd (bx.mk' (by simp) evd) ?_;refine evg ?_;refine gon ?_;exact af
theorem J5{α:Type}(f:α->List AV)(l:List α)(d:α){i:Nat}(h:i<l.length):rows f (l.take i)++[f (l.getD i d)]=rows f (l.take (i+1)):=by
 rw[da,List.take_add_one,List.getD_eq_getElem?_getD,List.getElem?_eq_getElem h];rfl
theorem QH(l:List aH)(cl:Bool)(hl:l.length<=1000)(hb:∀t∈l,t.bals.length<=1000000):aI Tryz.prog 317 [.sl 34 cl (rows aH.c l),.fn (.func 143) []] [] (.hs 34 0 0 l.length) [.vec 34 (rows aH.c l)]:=by
 refine aI.fact 11 qb (by simp) ?_ (by simp);unfold jG;refine bd ?_;refine gon ?_;refine eY 5 34 ?_;simp only[go_sem];have hz:rows aH.c (l.take 0)=[]:=rfl;refine ay (fun i:Nat=>[(10,.int .i64 i),(5,.hs 34 0 0 i)]) (fun i=>[.vec 34 (rows aH.c (l.take i))]) (fun i=>l.length-i) (fun i=>i<=l.length) 0 (Nat.zero_le _) ?_ ?_
 ·rw[hz];exact adk [] [0]
 intro i hi;refine dM ?_;by_cases h1:i<l.length
 ·have e1:=inT h1;have hw:=ah h1 (by omega);have hgd:(rows aH.c l).getD i []=bE (l.getD i default).a:=aM (f:=aH.c) default h1;have hsn:=J5 aH.c l default h1;have hm:l.getD i default∈l:=by rw[List.getD_eq_getElem?_getD,List.getElem?_eq_getElem h1];exact List.getElem_mem _
  have c1:=IQ _ (hb _ hm);have hli:(l.take i).length=i:=by simp;omega
  generalize l.getD i default=x at *;have hrl:(rows aH.c (l.take i)).length=i:=by simp;omega
  have htk:List.take i (rows aH.c (l.take i))=rows aH.c (l.take i):=List.take_of_length_le (by omega);refine bg e1 ?_;refine ap hgd ?_;refine ai c1 ?_;refine eW hsn hw hli htk ?_;refine⟨i+1,h1,by omega,?_⟩;exact adk [] [2]
 ·obtain rfl:i=l.length:=by omega
  have e1:=inF (l.length);rw[List.take_length];refine aD e1 ?_;exact adb [] [0]
theorem QG(l:List aW)(cl:Bool)(hl:l.length<=1000)(hb:∀t∈l,t.vals.length<=1000000):aI Tryz.prog 219 [.sl 67 cl (rows aW.c l),.fn (.func 128) []] [] (.hs 67 0 0 l.length) [.vec 67 (rows aW.c l)]:=by
 refine aI.fact 11 lR (by simp) ?_ (by simp);unfold gk;refine bd ?_;refine gon ?_;refine eY 5 67 ?_;simp only[go_sem];have hz:rows aW.c (l.take 0)=[]:=rfl;refine ay (fun i:Nat=>[(10,.int .i64 i),(5,.hs 67 0 0 i)]) (fun i=>[.vec 67 (rows aW.c (l.take i))]) (fun i=>l.length-i) (fun i=>i<=l.length) 0 (Nat.zero_le _) ?_ ?_
 ·rw[hz];exact adk [] [0]
 intro i hi;refine dM ?_;by_cases h1:i<l.length
 ·have e1:=inT h1;have hw:=ah h1 (by omega);have hgd:(rows aW.c l).getD i []=bZ (l.getD i default).a:=aM (f:=aW.c) default h1;have hsn:=J5 aW.c l default h1;have hm:l.getD i default∈l:=by rw[List.getD_eq_getElem?_getD,List.getElem?_eq_getElem h1];exact List.getElem_mem _
  have c1:=IG _ (hb _ hm);have hli:(l.take i).length=i:=by simp;omega
  generalize l.getD i default=x at *;have hrl:(rows aW.c (l.take i)).length=i:=by simp;omega
  have htk:List.take i (rows aW.c (l.take i))=rows aW.c (l.take i):=List.take_of_length_le (by omega);refine bg e1 ?_;refine ap hgd ?_;refine ai c1 ?_;refine eW hsn hw hli htk ?_;refine⟨i+1,h1,by omega,?_⟩;exact adk [] [2]
 ·obtain rfl:i=l.length:=by omega
  have e1:=inF (l.length);rw[List.take_length];refine aD e1 ?_;exact adb [] [0]
theorem Qz(l:List aH)(cl:Bool)(hl:l.length<=1000)(hb:∀t∈l,t.bals.length<=1000000):aI Tryz.prog 222 [.sl 34 cl (rows aH.c l)] [] (.hs 34 0 0 l.length) [.vec 34 (rows aH.c l)]:=by
 refine aI.fact 3 Cw (by simp) ?_ (by simp);unfold rc;refine bd ?_;have c1:=QH l cl hl hb;refine gon ?_;refine bP [] (c1) evd (bx.mk' (by simp) evd) ?_;refine evg ?_;refine gon ?_;exact adb [] [0]
theorem QA(l:List Nod)(cl:Bool)(hl:l.length<=1000000):aI Tryz.prog 221 [.agg [.sl 240 cl (rows aP l)]] [] (.agg [.hs 240 0 0 l.length]) [.vec 240 (rows aP l)]:=by
 refine aI.fact 3 Hd (by simp) ?_ (by simp);unfold vm;refine bd ?_;have c1:=W5 cl l hl;refine gon ?_;refine bP [] (c1) evd (bx.mk' (by simp) evd) ?_;refine evg ?_;refine gon ?_;exact adb [] [2]
theorem NN(l:List Vot)(q:List Int)(hl:l.length<=1000000)(hq:q.length<=1000000):aI Tryz.prog 218 [.agg [.sl 34 false (rows bM l),.sl 1 false (ax .i64 q)]] [] (.agg [.hs 34 0 0 l.length,.hs 1 1 0 q.length]) [.vec 34 (rows bM l),.vec 1 (ax .i64 q)]:=by
 refine aI.fact 3 Et (by simp) ?_ (by simp);unfold si;refine bd ?_;have c1:=W6 false l hl;have c2:=NI false q hq;refine gon ?_;refine cO [] (c1) (by simp) evd (dt.mk' (by simp) (by simp) evd) ?_;refine evg ?_;refine gon ?_;refine cO [] (c2) (by simp) evd (dt.mk' (by simp) (by simp) evd) ?_;refine evg ?_;refine gon ?_;exact adb [] [2,3]
structure CpR(s:am):Prop where
 bn:s.nodes.length<=1000000
 bl:s.latest.length<=1000000
 be:s.eqv.length<=1000000
 bt:s.tabs.length<=1000
 bb:∀t∈s.tabs,t.bals.length<=1000000
 bo:s.orph.length<=1000000
 ba:s.early.length<=1000
 bv:∀a∈s.early,a.vals.length<=1000000
 bc:s.cfg.bals.length<=1000000
def OO(s:am):Sto:=⟨⟨s.cfg.lim,s.cfg.spe,s.cfg.boost,s.cfg.ttd,s.cfg.gen,.hs 1 0 0 s.cfg.bals.length⟩,.hs 34 1 0 s.latest.length,.hs 1 2 0 s.eqv.length,s.j,s.f,.hs 67 3 0 s.early.length,.hs 238 4 0 s.orph.length,.hs 240 5 0 s.nodes.length,s.now,s.boost,.hs 34 6 0 s.tabs.length⟩
theorem kW(s:am)(h:CpR s):aI Tryz.prog 102 [.agg (aw s.a)] [] (.agg (aw (OO s)))
 [.vec 1 (ax .u64 s.cfg.bals),.vec 34 (rows bM s.latest),.vec 1 (ax .i64 s.eqv),.vec 67 (rows aW.c s.early),.vec 238 (rows aA s.orph),.vec 240 (rows aP s.nodes),.vec 34 (rows aH.c s.tabs)]:=by
 refine aI.fact 3 Er (by simp) ?_ (by simp);unfold sf;refine bd ?_;have c1:=NL false s.cfg.bals h.bc;have c2:=NN s.latest s.eqv h.bl h.be;have c3:=QG s.early false h.ba h.bv;have c4:=W4 false s.orph h.bo;have c5:=QA s.nodes false h.bn;have c6:=Qz s.tabs false h.bt h.bb;refine gon ?_;refine bP [] (c1) evd (bx.mk' (by simp) evd) ?_;refine evg ?_;refine gon ?_;refine bP [] (c2) evd (bx.mk' (by simp) evd) ?_;refine evg ?_;refine gon ?_;refine bP [] (c3) evd (bx.mk' (by simp) evd) ?_;refine evg ?_;refine gon ?_;refine bP [] (c4) evd (bx.mk' (by simp) evd) ?_;refine evg ?_;refine gon ?_;refine bP [] (c5) evd (bx.mk' (by simp) evd) ?_;refine evg ?_;refine gon ?_;refine bP [] (c6) evd (bx.mk' (by simp) evd) ?_;refine evg ?_;refine gon ?_;exact adb [] [2,3,4,5,6,7,8]
structure gZ where
 cs:List AV
 pu:PuL cs
theorem gZ.ren(c:gZ)(ρ:Nat->Nat):dP ρ c.cs=c.cs:=PuL.ren ρ c.pu
theorem gZ.fz(c:gZ)(σ:St)(zs:List Nat):fzL σ zs c.cs=c.cs:=PuL.fz σ zs c.pu
attribute [go_sem] gZ.ren gZ.fz
theorem Oy(l:List Nod)(cl:Bool)(fn:FuncId)(c:gZ)(p:Nat->Bool)(hl:l.length<=1000000)(hc:∀i,i<l.length->aI Tryz.prog fn [.agg (aP (l.getD i jm)),.ptr 0 0] [.var c.cs] (.bool (p i)) [.var c.cs]):aI Tryz.prog 271 [.sl 240 cl (rows aP l),.fn (.func fn) [.ptr 0 0]] [.var c.cs] (.int .i64 (rP (cE p l.length))) [.var c.cs]:=by
 refine aI.fact 9 iS (by simp) ?_ (by simp);unfold fe;refine bd ?_;have hN:cE p l.length=fw p (l.length-0) 0:=rfl;refine gon ?_;refine ay (fun i:Nat=>[(8,.int .i64 i)]) (fun _=>[.var c.cs]) (fun i=>l.length-i) (fun i=>i<=l.length/\cE p l.length=fw p (l.length-i) i) 0 ⟨Nat.zero_le _,hN⟩ ?_ ?_
 ·exact adk [] [0]
 clear hN;rintro i ⟨hi,hn⟩;rw[hn];refine dM ?_;by_cases h1:i<l.length
 ·have e1:=inT h1
  have hw:=ah h1 (by omega);have hgd:(rows aP l).getD i []=aP (l.getD i jm):=aM (f:=aP) jm h1;have c1:=hc i h1;refine bg e1 ?_;refine ap hgd ?_;refine bP [0] (c1) evd (bx.mk' (by simp) evd) ?_;refine evg ?_;cases h:p i with
  | true =>
    rw[f9 h1 h];refine aV ?_;exact adb [] [0]
  | false =>
    rw[fW h1 h];refine dk ?_;refine ap hw ?_;refine⟨i+1,⟨h1,rfl⟩,by omega,?_⟩;exact adk [] [0]
 ·obtain rfl:i=l.length:=by omega
  have e1:=inF (l.length);rw[gQ];refine aD e1 ?_;exact adb [] [0]
theorem XM(l:List aH)(cl:Bool)(fn:FuncId)(c:gZ)(p:Nat->Bool)(hl:l.length<=1000000)(hc:∀i,i<l.length->aI Tryz.prog fn [.agg (aH.c (l.getD i default)),.ptr 0 0] [.var c.cs] (.bool (p i)) [.var c.cs]):aI Tryz.prog 336 [.sl 34 cl (rows aH.c l),.fn (.func fn) [.ptr 0 0]] [.var c.cs] (.int .i64 (rP (cE p l.length))) [.var c.cs]:=by
 refine aI.fact 9 eN (by simp) ?_ (by simp);unfold dA;refine bd ?_;have hN:cE p l.length=fw p (l.length-0) 0:=rfl;refine gon ?_;refine ay (fun i:Nat=>[(8,.int .i64 i)]) (fun _=>[.var c.cs]) (fun i=>l.length-i) (fun i=>i<=l.length/\cE p l.length=fw p (l.length-i) i) 0 ⟨Nat.zero_le _,hN⟩ ?_ ?_
 ·exact adk [] [0]
 clear hN;rintro i ⟨hi,hn⟩;rw[hn];refine dM ?_;by_cases h1:i<l.length
 ·have e1:=inT h1
  have hw:=ah h1 (by omega);have hgd:(rows aH.c l).getD i []=aH.c (l.getD i default):=aM (f:=aH.c) default h1;have c1:=hc i h1;refine bg e1 ?_;refine ap hgd ?_;refine bP [0] (c1) evd (bx.mk' (by simp) evd) ?_;refine evg ?_;cases h:p i with
  | true =>
    rw[f9 h1 h];refine aV ?_;exact adb [] [0]
  | false =>
    rw[fW h1 h];refine dk ?_;refine ap hw ?_;refine⟨i+1,⟨h1,rfl⟩,by omega,?_⟩;exact adk [] [0]
 ·obtain rfl:i=l.length:=by omega
  have e1:=inF (l.length);rw[gQ];refine aD e1 ?_;exact adb [] [0]
theorem XL(l:List Blk)(cl:Bool)(fn:FuncId)(c:gZ)(p:Nat->Bool)(hl:l.length<=1000000)(hc:∀i,i<l.length->aI Tryz.prog fn [.agg (aA (l.getD i dO)),.ptr 0 0] [.var c.cs] (.bool (p i)) [.var c.cs]):aI Tryz.prog 148 [.sl 238 cl (rows aA l),.fn (.func fn) [.ptr 0 0]] [.var c.cs] (.int .i64 (rP (cE p l.length))) [.var c.cs]:=by
 refine aI.fact 9 dC (by simp) ?_ (by simp);unfold cM;refine bd ?_;have hN:cE p l.length=fw p (l.length-0) 0:=rfl;refine gon ?_;refine ay (fun i:Nat=>[(8,.int .i64 i)]) (fun _=>[.var c.cs]) (fun i=>l.length-i) (fun i=>i<=l.length/\cE p l.length=fw p (l.length-i) i) 0 ⟨Nat.zero_le _,hN⟩ ?_ ?_
 ·exact adk [] [0]
 clear hN;rintro i ⟨hi,hn⟩;rw[hn];refine dM ?_;by_cases h1:i<l.length
 ·have e1:=inT h1
  have hw:=ah h1 (by omega);have hgd:(rows aA l).getD i []=aA (l.getD i dO):=aM (f:=aA) dO h1;have c1:=hc i h1;refine bg e1 ?_;refine ap hgd ?_;refine bP [0] (c1) evd (bx.mk' (by simp) evd) ?_;refine evg ?_;cases h:p i with
  | true =>
    rw[f9 h1 h];refine aV ?_;exact adb [] [0]
  | false =>
    rw[fW h1 h];refine dk ?_;refine ap hw ?_;refine⟨i+1,⟨h1,rfl⟩,by omega,?_⟩;exact adk [] [0]
 ·obtain rfl:i=l.length:=by omega
  have e1:=inF (l.length);rw[gQ];refine aD e1 ?_;exact adb [] [0]
theorem XN(l:List Vot)(cl:Bool)(fn:FuncId)(p:Nat->Bool)(hl:l.length<=1000000)(hc:∀i,i<l.length->PC Tryz.prog fn [.agg (bM (l.getD i fg))] (.bool (p i))):PC Tryz.prog 387 [.sl 34 cl (rows bM l),.fn (.func fn) []] (.int .i64 (rP (cE p l.length))):=by
 refine PC.fact 9 iT (by simp) puA puA ?_;unfold ff;refine bd ?_;have hN:cE p l.length=fw p (l.length-0) 0:=rfl;refine gon ?_;refine ay (fun i:Nat=>[(8,.int .i64 i)]) (fun _=>[]) (fun i=>l.length-i) (fun i=>i<=l.length/\cE p l.length=fw p (l.length-i) i) 0 ⟨Nat.zero_le _,hN⟩ ?_ ?_
 ·exact adk [] []
 clear hN;rintro i ⟨hi,hn⟩;rw[hn];refine dM ?_;by_cases h1:i<l.length
 ·have e1:=inT h1
  have hw:=ah h1 (by omega);have hgd:(rows bM l).getD i []=bM (l.getD i fg):=aM (f:=bM) fg h1;have c1:=hc i h1;refine bg e1 ?_;refine ap hgd ?_;refine ai c1 ?_;cases h:p i with
  | true =>
    rw[f9 h1 h];refine aV ?_;exact af
  | false =>
    rw[fW h1 h];refine dk ?_;refine ap hw ?_;refine⟨i+1,⟨h1,rfl⟩,by omega,?_⟩;exact adk [] []
 ·obtain rfl:i=l.length:=by omega
  have e1:=inF (l.length);rw[gQ];refine aD e1 ?_;exact af
theorem Xb(l:List Nod)(cl:Bool)(fn:FuncId)(c:gZ)(p:Nat->Bool)(hl:l.length<=1000000)(hc:∀i,i<l.length->aI Tryz.prog fn [.agg (aP (l.getD i jm)),.ptr 0 0] [.var c.cs] (.bool (p i)) [.var c.cs]):aI Tryz.prog 327 [.sl 240 cl (rows aP l),.fn (.func fn) [.ptr 0 0]] [.var c.cs] (.bool (cE p l.length).isSome) [.var c.cs]:=by
 refine aI.fact 5 gV (by simp) ?_ (by simp);unfold eE;refine bd ?_;have c1:=Oy l cl fn c p hl hc;refine gon ?_;refine bP [0] (c1) evd (bx.mk' (by simp) evd) ?_;refine evg ?_;cases h:cE p l.length with
 | none =>
   refine gon ?_;exact adb [] [0]
 | some i =>
   have e2:decide ((i:Int) ≥ 0)=true:=ak (by omega);refine ap e2 ?_;exact adb [] [0]
theorem Xc(l:List aH)(cl:Bool)(fn:FuncId)(c:gZ)(p:Nat->Bool)(hl:l.length<=1000000)(hc:∀i,i<l.length->aI Tryz.prog fn [.agg (aH.c (l.getD i default)),.ptr 0 0] [.var c.cs] (.bool (p i)) [.var c.cs]):aI Tryz.prog 333 [.sl 34 cl (rows aH.c l),.fn (.func fn) [.ptr 0 0]] [.var c.cs] (.bool (cE p l.length).isSome) [.var c.cs]:=by
 refine aI.fact 5 gE (by simp) ?_ (by simp);unfold el;refine bd ?_;have c1:=XM l cl fn c p hl hc;refine gon ?_;refine bP [0] (c1) evd (bx.mk' (by simp) evd) ?_;refine evg ?_;cases h:cE p l.length with
 | none =>
   refine gon ?_;exact adb [] [0]
 | some i =>
   have e2:decide ((i:Int) ≥ 0)=true:=ak (by omega);refine ap e2 ?_;exact adb [] [0]
theorem Xa(l:List Blk)(cl:Bool)(fn:FuncId)(c:gZ)(p:Nat->Bool)(hl:l.length<=1000000)(hc:∀i,i<l.length->aI Tryz.prog fn [.agg (aA (l.getD i dO)),.ptr 0 0] [.var c.cs] (.bool (p i)) [.var c.cs]):aI Tryz.prog 341 [.sl 238 cl (rows aA l),.fn (.func fn) [.ptr 0 0]] [.var c.cs] (.bool (cE p l.length).isSome) [.var c.cs]:=by
 refine aI.fact 5 gD (by simp) ?_ (by simp);unfold ek;refine bd ?_;have c1:=XL l cl fn c p hl hc;refine gon ?_;refine bP [0] (c1) evd (bx.mk' (by simp) evd) ?_;refine evg ?_;cases h:cE p l.length with
 | none =>
   refine gon ?_;exact adb [] [0]
 | some i =>
   have e2:decide ((i:Int) ≥ 0)=true:=ak (by omega);refine ap e2 ?_;exact adb [] [0]
theorem Xd(l:List Vot)(cl:Bool)(fn:FuncId)(p:Nat->Bool)(hl:l.length<=1000000)(hc:∀i,i<l.length->PC Tryz.prog fn [.agg (bM (l.getD i fg))] (.bool (p i))):PC Tryz.prog 325 [.sl 34 cl (rows bM l),.fn (.func fn) []] (.bool (cE p l.length).isSome):=by
 refine PC.fact 5 gW (by simp) puA puA ?_;unfold eF;refine bd ?_;have c1:=XN l cl fn p hl hc;refine gon ?_;refine ai c1 ?_;cases h:cE p l.length with
 | none =>
   refine gon ?_;exact af
 | some i =>
   have e2:decide ((i:Int) ≥ 0)=true:=ak (by omega);refine ap e2 ?_;exact af
theorem QR(x:Nod)(r:Rt):aI Tryz.prog 272 [.agg (aP x),.ptr 0 0] [.var (rtc r)] (.bool (decide (x.blk.root=r))) [.var (rtc r)]:=by
 refine aI.fact 4 w4 (by simp) ?_ (by simp);unfold nk;refine bd ?_;refine gon ?_;exact adb [] [0]
theorem eD(t:List Nod)(r:Rt)(hb:t.length<=1000000):PC Tryz.prog 150 [.agg [.sl 240 false (rows aP t)],.agg (rtc r)] (.int .i64 (aj t r)):=by
 refine PC.fact 5 zQ (by simp) puA puA ?_;unfold pI;refine bd ?_;have c1:=Oy t false 272 ⟨rtc r,dS r⟩ (fun i=>decide ((nod t i).blk.root=r)) hb (fun i _=>QR _ r);refine gon ?_;refine bP [1] (c1) evd (bx.mk' (by simp) evd) ?_;refine evg ?_;refine gon ?_;exact af
theorem AG(t:List Nod)(i:Int):PC Tryz.prog 338 [.agg [.sl 240 false (rows aP t)],.int .i64 i] (.bool (isN t i)):=by
 refine PC.fact 5 Eb (by simp) puA puA ?_;unfold sa;refine bd ?_;unfold isN;by_cases h0:0<=i
 ·have e0:decide (i ≥ 0)=true:=ak h0;have e1:=ak h0;refine aO e0 e1 ?_;exact af
 ·have e0:decide (i ≥ 0)=false:=au h0;have e1:=au h0;refine aO e0 e1 ?_;exact af
theorem OP(t:List Nod)(ht:dc t)(hb:t.length<=1000000)(i slot:Int):PC Tryz.prog 255 [.agg [.sl 240 false (rows aP t)],.int .i64 i,.int .u64 slot] (.int .i64 (atT t i slot)):=by
 refine PC.fact 7 Hb (by simp) puA puA ?_;unfold vk;refine bd ?_;generalize hR:atT t i slot=R;refine gon ?_;refine ay (fun j:Int=>[(1,.int .i64 j)]) (fun _=>[.var [.sl 240 false (rows aP t)]]) (fun j=>(j+1).toNat) (fun j=>atT t j slot=R) i hR ?_ ?_
 ·exact adk [] [0]
 clear hR;intro j hR;have c1:=AG t j;refine gon ?_;refine ai c1 ?_;cases h:isN t j with
 | false =>
   rw[xU slot h]at hR;subst hR;refine bh ?_;exact af
 | true =>
   obtain⟨h0,h1⟩:=oR.1 h;obtain⟨k,rfl⟩:=Int.eq_ofNat_of_zero_le h0;have hk:k<t.length:=by omega
   have hgd:(rows aP t).getD k []=aP (nod t k):=aM (f:=aP) jm hk;have hbd:decide ((k:Int)<((t.length:Nat):Int))=true:=ak h1;rw[P3 ht hk]at hR
   have hup:(nod t k).up<k:=by
    rcases Nat.eq_zero_or_pos k with h|h
    ·subst h;have:=ht.root;omega
    ·have:=ht.ok k h hk;omega
   refine kO ?_;refine ap hgd ?_;by_cases h2:(nod t k).blk.slot<=slot
   ·have e2:=ak h2;rw[if_pos h2]at hR;subst hR;refine aE e2 ?_;exact af
   ·have e2:=au h2;rw[if_neg h2]at hR;refine aQ e2 ?_;refine ap hgd ?_;refine⟨(nod t k).up,hR,by omega,?_⟩;exact adk [] [0]
theorem Vk(t:List Nod)(ht:dc t)(hb:t.length<=1000000)(a b:Int):PC Tryz.prog 335 [.agg [.sl 240 false (rows aP t)],.int .i64 a,.int .i64 b] (.bool (dv t a b)):=by
 refine PC.fact 7 rK (by simp) puA puA ?_;unfold kJ;refine bd ?_;have c1:=AG t a;have c2:=AG t b;refine gon ?_;refine ai c1 ?_;cases ha:isN t a with
 | false =>
   rw[KA ht (.inl ha)];refine aV ?_;exact af
 | true =>
   refine gon ?_;refine ai c2 ?_;cases hb:isN t b with
   | false =>
     rw[KA ht (.inr hb)];refine aV ?_;exact af
   | true =>
     refine dk ?_;generalize hR:dv t a b=R;refine gon ?_;refine ay (fun j:Int=>[(2,.int .i64 j)]) (fun _=>[.var [.sl 240 false (rows aP t)]]) (fun j=>(j+1).toNat) (fun j=>isN t j=true/\dv t a j=R) b ⟨hb,hR⟩ ?_ ?_
     ·exact adk [] [0]
     clear hR hb;rintro j ⟨hj,hR⟩;obtain⟨h0,h1⟩:=oR.1 hj;obtain⟨k,rfl⟩:=Int.eq_ofNat_of_zero_le h0;have hk:k<t.length:=by omega
     have ha0:=(oR.1 ha).1;by_cases h2:(k:Int) > a
     ·have e2:=ak h2;have hgd:(rows aP t).getD k []=aP (nod t k):=aM (f:=aP) jm hk;have hbd:decide ((k:Int)<((t.length:Nat):Int))=true:=ak h1;rw[Nu ht hk (by omega)]at hR;have hup:=ht.ok k (by omega) hk;refine bg e2 ?_;refine ap hgd ?_;refine⟨(nod t k).up,⟨oR.2 (by omega),hR⟩,by omega,?_⟩;exact adk [] [0]
     ·have e2:=au h2;rw[WN ht hk (by omega)]at hR;have e3:(a==(k:Int))=R:=by rw[<-hR];by_cases h:a=(k:Int)<;>simp[h]
      refine aQ e2 ?_;refine ap e3 ?_;exact af
theorem RG(b:Blk)(st:Int):PC Tryz.prog 229 [.agg (aA b),.int .i64 st] (.agg [.sl 240 false (rows aP [⟨b,-1,st⟩])]):=by
 refine PC.fact 5 Cs (by simp) puA puA ?_;unfold qZ;refine bd ?_;refine gon ?_;refine⟨_,by first|rfl|exact evd,.inr ⟨.agg [.sl 240 true (rows aP [⟨b,-1,st⟩])],evd,by simp[Pu,PuL,iD],Wk.agg ⟨Wk.open_ _ _ _,fun h=>h,trivial⟩⟩⟩
theorem FI(i:Int):PC Tryz.prog 347 [.int .i64 i] (.bool (decide (0<=i)&&decide (i<=2))):=by
 refine PC.fact 3 sU (by simp) puA puA ?_;unfold lC;refine bd ?_;by_cases h0:0<=i
 ·have e0:decide (i ≥ 0)=true:=ak h0;have e1:=ak h0;refine aO e0 e1 ?_;exact af
 ·have e0:decide (i ≥ 0)=false:=au h0;have e1:=au h0;refine aO e0 e1 ?_;exact af
theorem RN(b:Blk):PC Tryz.prog 270 [.agg (aA b)] (.int .i64 (if b.payload=rt0 then 1 else 0)):=by
 refine PC.fact 3 Eu (by simp) puA puA ?_;unfold sj;refine bd ?_;have c1:=jk b.payload;refine gon ?_;refine ai c1 ?_;by_cases h:b.payload=rt0
 ·rw[if_pos h,ak h];refine aV ?_;exact af
 ·rw[if_neg h,au h];refine bh ?_;exact af
theorem Ry(t:List Nod)(hb:t.length<=1000000):PC Tryz.prog 348 [.sl 240 false (rows aP t)] (.sl 240 true (rows aP t)):=by
 refine PC.fact 3 kG (by simp) puA puA ?_;unfold fY;refine bd ?_;refine gon ?_;exact af
theorem Vq(t:List Nod)(b:Blk)(st:Int)(hb:t.length<=1000000):PC Tryz.prog 269 [.agg [.sl 240 false (rows aP t)],.agg (aA b),.int .i64 st] (.tup [.agg [.sl 240 false (rows aP (eP t b st).1)],.int .i64 (eP t b st).2]):=by
 refine PC.fact 9 w9 (by simp) puA puA ?_;unfold np;refine bd ?_;have c1:=FI st;have c2:=eD t b.root hb;have c3:=eD t b.parent hb;have c4:=Ry t hb;have b3:=dX t b.parent;unfold eP;generalize aj t b.root=x at *;generalize aj t b.parent=y at *;refine gon ?_;refine ai c1 ?_;by_cases q1:0<=st/\st<=2
 case neg=>
  have e1:(decide (0<=st)&&decide (st<=2))=false:=by rw[Bool.and_eq_false_iff,decide_eq_false_iff_not,decide_eq_false_iff_not];omega
  rw[if_pos q1];refine aE e1 ?_;exact qg
 have e1:(decide (0<=st)&&decide (st<=2))=true:=by simp[q1]
 rw[if_neg (fun h=>h q1)];refine aD e1 ?_;refine acT c2 ?_;refine bw (fun h=>?_) (fun h=>?_)
 ·rw[if_pos (by simpa using h)];refine gon ?_;exact qg
 rw[if_neg (by simpa using h)];refine gon ?_;refine acT c3 ?_;clear h;refine bw (fun h=>?_) (fun h=>?_)
 ·rw[if_pos (by simpa using h)];refine gon ?_;exact qg
 have hy0:0<=y:=by simpa using h
 have hgd:(rows aP t).getD y.toNat []=aP (nod t y.toNat):=aM (f:=aP) jm (by omega);rw[if_neg (by simpa using h)];refine ap hgd ?_;clear h;refine bw (fun h=>?_) (fun h=>?_)
 ·rw[if_pos (by simpa using h)];refine gon ?_;exact qg
 rw[if_neg (by simpa using h)];refine gon ?_;clear h;refine bw (fun h=>?_) (fun h=>?_)
 ·rw[if_pos (by simp at h;omega)];refine gon ?_;exact qg
 rw[if_neg (by simp at h;omega)];have hr:=da aP t ⟨b,y,st⟩;refine gon ?_;refine aC (c4) ?_;refine ap hr ?_;exact af
end Go.Proofs.YtnjdpnfglgcjcaaGreat
