/-
 My texts Qa, Qb, Qc, joined.
-/
import Derived.Test.YtkgimpdgncakjaaW3
import Derived.Test.YtkgimpdgncakjaaW4
import Derived.Test.YtkgimpdgncakjaaV5
import Derived.Test.YtkgimpdgncakjaaW5
import Derived.Test.YtkgimpdgncakjaaV4
namespace Go.Proofs.Ytkgimpdgncakjaa
open Go Go.FH Go.RowKit
set_option linter.unusedVariables false
set_option linter.unusedSimpArgs false
set_option maxRecDepth 8000
set_option maxHeartbeats 4000000
theorem xV_{n:Int}(h0:0≤n)(h1:n<18446744073709551616):ie_ .u64 n 4294967295=n%4294967296:=by
 obtain⟨m,rfl⟩:=Int.eq_ofNat_of_zero_le h0;unfold ie_
 have:(BitVec.ofInt IntKind.u64.bits (m:Int) &&& BitVec.ofInt IntKind.u64.bits 4294967295).toNat=m%4294967296:=by
  rw[BitVec.toNat_and,BitVec.ofInt_natCast,show BitVec.ofInt IntKind.u64.bits 4294967295=BitVec.ofNat IntKind.u64.bits (2 ^ 32-1)by decide,BitVec.toNat_ofNat,BitVec.toNat_ofNat];rw[show (2 ^ 32-1)%2 ^ IntKind.u64.bits=2 ^ 32-1 by decide,Nat.and_two_pow_sub_one_eq_mod];rw[Nat.mod_mod_of_dvd _ (by decide)]
 rw[this,aW_ (by omega) (by omega)];omega
theorem Cn_(n:Int):iS_ .u64 n 32=n / 4294967296:=by
 unfold iS_;rw[show ((2:Int) ^ (min 32 IntKind.u64.bits))=4294967296 by decide];exact Int.fdiv_eq_ediv_of_nonneg _ (by omega)
theorem kb_(n:Int):PC Try.prog 50 [.int .u64 n] (.bool (gX_ n)):=by
 refine PC.fact 3 rD_ (by simp) puA puA ?_;unfold ko_;refine bd ?_;unfold gX_;cases h:decide (1≤n)with
 | true =>
   repeat(first|refine aa_ ?_|simp only[go_sem,h])
   exact am_
 | false =>
   repeat(first|refine aa_ ?_|simp only[go_sem,h])
   exact am_
theorem iD_(s p:Int):PC Try.prog 60 [.int .u64 s,.int .u64 p] (.tup [.int .u64 (cM_ s p).1,.int .i64 (cM_ s p).2]):=by
 refine PC.fact 6 mg_ (by simp) puA puA ?_;unfold hq_;refine bd ?_;have c1:=kb_ p;unfold cM_;try refine aa_ ?_
 refine aA_ c1 ?_;cases h:gX_ p with
 | true =>
   have h0:p≠0:=by simp[gX_]at h;omega
   rw[if_pos rfl];try refine aa_ ?_
   refine ac_ ?_;repeat(first|refine aa_ ?_|simp only[go_sem,h0])
   exact am_
 | false =>
   rw[if_neg (by simp)];try refine aa_ ?_
   refine EB_ ?_
   exact am_
theorem vA_{x0 x1 y0 y1:Int}(hx0:0≤x0)(hx0':x0<4294967296)(hx1:0≤x1)(hx1':x1<4294967296)(hy0:0≤y0)(hy0':y0<4294967296)(hy1:0≤y1)(hy1':y1<4294967296)(x y:Int)(hx:x=x1*4294967296+x0)(hy:y=y1*4294967296+y0):
 PC Try.prog 89 [.int .u64 x,.int .u64 y] (.tup [.int .u64 (x*y / 18446744073709551616),.int .u64 (IntKind.u64.wrap (x*y))]):=by
 refine PC.fact 14 kv_ (by simp) puA puA ?_;unfold gb_;refine bd ?_;obtain⟨b00,b10,b01,b11,hz⟩:=Em_ hx0 hx0' hx1 hx1' hy0 hy0' hy1 hy1';have mk:∀n:Int,0≤n→n<18446744073709551616→ie_ .u64 n 4294967295=n%4294967296:=fun n h1 h2=>xV_ h1 h2
 have sh:∀n:Int,iS_ .u64 n 32=n / 4294967296:=fun n=>Cn_ n
 have e1:ie_ .u64 x 4294967295=x0:=by rw[mk x (by omega) (by omega)];omega
 have e2:iS_ .u64 x 32=x1:=by rw[sh];omega
 have e3:ie_ .u64 y 4294967295=y0:=by rw[mk y (by omega) (by omega)];omega
 have e4:iS_ .u64 y 32=y1:=by rw[sh];omega
 have hxy:x*y=x1*y1*18446744073709551616+(x1*y0+x0*y1)*4294967296+x0*y0:=by rw[hx,hy];exact hz
 have e5:IntKind.u64.wrap (x0*y0)=x0*y0:=et_ b00.1 (by omega);have e6:IntKind.u64.wrap (x1*y0)=x1*y0:=et_ b10.1 (by omega);have e7:IntKind.u64.wrap (x0*y1)=x0*y1:=et_ b01.1 (by omega);have e8:IntKind.u64.wrap (x1*y1)=x1*y1:=et_ b11.1 (by omega);generalize hpz:x*y=z at *;clear hz;generalize hp0:x0*y0=p00 at *;generalize hp1:x1*y0=p10 at *;generalize hp2:x0*y1=p01 at *;generalize hp3:x1*y1=p11 at *;have e9:iS_ .u64 p00 32=p00 / 4294967296:=sh _;have e10:IntKind.u64.wrap (p10+p00 / 4294967296)=p10+p00 / 4294967296:=et_ (by omega) (by omega);have e11:ie_ .u64 (p10+p00 / 4294967296) 4294967295=(p10+p00 / 4294967296)%4294967296:=mk _ (by omega) (by omega);have e12:iS_ .u64 (p10+p00 / 4294967296) 32=(p10+p00 / 4294967296) / 4294967296:=sh _;generalize hT:p10+p00 / 4294967296=T at *;have e13:IntKind.u64.wrap (T%4294967296+p01)=T%4294967296+p01:=et_ (by omega) (by omega);have e14:IntKind.u64.wrap (p11+T / 4294967296)=p11+T / 4294967296:=et_ (by omega) (by omega);have e15:iS_ .u64 (T%4294967296+p01) 32=(T%4294967296+p01) / 4294967296:=sh _;have e16:IntKind.u64.wrap (p11+T / 4294967296+(T%4294967296+p01) / 4294967296)=z / 18446744073709551616:=by rw[et_ (by omega) (by omega)];omega
 repeat(first|refine aa_ ?_|simp only[go_sem,hpz,hp0,hp1,hp2,hp3,hT,e1,e2,e3,e4,e5,e6,e7,e8,e9,e10,e11,e12,e13,e14,e15,e16])
 exact am_
theorem zd_{a b:Int}(ha:0≤a)(ha2:a<18446744073709551616)(hb:0≤b)(hb2:b<18446744073709551616):PC Try.prog 83 [.int .u64 a,.int .u64 b] (.tup [.int .u64 (vB_ a b).1,.int .i64 (vB_ a b).2]):=by
 rw[←Cs_ ha ha2 hb hb2];refine PC.fact 8 td_ (by simp) puA puA ?_;unfold lJ_;refine bd ?_;have c1:=vA_ (x0:=a%4294967296) (x1:=a / 4294967296) (y0:=b%4294967296) (y1:=b / 4294967296) (by omega) (by omega) (by omega) (by omega) (by omega) (by omega) (by omega) (by omega) a b (by omega) (by omega);unfold El_;try refine aa_ ?_
 refine aA_ c1 ?_;by_cases h:a*b / 18446744073709551616=0
 ·have e1:(a*b / 18446744073709551616==0)=true:=by simp[h]
  rw[if_pos h];repeat(first|refine aa_ ?_|simp only[go_sem,e1])
  refine EB_ ?_
  exact am_
 ·have e1:(a*b / 18446744073709551616==0)=false:=by simp[h]
  rw[if_neg h];repeat(first|refine aa_ ?_|simp only[go_sem,e1])
  refine EA_ ?_
  exact am_
theorem eU_{e p:Int}(he:0≤e)(he2:e<18446744073709551616):PC Try.prog 56 [.int .u64 e,.int .u64 p] (.tup [.int .u64 (bL_ e p).1,.int .i64 (bL_ e p).2]):=by
 refine PC.fact 6 mi_ (by simp) puA puA ?_;unfold hs_;refine bd ?_;have c1:=kb_ p;unfold bL_;try refine aa_ ?_
 refine aA_ c1 ?_;cases h:gX_ p with
 | true =>
   have c2:=zd_ he he2 (b:=p) (by simp[gX_]at h;omega) (by simp[gX_]at h;omega);rw[if_pos rfl];try refine aa_ ?_
   refine EA_ ?_
   refine FZ_ c2 ?_
   exact am_
 | false =>
   rw[if_neg (by simp)];try refine aa_ ?_
   refine EB_ ?_
   exact am_
theorem Ar_(s p:Int):PC Try.prog 27 [.int .u64 s,.int .u64 p] (.bool (gX_ p&&decide (Int.tmod s p=0))):=by
 refine PC.fact 5 mh_ (by simp) puA puA ?_;unfold hr_;refine bd ?_;have c1:=kb_ p;try refine aa_ ?_
 refine aA_ c1 ?_;cases h:gX_ p with
 | true =>
   have h0:p≠0:=by simp[gX_]at h;omega
   have e1:(Int.tmod s p==0)=decide (Int.tmod s p=0):=by by_cases h:Int.tmod s p=0<;>simp[h]
   repeat(first|refine aa_ ?_|simp only[go_sem,h0,e1])
   exact am_
 | false =>
   try refine aa_ ?_
   exact am_
theorem nB_(r:Rt):PC Try.prog 39 [.agg (rtc r)] (.bool (decide (r=rt0))):=by
 refine PC.fact 3 nm_ (by simp) puA puA ?_;unfold hO_;refine bd ?_;try refine aa_ ?_
 exact am_
theorem xm_(a b:Rt):ao_ Try.prog 94 [.va 1 0 0 32,.va 1 1 0 32] [.var (rtc a),.var (rtc b)] (.int .i64 (sT_ a b)) [.var (rtc a),.var (rtc b)]:=by
 refine ao_.fact 8 mb_ (by simp) ?_ (by simp);unfold hl_;refine bd ?_;have e1:=Cg_ a b;repeat(first|refine aa_ ?_|simp only[go_sem,e1])
 exact Gt_ [] [0,1]
theorem yt_(a b:Rt):PC Try.prog 92 [.agg (rtc a),.agg (rtc b)] (.int .i64 (sT_ a b)):=by
 refine PC.fact 5 mf_ (by simp) puA puA ?_;unfold hp_;refine bd ?_;have c1:=xm_ a b;try refine aa_ ?_
 refine Ee_ [0,1] (c1) evd (bf_.mk' (by simp) evd) ?_;refine evg ?_;try refine aa_ ?_
 exact am_
theorem nA_(n:Int):PC Try.prog 93 [.int .u64 n] (.bool false):=by
 refine PC.fact 3 jM_ (by simp) puA puA ?_;unfold fC_;refine bd ?_;try refine aa_ ?_
 exact am_
theorem zc_(a b:Int):PC Try.prog 91 [.int .u64 a,.int .u64 b] (.int .i64 (zQ_ a b)):=by
 refine PC.fact 7 hW_ (by simp) puA puA ?_;unfold eD_;refine bd ?_;have c1:=nA_ a;have c2:=nA_ b;unfold zQ_;try refine aa_ ?_
 refine FZ_ c1 ?_
 refine FZ_ c2 ?_
 refine EA_ ?_
 refine EA_ ?_
 by_cases h1:a<b
 ·have e1:decide (a<b)=true:=decide_eq_true h1;rw[if_pos h1];repeat(first|refine aa_ ?_|simp only[go_sem,e1])
  refine EB_ ?_
  exact am_
 ·have e1:decide (a<b)=false:=decide_eq_false h1
  rw[if_neg h1];repeat(first|refine aa_ ?_|simp only[go_sem,e1])
  refine EA_ ?_
  by_cases h2:b<a
  ·have e2:decide (b<a)=true:=decide_eq_true h2;rw[if_pos h2];repeat(first|refine aa_ ?_|simp only[go_sem,e2])
   refine EB_ ?_
   exact am_
  ·have e2:decide (b<a)=false:=decide_eq_false h2;rw[if_neg h2];repeat(first|refine aa_ ?_|simp only[go_sem,e2])
   refine EA_ ?_
   exact am_
theorem Cw_(l:List Int)(cl:Bool)(hl:l.length≤1000):PC Try.prog 90 [.sl 1 cl (au_ .i64 l)] (.int .i64 (orI l)):=by
 refine PC.fact 9 rz_ (by simp) puA puA ?_;unfold kk_;refine bd ?_;obtain⟨R,hR⟩:∃R,R=orI (l.drop 0):=⟨_,rfl⟩
 have hR0:orI l=R:=by rw[hR,List.drop_zero]
 rw[hR0];try refine aa_ ?_
 refine aE_ (fun i:Nat=>[(8,.int .i64 i)]) (fun _=>[]) (fun i=>l.length-i) (fun i=>i≤l.length∧R=orI (l.drop i)) 0 ⟨Nat.zero_le _,hR⟩ ?_ ?_
 ·exact GH_ [] []
 clear hR hR0;rintro i ⟨hi,hn⟩;refine eP_ ?_;by_cases h1:i<l.length
 ·have e1:=inT h1
  have hw:=ai_ h1 (by omega);rw[List.drop_eq_getElem_cons h1]at hn;have hg:l.getD i 0=l[i]:=by simp[List.getD,h1]
  rw[←hg]at hn;have hgd:=gdn (k:=.i64) h1;generalize l.getD i 0=x at *;simp only[orI]at hn;repeat(first|refine aa_ ?_|simp only[go_sem,e1])
  refine ab_ ?_;repeat(first|refine aa_ ?_|simp only[go_sem,hgd])
  by_cases h2:x=0
  ·subst h2;rw[if_neg (by simp)]at hn;try refine aa_ ?_
   refine ac_ ?_;repeat(first|refine aa_ ?_|simp only[go_sem,hw])
   refine⟨i+1,⟨h1,hn⟩,by omega,?_⟩;exact GH_ [] []
  ·have e2:(x != 0)=true:=by simp[h2]
   rw[if_pos h2]at hn;subst hn;repeat(first|refine aa_ ?_|simp only[go_sem,e2])
   refine EB_ ?_
   exact am_
 ·obtain rfl:i=l.length:=by omega
  have e1:=inF (l.length);rw[List.drop_length]at hn;subst hn;repeat(first|refine aa_ ?_|simp only[go_sem,e1])
  refine EA_ ?_
  exact am_
theorem AE_(a b:Cp):PC Try.prog 87 [.agg (cpC a),.agg (cpC b)] (.int .i64 (uN_ a b)):=by
 refine PC.fact 5 iO_ (by simp) puA puA ?_;unfold eZ_;refine bd ?_;have c1:=zc_ a.ep b.ep;have c2:=yt_ a.rt b.rt;have c3:=Cw_ [zQ_ a.ep b.ep,sT_ a.rt b.rt] true (by simp);rw[Cv_]at c3;try refine aa_ ?_
 refine co_ (c1) ?_;try refine aa_ ?_
 refine co_ (c2) ?_;try refine aa_ ?_
 refine co_ (c3) ?_;try refine aa_ ?_
 exact am_
theorem yj_(a b:as_):PC Try.prog 64 [.agg (bj_ a.a),.agg (bj_ b.a)] (.int .i64 (uN_ a.cp b.cp)):=by
 refine PC.fact 5 nk_ (by simp) puA puA ?_;unfold hM_;refine bd ?_;have c1:=AE_ a.cp b.cp;try refine aa_ ?_
 refine FZ_ c1 ?_
 exact am_
theorem xp_(l:List Int)(cl:Bool)(hl:l.length≤1000000):PC Try.prog 69 [.sl 1 cl (au_ .u64 l)] (.tup [.int .u64 (my_ l 0).1,.bool (my_ l 0).2]):=by
 refine PC.fact 10 nf_ (by simp) puA puA ?_;unfold hH_;refine bd ?_;obtain⟨R,hR⟩:∃R,R=my_ (l.drop 0) 0:=⟨_,rfl⟩
 have hR0:my_ l 0=R:=by rw[hR,List.drop_zero]
 rw[hR0];try refine aa_ ?_
 refine aE_ (fun x:Nat×Int=>[(9,.int .i64 x.1),(4,.int .u64 x.2)]) (fun _=>[]) (fun x=>l.length-x.1) (fun x=>x.1≤l.length∧R=my_ (l.drop x.1) x.2) (0,0) ⟨Nat.zero_le _,hR⟩ ?_ ?_
 ·exact GH_ [] []
 clear hR hR0;rintro⟨i,n⟩ ⟨hi,hn⟩;dsimp only at hi hn ⊢;refine eP_ ?_;by_cases h1:i<l.length
 ·have e1:=inT h1
  have hw:=ai_ h1 (by omega);rw[List.drop_eq_getElem_cons h1]at hn;have hg:l.getD i 0=l[i]:=by simp[List.getD,h1]
  rw[←hg]at hn;have hgd:=gdn (k:=.u64) h1;generalize l.getD i 0=x at *;simp only[my_]at hn;repeat(first|refine aa_ ?_|simp only[go_sem,e1])
  refine ab_ ?_;repeat(first|refine aa_ ?_|simp only[go_sem,hgd])
  by_cases h2:IntKind.u64.wrap (4611686018427387904-n)<x
  ·have e2:decide (IntKind.u64.wrap (4611686018427387904-n)<x)=true:=decide_eq_true h2;rw[if_pos h2]at hn;subst hn;repeat(first|refine aa_ ?_|simp only[go_sem,e2])
   refine EB_ ?_
   exact am_
  ·have e2:decide (IntKind.u64.wrap (4611686018427387904-n)<x)=false:=decide_eq_false h2;rw[if_neg h2]at hn;repeat(first|refine aa_ ?_|simp only[go_sem,e2])
   refine ac_ ?_;repeat(first|refine aa_ ?_|simp only[go_sem,hw])
   refine⟨(i+1,IntKind.u64.wrap (n+x)),⟨h1,hn⟩,by dsimp only;omega,?_⟩;exact GH_ [] []
 ·obtain rfl:i=l.length:=by omega
  have e1:=inF (l.length);rw[List.drop_length]at hn;subst hn;repeat(first|refine aa_ ?_|simp only[go_sem,e1])
  refine EA_ ?_
  exact am_
theorem mW_(t:as_)(n:Int)(hl:t.bals.length≤1000000)(hu:∀x∈t.bals,0≤x∧x<18446744073709551616):PC Try.prog 40 [.agg (bj_ t.a),.int .i64 n] (.int .i64 (dD_ t n)):=by
 refine PC.fact 7 gq_ (by simp) puA puA ?_;unfold dv_;refine bd ?_;have c1:=xp_ t.bals false hl;have h0:=zl_ hu;unfold dD_;by_cases h1:(t.bals.length:Int)=n
 ·have e1:((t.bals.length:Int) != n)=false:=by simp[h1]
  rw[if_neg (by simp[h1])];repeat(first|refine aa_ ?_|simp only[go_sem,e1])
  refine EA_ ?_
  refine aA_ c1 ?_;cases h2:(my_ t.bals 0).2 with
  | true =>
    rw[if_neg (fun h=>by have:=h0.1 h;rw[h2]at this;cases this)];try refine aa_ ?_
    refine EA_ ?_
    exact am_
  | false =>
    rw[if_pos (h0.2 h2)];try refine aa_ ?_
    refine EB_ ?_
    exact am_
 ·have e1:((t.bals.length:Int) != n)=true:=by simp[h1]
  rw[if_pos h1];repeat(first|refine aa_ ?_|simp only[go_sem,e1])
  refine EB_ ?_
  exact am_
theorem yX_{α:Type}(f:α→List AV)(l:List α):List.take l.length (rows f l)=rows f l:=List.take_of_length_le (by simp)
theorem yW_(k:IntKind)(l:List Int):List.take l.length (au_ k l)=au_ k l:=List.take_of_length_le (by simp)
attribute [go_sem] yX_ yW_
theorem sS_(cl:Bool)(l:List Int)(hl:l.length≤1000000):ao_ Try.prog 41 [.sl 1 cl (au_ .u64 l)] [] (.hs 1 0 0 l.length) [.vec 1 (au_ .u64 l)]:=by
 refine ao_.fact 3 eX_ (by simp) ?_ (by simp);unfold cD_;refine bd ?_;try refine aa_ ?_
 refine fun b hb=>?_
 cases b with
 | true =>
   have h0:l=[]:=by simpa[rows,au_]using hb rfl
   subst h0;try refine aa_ ?_
   refine ab_ ?_;refine ex_ (dk_ ?_);refine uh_ ?_;refine gn_ 2 1 ?_;simp only[go_sem];try refine aa_ ?_
   exact Gt_ [] [0]
 | false =>
   try refine aa_ ?_
   refine EA_ ?_
   exact Gt_ [] [0]
theorem sQ_(cl:Bool)(l:List Int)(hl:l.length≤1000000):ao_ Try.prog 71 [.sl 1 cl (au_ .i64 l)] [] (.hs 1 0 0 l.length) [.vec 1 (au_ .i64 l)]:=by
 refine ao_.fact 3 hc_ (by simp) ?_ (by simp);unfold dX_;refine bd ?_;try refine aa_ ?_
 refine fun b hb=>?_
 cases b with
 | true =>
   have h0:l=[]:=by simpa[rows,au_]using hb rfl
   subst h0;try refine aa_ ?_
   refine ab_ ?_;refine ex_ (dk_ ?_);refine uh_ ?_;refine gn_ 2 1 ?_;simp only[go_sem];try refine aa_ ?_
   exact Gt_ [] [0]
 | false =>
   try refine aa_ ?_
   refine EA_ ?_
   exact Gt_ [] [0]
theorem zP_(cl:Bool)(l:List Vot)(hl:l.length≤1000000):ao_ Try.prog 70 [.sl 34 cl (rows aV_ l)] [] (.hs 34 0 0 l.length) [.vec 34 (rows aV_ l)]:=by
 refine ao_.fact 3 ec_ (by simp) ?_ (by simp);unfold cj_;refine bd ?_;try refine aa_ ?_
 refine fun b hb=>?_
 cases b with
 | true =>
   have h0:l=[]:=by simpa[rows,au_]using hb rfl
   subst h0;try refine aa_ ?_
   refine ab_ ?_;refine ex_ (dk_ ?_);refine uh_ ?_;refine gn_ 2 34 ?_;simp only[go_sem];try refine aa_ ?_
   exact Gt_ [] [0]
 | false =>
   try refine aa_ ?_
   refine EA_ ?_
   exact Gt_ [] [0]
theorem zO_(cl:Bool)(l:List Nod)(hl:l.length≤1000000):ao_ Try.prog 72 [.sl 240 cl (rows av_ l)] [] (.hs 240 0 0 l.length) [.vec 240 (rows av_ l)]:=by
 refine ao_.fact 3 eb_ (by simp) ?_ (by simp);unfold ci_;refine bd ?_;try refine aa_ ?_
 refine fun b hb=>?_
 cases b with
 | true =>
   have h0:l=[]:=by simpa[rows,au_]using hb rfl
   subst h0;try refine aa_ ?_
   refine ab_ ?_;refine ex_ (dk_ ?_);refine uh_ ?_;refine gn_ 2 240 ?_;simp only[go_sem];try refine aa_ ?_
   exact Gt_ [] [0]
 | false =>
   try refine aa_ ?_
   refine EA_ ?_
   exact Gt_ [] [0]
theorem zN_(cl:Bool)(l:List Blk)(hl:l.length≤1000000):ao_ Try.prog 45 [.sl 238 cl (rows aw_ l)] [] (.hs 238 0 0 l.length) [.vec 238 (rows aw_ l)]:=by
 refine ao_.fact 3 dH_ (by simp) ?_ (by simp);unfold ca_;refine bd ?_;try refine aa_ ?_
 refine fun b hb=>?_
 cases b with
 | true =>
   have h0:l=[]:=by simpa[rows,au_]using hb rfl
   subst h0;try refine aa_ ?_
   refine ab_ ?_;refine ex_ (dk_ ?_);refine uh_ ?_;refine gn_ 2 238 ?_;simp only[go_sem];try refine aa_ ?_
   exact Gt_ [] [0]
 | false =>
   try refine aa_ ?_
   refine EA_ ?_
   exact Gt_ [] [0]
theorem xG_(t:as_)(hl:t.bals.length≤1000000):PC Try.prog 74 [.agg (bj_ t.a)] (.agg (bj_ t.a)):=by
 refine PC.fact 3 ni_ (by simp) puA puA ?_;unfold hK_;refine bd ?_;have c1:=sS_ false t.bals hl;try refine aa_ ?_
 refine bC_ [] (c1) evd (bf_.mk' (by simp) evd) ?_;refine evg ?_;try refine aa_ ?_
 exact am_
theorem xr_(t:aB_)(hl:t.vals.length≤1000000):PC Try.prog 44 [.agg (bg_ t.a)] (.agg (bg_ t.a)):=by
 refine PC.fact 3 hX_ (by simp) puA puA ?_;unfold eE_;refine bd ?_;have c1:=sQ_ false t.vals hl;try refine aa_ ?_
 refine bC_ [] (c1) evd (bf_.mk' (by simp) evd) ?_;refine evg ?_;try refine aa_ ?_
 exact am_
theorem qR_{α:Type}(f:α→List AV)(l:List α)(d:α){i:Nat}(h:i<l.length):rows f (l.take i)++[f (l.getD i d)]=rows f (l.take (i+1)):=by
 rw[lw_,List.take_add_one,List.getD_eq_getElem?_getD,List.getElem?_eq_getElem h];rfl
theorem va_(l:List as_)(cl:Bool)(hl:l.length≤1000)(hb:∀t∈l,t.bals.length≤1000000):ao_ Try.prog 73 [.sl 34 cl (rows as_.c l),.fn (.func 74) []] [] (.hs 34 0 0 l.length) [.vec 34 (rows as_.c l)]:=by
 refine ao_.fact 11 gH_ (by simp) ?_ (by simp);unfold dM_;refine bd ?_;try refine aa_ ?_
 refine gn_ 5 34 ?_;simp only[go_sem];have hz:rows as_.c (l.take 0)=[]:=rfl;refine aE_ (fun i:Nat=>[(10,.int .i64 i),(5,.hs 34 0 0 i)]) (fun i=>[.vec 34 (rows as_.c (l.take i))]) (fun i=>l.length-i) (fun i=>i≤l.length) 0 (Nat.zero_le _) ?_ ?_
 ·rw[hz];exact GH_ [] [0]
 intro i hi;refine eP_ ?_;by_cases h1:i<l.length
 ·have e1:=inT h1;have hw:=ai_ h1 (by omega);have hgd:(rows as_.c l).getD i []=bj_ (l.getD i default).a:=aR_ (f:=as_.c) default h1;have hsn:=qR_ as_.c l default h1;have hm:l.getD i default∈l:=by rw[List.getD_eq_getElem?_getD,List.getElem?_eq_getElem h1];exact List.getElem_mem _
  have c1:=xG_ _ (hb _ hm);have hli:(l.take i).length=i:=by simp;omega
  generalize l.getD i default=x at *;have hrl:(rows as_.c (l.take i)).length=i:=by simp;omega
  have htk:List.take i (rows as_.c (l.take i))=rows as_.c (l.take i):=List.take_of_length_le (by omega);repeat(first|refine aa_ ?_|simp only[go_sem,e1])
  refine ab_ ?_;repeat(first|refine aa_ ?_|simp only[go_sem,hgd])
  refine aA_ c1 ?_;repeat(first|refine aa_ ?_|simp only[go_sem,hsn,hw,hli,htk])
  refine⟨i+1,h1,by omega,?_⟩;exact GH_ [] [2]
 ·obtain rfl:i=l.length:=by omega
  have e1:=inF (l.length);rw[List.take_length];repeat(first|refine aa_ ?_|simp only[go_sem,e1])
  refine EA_ ?_
  exact Gt_ [] [0]
theorem uZ_(l:List aB_)(cl:Bool)(hl:l.length≤1000)(hb:∀t∈l,t.vals.length≤1000000):ao_ Try.prog 43 [.sl 67 cl (rows aB_.c l),.fn (.func 44) []] [] (.hs 67 0 0 l.length) [.vec 67 (rows aB_.c l)]:=by
 refine ao_.fact 11 eK_ (by simp) ?_ (by simp);unfold cx_;refine bd ?_;try refine aa_ ?_
 refine gn_ 5 67 ?_;simp only[go_sem];have hz:rows aB_.c (l.take 0)=[]:=rfl;refine aE_ (fun i:Nat=>[(10,.int .i64 i),(5,.hs 67 0 0 i)]) (fun i=>[.vec 67 (rows aB_.c (l.take i))]) (fun i=>l.length-i) (fun i=>i≤l.length) 0 (Nat.zero_le _) ?_ ?_
 ·rw[hz];exact GH_ [] [0]
 intro i hi;refine eP_ ?_;by_cases h1:i<l.length
 ·have e1:=inT h1;have hw:=ai_ h1 (by omega);have hgd:(rows aB_.c l).getD i []=bg_ (l.getD i default).a:=aR_ (f:=aB_.c) default h1;have hsn:=qR_ aB_.c l default h1;have hm:l.getD i default∈l:=by rw[List.getD_eq_getElem?_getD,List.getElem?_eq_getElem h1];exact List.getElem_mem _
  have c1:=xr_ _ (hb _ hm);have hli:(l.take i).length=i:=by simp;omega
  generalize l.getD i default=x at *;have hrl:(rows aB_.c (l.take i)).length=i:=by simp;omega
  have htk:List.take i (rows aB_.c (l.take i))=rows aB_.c (l.take i):=List.take_of_length_le (by omega);repeat(first|refine aa_ ?_|simp only[go_sem,e1])
  refine ab_ ?_;repeat(first|refine aa_ ?_|simp only[go_sem,hgd])
  refine aA_ c1 ?_;repeat(first|refine aa_ ?_|simp only[go_sem,hsn,hw,hli,htk])
  refine⟨i+1,h1,by omega,?_⟩;exact GH_ [] [2]
 ·obtain rfl:i=l.length:=by omega
  have e1:=inF (l.length);rw[List.take_length];repeat(first|refine aa_ ?_|simp only[go_sem,e1])
  refine EA_ ?_
  exact Gt_ [] [0]
theorem uV_(l:List as_)(cl:Bool)(hl:l.length≤1000)(hb:∀t∈l,t.bals.length≤1000000):ao_ Try.prog 47 [.sl 34 cl (rows as_.c l)] [] (.hs 34 0 0 l.length) [.vec 34 (rows as_.c l)]:=by
 refine ao_.fact 3 mc_ (by simp) ?_ (by simp);unfold hm_;refine bd ?_;have c1:=va_ l cl hl hb;try refine aa_ ?_
 refine bC_ [] (c1) evd (bf_.mk' (by simp) evd) ?_;refine evg ?_;try refine aa_ ?_
 exact Gt_ [] [0]
theorem uW_(l:List Nod)(cl:Bool)(hl:l.length≤1000000):ao_ Try.prog 46 [.agg [.sl 240 cl (rows av_ l)]] [] (.agg [.hs 240 0 0 l.length]) [.vec 240 (rows av_ l)]:=by
 refine ao_.fact 3 pm_ (by simp) ?_ (by simp);unfold jq_;refine bd ?_;have c1:=zO_ cl l hl;try refine aa_ ?_
 refine bC_ [] (c1) evd (bf_.mk' (by simp) evd) ?_;refine evg ?_;try refine aa_ ?_
 exact Gt_ [] [2]
theorem sV_(l:List Vot)(q:List Int)(hl:l.length≤1000000)(hq:q.length≤1000000):ao_ Try.prog 42 [.agg [.sl 34 false (rows aV_ l),.sl 1 false (au_ .i64 q)]] [] (.agg [.hs 34 0 0 l.length,.hs 1 1 0 q.length]) [.vec 34 (rows aV_ l),.vec 1 (au_ .i64 q)]:=by
 refine ao_.fact 3 nj_ (by simp) ?_ (by simp);unfold hL_;refine bd ?_;have c1:=zP_ false l hl;have c2:=sQ_ false q hq;try refine aa_ ?_
 refine zX_ [] (c1) (by simp) evd (mM_.mk' (by simp) (by simp) evd) ?_;refine evg ?_;try refine aa_ ?_
 refine zX_ [] (c2) (by simp) evd (mM_.mk' (by simp) (by simp) evd) ?_;refine evg ?_;try refine aa_ ?_
 exact Gt_ [] [2,3]
structure CpR(s:ag_):Prop where
 bn:s.nodes.length≤1000000
 bl:s.latest.length≤1000000
 be:s.eqv.length≤1000000
 bt:s.tabs.length≤1000
 bb:∀t∈s.tabs,t.bals.length≤1000000
 bo:s.orph.length≤1000000
 ba:s.early.length≤1000
 bv:∀a∈s.early,a.vals.length≤1000000
 bc:s.cfg.bals.length≤1000000
def Cx_(s:ag_):Sto:=⟨⟨s.cfg.lim,s.cfg.spe,s.cfg.boost,s.cfg.ttd,s.cfg.gen,.hs 1 0 0 s.cfg.bals.length⟩,.hs 34 1 0 s.latest.length,.hs 1 2 0 s.eqv.length,s.j,s.f,.hs 67 3 0 s.early.length,.hs 238 4 0 s.orph.length,.hs 240 5 0 s.nodes.length,s.now,s.boost,.hs 34 6 0 s.tabs.length⟩
theorem kX_(s:ag_)(h:CpR s):ao_ Try.prog 14 [.agg (ak_ s.a)] [] (.agg (ak_ (Cx_ s)))
 [.vec 1 (au_ .u64 s.cfg.bals),.vec 34 (rows aV_ s.latest),.vec 1 (au_ .i64 s.eqv),.vec 67 (rows aB_.c s.early),.vec 238 (rows aw_ s.orph),.vec 240 (rows av_ s.nodes),.vec 34 (rows as_.c s.tabs)]:=by
 refine ao_.fact 3 nh_ (by simp) ?_ (by simp);unfold hJ_;refine bd ?_;have c1:=sS_ false s.cfg.bals h.bc;have c2:=sV_ s.latest s.eqv h.bl h.be;have c3:=uZ_ s.early false h.ba h.bv;have c4:=zN_ false s.orph h.bo;have c5:=uW_ s.nodes false h.bn;have c6:=uV_ s.tabs false h.bt h.bb;try refine aa_ ?_
 refine bC_ [] (c1) evd (bf_.mk' (by simp) evd) ?_;refine evg ?_;try refine aa_ ?_
 refine bC_ [] (c2) evd (bf_.mk' (by simp) evd) ?_;refine evg ?_;try refine aa_ ?_
 refine bC_ [] (c3) evd (bf_.mk' (by simp) evd) ?_;refine evg ?_;try refine aa_ ?_
 refine bC_ [] (c4) evd (bf_.mk' (by simp) evd) ?_;refine evg ?_;try refine aa_ ?_
 refine bC_ [] (c5) evd (bf_.mk' (by simp) evd) ?_;refine evg ?_;try refine aa_ ?_
 refine bC_ [] (c6) evd (bf_.mk' (by simp) evd) ?_;refine evg ?_;try refine aa_ ?_
 exact Gt_ [] [2,3,4,5,6,7,8]
structure dF_ where
 cs:List AV
 pu:PuL cs
theorem dF_.ren(c:dF_)(ρ:Nat→Nat):bh_ ρ c.cs=c.cs:=PuL.ren ρ c.pu
theorem dF_.fz(c:dF_)(σ:St)(zs:List Nat):fzL σ zs c.cs=c.cs:=PuL.fz σ zs c.pu
attribute [go_sem] dF_.ren dF_.fz
theorem tz_(l:List Nod)(cl:Bool)(fn:FuncId)(c:dF_)(p:Nat→Bool)(hl:l.length≤1000000)(hc:∀i,i<l.length→ao_ Try.prog fn [.agg (av_ (l.getD i fX_)),.ptr 0 0] [.var c.cs] (.bool (p i)) [.var c.cs]):ao_ Try.prog 81 [.sl 240 cl (rows av_ l),.fn (.func fn) [.ptr 0 0]] [.var c.cs] (.int .i64 (mk_ (cb_ p l.length))) [.var c.cs]:=by
 refine ao_.fact 9 dn_ (by simp) ?_ (by simp);unfold bQ_;refine bd ?_;have hN:cb_ p l.length=gI_ p (l.length-0) 0:=rfl;try refine aa_ ?_
 refine aE_ (fun i:Nat=>[(8,.int .i64 i)]) (fun _=>[.var c.cs]) (fun i=>l.length-i) (fun i=>i≤l.length∧cb_ p l.length=gI_ p (l.length-i) i) 0 ⟨Nat.zero_le _,hN⟩ ?_ ?_
 ·exact GH_ [] [0]
 clear hN;rintro i ⟨hi,hn⟩;rw[hn];refine eP_ ?_;by_cases h1:i<l.length
 ·have e1:=inT h1
  have hw:=ai_ h1 (by omega);have hgd:(rows av_ l).getD i []=av_ (l.getD i fX_):=aR_ (f:=av_) fX_ h1;have c1:=hc i h1;repeat(first|refine aa_ ?_|simp only[go_sem,e1])
  refine ab_ ?_;repeat(first|refine aa_ ?_|simp only[go_sem,hgd])
  refine bC_ [0] (c1) evd (bf_.mk' (by simp) evd) ?_;refine evg ?_;cases h:p i with
  | true =>
    rw[nr_ h1 h];try refine aa_ ?_
    refine EB_ ?_
    exact Gt_ [] [0]
  | false =>
    rw[nq_ h1 h];try refine aa_ ?_
    refine ac_ ?_;repeat(first|refine aa_ ?_|simp only[go_sem,hw])
    refine⟨i+1,⟨h1,rfl⟩,by omega,?_⟩;exact GH_ [] [0]
 ·obtain rfl:i=l.length:=by omega
  have e1:=inF (l.length);rw[np_];repeat(first|refine aa_ ?_|simp only[go_sem,e1])
  refine EA_ ?_
  exact Gt_ [] [0]
theorem As_(l:List as_)(cl:Bool)(fn:FuncId)(c:dF_)(p:Nat→Bool)(hl:l.length≤1000000)(hc:∀i,i<l.length→ao_ Try.prog fn [.agg (as_.c (l.getD i default)),.ptr 0 0] [.var c.cs] (.bool (p i)) [.var c.cs]):ao_ Try.prog 80 [.sl 34 cl (rows as_.c l),.fn (.func fn) [.ptr 0 0]] [.var c.cs] (.int .i64 (mk_ (cb_ p l.length))) [.var c.cs]:=by
 refine ao_.fact 9 bJ_ (by simp) ?_ (by simp);unfold ba_;refine bd ?_;have hN:cb_ p l.length=gI_ p (l.length-0) 0:=rfl;try refine aa_ ?_
 refine aE_ (fun i:Nat=>[(8,.int .i64 i)]) (fun _=>[.var c.cs]) (fun i=>l.length-i) (fun i=>i≤l.length∧cb_ p l.length=gI_ p (l.length-i) i) 0 ⟨Nat.zero_le _,hN⟩ ?_ ?_
 ·exact GH_ [] [0]
 clear hN;rintro i ⟨hi,hn⟩;rw[hn];refine eP_ ?_;by_cases h1:i<l.length
 ·have e1:=inT h1
  have hw:=ai_ h1 (by omega);have hgd:(rows as_.c l).getD i []=as_.c (l.getD i default):=aR_ (f:=as_.c) default h1;have c1:=hc i h1;repeat(first|refine aa_ ?_|simp only[go_sem,e1])
  refine ab_ ?_;repeat(first|refine aa_ ?_|simp only[go_sem,hgd])
  refine bC_ [0] (c1) evd (bf_.mk' (by simp) evd) ?_;refine evg ?_;cases h:p i with
  | true =>
    rw[nr_ h1 h];try refine aa_ ?_
    refine EB_ ?_
    exact Gt_ [] [0]
  | false =>
    rw[nq_ h1 h];try refine aa_ ?_
    refine ac_ ?_;repeat(first|refine aa_ ?_|simp only[go_sem,hw])
    refine⟨i+1,⟨h1,rfl⟩,by omega,?_⟩;exact GH_ [] [0]
 ·obtain rfl:i=l.length:=by omega
  have e1:=inF (l.length);rw[np_];repeat(first|refine aa_ ?_|simp only[go_sem,e1])
  refine EA_ ?_
  exact Gt_ [] [0]
theorem At_(l:List Vot)(cl:Bool)(fn:FuncId)(p:Nat→Bool)(hl:l.length≤1000000)(hc:∀i,i<l.length→PC Try.prog fn [.agg (aV_ (l.getD i eu_))] (.bool (p i))):PC Try.prog 88 [.sl 34 cl (rows aV_ l),.fn (.func fn) []] (.int .i64 (mk_ (cb_ p l.length))):=by
 refine PC.fact 9 do_ (by simp) puA puA ?_;unfold bR_;refine bd ?_;have hN:cb_ p l.length=gI_ p (l.length-0) 0:=rfl;try refine aa_ ?_
 refine aE_ (fun i:Nat=>[(8,.int .i64 i)]) (fun _=>[]) (fun i=>l.length-i) (fun i=>i≤l.length∧cb_ p l.length=gI_ p (l.length-i) i) 0 ⟨Nat.zero_le _,hN⟩ ?_ ?_
 ·exact GH_ [] []
 clear hN;rintro i ⟨hi,hn⟩;rw[hn];refine eP_ ?_;by_cases h1:i<l.length
 ·have e1:=inT h1
  have hw:=ai_ h1 (by omega);have hgd:(rows aV_ l).getD i []=aV_ (l.getD i eu_):=aR_ (f:=aV_) eu_ h1;have c1:=hc i h1;repeat(first|refine aa_ ?_|simp only[go_sem,e1])
  refine ab_ ?_;repeat(first|refine aa_ ?_|simp only[go_sem,hgd])
  refine aA_ c1 ?_;cases h:p i with
  | true =>
    rw[nr_ h1 h];try refine aa_ ?_
    refine EB_ ?_
    exact am_
  | false =>
    rw[nq_ h1 h];try refine aa_ ?_
    refine ac_ ?_;repeat(first|refine aa_ ?_|simp only[go_sem,hw])
    refine⟨i+1,⟨h1,rfl⟩,by omega,?_⟩;exact GH_ [] []
 ·obtain rfl:i=l.length:=by omega
  have e1:=inF (l.length);rw[np_];repeat(first|refine aa_ ?_|simp only[go_sem,e1])
  refine EA_ ?_
  exact am_
theorem zR_(l:List Nod)(cl:Bool)(fn:FuncId)(c:dF_)(p:Nat→Bool)(hl:l.length≤1000000)(hc:∀i,i<l.length→ao_ Try.prog fn [.agg (av_ (l.getD i fX_)),.ptr 0 0] [.var c.cs] (.bool (p i)) [.var c.cs]):ao_ Try.prog 67 [.sl 240 cl (rows av_ l),.fn (.func fn) [.ptr 0 0]] [.var c.cs] (.bool (cb_ p l.length).isSome) [.var c.cs]:=by
 refine ao_.fact 5 cP_ (by simp) ?_ (by simp);unfold by_;refine bd ?_;have c1:=tz_ l cl fn c p hl hc;try refine aa_ ?_
 refine bC_ [0] (c1) evd (bf_.mk' (by simp) evd) ?_;refine evg ?_;cases h:cb_ p l.length with
 | none =>
   try refine aa_ ?_
   exact Gt_ [] [0]
 | some i =>
   have e2:decide ((i:Int) ≥ 0)=true:=decide_eq_true (by omega);repeat(first|refine aa_ ?_|simp only[go_sem,e2])
   exact Gt_ [] [0]
theorem zS_(l:List as_)(cl:Bool)(fn:FuncId)(c:dF_)(p:Nat→Bool)(hl:l.length≤1000000)(hc:∀i,i<l.length→ao_ Try.prog fn [.agg (as_.c (l.getD i default)),.ptr 0 0] [.var c.cs] (.bool (p i)) [.var c.cs]):ao_ Try.prog 77 [.sl 34 cl (rows as_.c l),.fn (.func fn) [.ptr 0 0]] [.var c.cs] (.bool (cb_ p l.length).isSome) [.var c.cs]:=by
 refine ao_.fact 5 cE_ (by simp) ?_ (by simp);unfold bs_;refine bd ?_;have c1:=As_ l cl fn c p hl hc;try refine aa_ ?_
 refine bC_ [0] (c1) evd (bf_.mk' (by simp) evd) ?_;refine evg ?_;cases h:cb_ p l.length with
 | none =>
   try refine aa_ ?_
   exact Gt_ [] [0]
 | some i =>
   have e2:decide ((i:Int) ≥ 0)=true:=decide_eq_true (by omega);repeat(first|refine aa_ ?_|simp only[go_sem,e2])
   exact Gt_ [] [0]
theorem zT_(l:List Vot)(cl:Bool)(fn:FuncId)(p:Nat→Bool)(hl:l.length≤1000000)(hc:∀i,i<l.length→PC Try.prog fn [.agg (aV_ (l.getD i eu_))] (.bool (p i))):PC Try.prog 65 [.sl 34 cl (rows aV_ l),.fn (.func fn) []] (.bool (cb_ p l.length).isSome):=by
 refine PC.fact 5 cQ_ (by simp) puA puA ?_;unfold bz_;refine bd ?_;have c1:=At_ l cl fn p hl hc;try refine aa_ ?_
 refine aA_ c1 ?_;cases h:cb_ p l.length with
 | none =>
   try refine aa_ ?_
   exact am_
 | some i =>
   have e2:decide ((i:Int) ≥ 0)=true:=decide_eq_true (by omega);repeat(first|refine aa_ ?_|simp only[go_sem,e2])
   exact am_
theorem vf_(x:Nod)(r:Rt):ao_ Try.prog 82 [.agg (av_ x),.ptr 0 0] [.var (rtc r)] (.bool (decide (x.blk.root=r))) [.var (rtc r)]:=by
 refine ao_.fact 4 jK_ (by simp) ?_ (by simp);unfold fA_;refine bd ?_;try refine aa_ ?_
 exact Gt_ [] [0]
theorem dJ_(t:List Nod)(r:Rt)(hb:t.length≤1000000):PC Try.prog 55 [.agg [.sl 240 false (rows av_ t)],.agg (rtc r)] (.int .i64 (al_ t r)):=by
 refine PC.fact 5 la_ (by simp) puA puA ?_;unfold gz_;refine bd ?_;have c1:=tz_ t false 82 ⟨rtc r,bT_ r⟩ (fun i=>decide ((nod t i).blk.root=r)) hb (fun i _=>vf_ _ r);try refine aa_ ?_
 refine bC_ [1] (c1) evd (bf_.mk' (by simp) evd) ?_;refine evg ?_;try refine aa_ ?_
 exact am_
theorem lo_(t:List Nod)(i:Int):PC Try.prog 85 [.agg [.sl 240 false (rows av_ t)],.int .i64 i] (.bool (isN t i)):=by
 refine PC.fact 5 ne_ (by simp) puA puA ?_;unfold hG_;refine bd ?_;unfold isN;by_cases h0:0≤i
 ·have e0:decide (i ≥ 0)=true:=decide_eq_true h0;have e1:decide (0≤i)=true:=decide_eq_true h0;repeat(first|refine aa_ ?_|simp only[go_sem,e0,e1])
  exact am_
 ·have e0:decide (i ≥ 0)=false:=decide_eq_false h0;have e1:decide (0≤i)=false:=decide_eq_false h0;repeat(first|refine aa_ ?_|simp only[go_sem,e0,e1])
  exact am_
theorem AL_(t:List Nod)(ht:cd_ t)(hb:t.length≤1000000)(i slot:Int):PC Try.prog 61 [.agg [.sl 240 false (rows av_ t)],.int .i64 i,.int .u64 slot] (.int .i64 (atT t i slot)):=by
 refine PC.fact 7 pk_ (by simp) puA puA ?_;unfold jo_;refine bd ?_;generalize hR:atT t i slot=R;try refine aa_ ?_
 refine aE_ (fun j:Int=>[(1,.int .i64 j)]) (fun _=>[.var [.sl 240 false (rows av_ t)]]) (fun j=>(j+1).toNat) (fun j=>atT t j slot=R) i hR ?_ ?_
 ·exact GH_ [] [0]
 clear hR;intro j hR;have c1:=lo_ t j;try refine aa_ ?_
 refine aA_ c1 ?_;cases h:isN t j with
 | false =>
   rw[zz_ slot h]at hR;subst hR;try refine aa_ ?_
   refine EA_ ?_
   exact am_
 | true =>
   obtain⟨h0,h1⟩:=he_.1 h;obtain⟨k,rfl⟩:=Int.eq_ofNat_of_zero_le h0;have hk:k<t.length:=by omega
   have hgd:(rows av_ t).getD k []=av_ (nod t k):=aR_ (f:=av_) fX_ hk;have hbd:decide ((k:Int)<((t.length:Nat):Int))=true:=decide_eq_true h1;rw[DX_ ht hk]at hR
   have hup:(nod t k).up<k:=by
    rcases Nat.eq_zero_or_pos k with h|h
    ·subst h;have:=ht.root;omega
    ·have:=ht.ok k h hk;omega
   try refine aa_ ?_
   refine ab_ ?_;repeat(first|refine aa_ ?_|simp only[go_sem,hgd])
   by_cases h2:(nod t k).blk.slot≤slot
   ·have e2:decide ((nod t k).blk.slot≤slot)=true:=decide_eq_true h2;rw[if_pos h2]at hR;subst hR;repeat(first|refine aa_ ?_|simp only[go_sem,e2])
    refine EB_ ?_
    exact am_
   ·have e2:decide ((nod t k).blk.slot≤slot)=false:=decide_eq_false h2;rw[if_neg h2]at hR;repeat(first|refine aa_ ?_|simp only[go_sem,e2])
    refine ac_ ?_;repeat(first|refine aa_ ?_|simp only[go_sem,hgd])
    refine⟨(nod t k).up,hR,by omega,?_⟩;exact GH_ [] [0]
theorem yk_(t:List Nod)(ht:cd_ t)(hb:t.length≤1000000)(a b:Int):PC Try.prog 79 [.agg [.sl 240 false (rows av_ t)],.int .i64 a,.int .i64 b] (.bool (dg_ t a b)):=by
 refine PC.fact 7 hx_ (by simp) puA puA ?_;unfold ei_;refine bd ?_;have c1:=lo_ t a;have c2:=lo_ t b;try refine aa_ ?_
 refine aA_ c1 ?_;cases ha:isN t a with
 | false =>
   rw[rb_ ht (.inl ha)];try refine aa_ ?_
   refine EB_ ?_
   exact am_
 | true =>
   try refine aa_ ?_
   refine aA_ c2 ?_;cases hb:isN t b with
   | false =>
     rw[rb_ ht (.inr hb)];try refine aa_ ?_
     refine EB_ ?_
     exact am_
   | true =>
     try refine aa_ ?_
     refine ac_ ?_;generalize hR:dg_ t a b=R;try refine aa_ ?_
     refine aE_ (fun j:Int=>[(2,.int .i64 j)]) (fun _=>[.var [.sl 240 false (rows av_ t)]]) (fun j=>(j+1).toNat) (fun j=>isN t j=true∧dg_ t a j=R) b ⟨hb,hR⟩ ?_ ?_
     ·exact GH_ [] [0]
     clear hR hb;rintro j ⟨hj,hR⟩;obtain⟨h0,h1⟩:=he_.1 hj;obtain⟨k,rfl⟩:=Int.eq_ofNat_of_zero_le h0;have hk:k<t.length:=by omega
     have ha0:=(he_.1 ha).1;by_cases h2:(k:Int) > a
     ·have e2:decide ((k:Int) > a)=true:=decide_eq_true h2;have hgd:(rows av_ t).getD k []=av_ (nod t k):=aR_ (f:=av_) fX_ hk;have hbd:decide ((k:Int)<((t.length:Nat):Int))=true:=decide_eq_true h1;rw[sL_ ht hk (by omega)]at hR;have hup:=ht.ok k (by omega) hk;repeat(first|refine aa_ ?_|simp only[go_sem,e2])
      refine ab_ ?_;repeat(first|refine aa_ ?_|simp only[go_sem,hgd])
      refine⟨(nod t k).up,⟨he_.2 (by omega),hR⟩,by omega,?_⟩;exact GH_ [] [0]
     ·have e2:decide ((k:Int) > a)=false:=decide_eq_false h2;rw[zx_ ht hk (by omega)]at hR;have e3:(a==(k:Int))=R:=by rw[←hR];by_cases h:a=(k:Int)<;>simp[h]
      repeat(first|refine aa_ ?_|simp only[go_sem,e2])
      refine ac_ ?_;repeat(first|refine aa_ ?_|simp only[go_sem,e3])
      exact am_
theorem vF_(b:Blk)(st:Int):PC Try.prog 13 [.agg (aw_ b),.int .i64 st] (.agg [.sl 240 false (rows av_ [⟨b,-1,st⟩])]):=by
 refine PC.fact 5 ma_ (by simp) puA puA ?_;unfold hk_;refine bd ?_;try refine aa_ ?_
 refine⟨_,by first|rfl|exact evd,.inr ⟨.agg [.sl 240 true (rows av_ [⟨b,-1,st⟩])],evd,by simp[Pu,PuL,de_],Wk.agg ⟨Wk.open_ _ _ _,fun h=>h,trivial⟩⟩⟩
theorem vE_(i:Int):PC Try.prog 86 [.int .i64 i] (.bool (decide (0≤i)&&decide (i≤2))):=by
 refine PC.fact 3 hV_ (by simp) puA puA ?_;unfold eC_;refine bd ?_;by_cases h0:0≤i
 ·have e0:decide (i ≥ 0)=true:=decide_eq_true h0;have e1:decide (0≤i)=true:=decide_eq_true h0;repeat(first|refine aa_ ?_|simp only[go_sem,e0,e1])
  exact am_
 ·have e0:decide (i ≥ 0)=false:=decide_eq_false h0;have e1:decide (0≤i)=false:=decide_eq_false h0;repeat(first|refine aa_ ?_|simp only[go_sem,e0,e1])
  exact am_
end Go.Proofs.Ytkgimpdgncakjaa
