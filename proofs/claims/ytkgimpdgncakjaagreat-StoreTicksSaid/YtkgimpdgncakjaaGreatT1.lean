/-
 My texts Qa, Qb, Qc, joined.
-/
import Derived.Test.YtkgimpdgncakjaaGreatW3
import Derived.Test.YtkgimpdgncakjaaGreatW4
import Derived.Test.YtkgimpdgncakjaaGreatV5
import Derived.Test.YtkgimpdgncakjaaGreatW5
import Derived.Test.YtkgimpdgncakjaaGreatV4
namespace Go.Proofs.YtkgimpdgncakjaaGreat
open Go Go.FH Go.RowKit
set_option linter.unusedVariables false
set_option linter.unusedSimpArgs false
set_option maxRecDepth 8000
set_option maxHeartbeats 4000000
theorem Il_{n:Int}(h0:0≤n)(h1:n<18446744073709551616):fP_ .u64 n 4294967295=n%4294967296:=by
 obtain⟨m,rfl⟩:=Int.eq_ofNat_of_zero_le h0;unfold fP_
 have:(BitVec.ofInt IntKind.u64.bits (m:Int) &&& BitVec.ofInt IntKind.u64.bits 4294967295).toNat=m%4294967296:=by
  rw[BitVec.toNat_and,BitVec.ofInt_natCast,show BitVec.ofInt IntKind.u64.bits 4294967295=BitVec.ofNat IntKind.u64.bits (2 ^ 32-1)by decide,BitVec.toNat_ofNat,BitVec.toNat_ofNat];rw[show (2 ^ 32-1)%2 ^ IntKind.u64.bits=2 ^ 32-1 by decide,Nat.and_two_pow_sub_one_eq_mod];rw[Nat.mod_mod_of_dvd _ (by decide)]
 rw[this,aL_ (by omega) (by omega)];omega
theorem Nl_(n:Int):dq_ .u64 n 32=n / 4294967296:=by
 unfold dq_;rw[show ((2:Int) ^ (min 32 IntKind.u64.bits))=4294967296 by decide];exact Int.fdiv_eq_ediv_of_nonneg _ (by omega)
theorem oQ_(n:Int):PC Tryz.prog 112 [.int .u64 n] (.bool (iC_ n)):=by
 refine PC.fact 3 zX_ (by simp) puA puA ?_;unfold pu_;refine bd ?_;unfold iC_;cases h:decide (1≤n)with
 | true =>
   repeat(first|refine aa_ ?_|simp only[go_sem,h])
   exact af_
 | false =>
   repeat(first|refine aa_ ?_|simp only[go_sem,h])
   exact af_
theorem mC_(s p:Int):PC Tryz.prog 121 [.int .u64 s,.int .u64 p] (.tup [.int .u64 (dY_ s p).1,.int .i64 (dY_ s p).2]):=by
 refine PC.fact 6 sq_ (by simp) puA puA ?_;unfold kT_;refine bd ?_;have c1:=oQ_ p;unfold dY_;try refine aa_ ?_
 refine ah_ c1 ?_;cases h:iC_ p with
 | true =>
   have h0:p≠0:=by simp[iC_]at h;omega
   rw[if_pos rfl];try refine aa_ ?_
   refine ab_ ?_;repeat(first|refine aa_ ?_|simp only[go_sem,h0])
   exact af_
 | false =>
   rw[if_neg (by simp)];try refine aa_ ?_
   refine PH_ ?_
   exact af_
theorem Ff_{x0 x1 y0 y1:Int}(hx0:0≤x0)(hx0':x0<4294967296)(hx1:0≤x1)(hx1':x1<4294967296)(hy0:0≤y0)(hy0':y0<4294967296)(hy1:0≤y1)(hy1':y1<4294967296)(x y:Int)(hx:x=x1*4294967296+x0)(hy:y=y1*4294967296+y0):
 PC Tryz.prog 219 [.int .u64 x,.int .u64 y] (.tup [.int .u64 (x*y / 18446744073709551616),.int .u64 (IntKind.u64.wrap (x*y))]):=by
 refine PC.fact 14 pA_ (by simp) puA puA ?_;unfold iH_;refine bd ?_;obtain⟨b00,b10,b01,b11,hz⟩:=Pt_ hx0 hx0' hx1 hx1' hy0 hy0' hy1 hy1';have mk:∀n:Int,0≤n→n<18446744073709551616→fP_ .u64 n 4294967295=n%4294967296:=fun n h1 h2=>Il_ h1 h2
 have sh:∀n:Int,dq_ .u64 n 32=n / 4294967296:=fun n=>Nl_ n
 have e1:fP_ .u64 x 4294967295=x0:=by rw[mk x (by omega) (by omega)];omega
 have e2:dq_ .u64 x 32=x1:=by rw[sh];omega
 have e3:fP_ .u64 y 4294967295=y0:=by rw[mk y (by omega) (by omega)];omega
 have e4:dq_ .u64 y 32=y1:=by rw[sh];omega
 have hxy:x*y=x1*y1*18446744073709551616+(x1*y0+x0*y1)*4294967296+x0*y0:=by rw[hx,hy];exact hz
 have e5:IntKind.u64.wrap (x0*y0)=x0*y0:=gt_ b00.1 (by omega);have e6:IntKind.u64.wrap (x1*y0)=x1*y0:=gt_ b10.1 (by omega);have e7:IntKind.u64.wrap (x0*y1)=x0*y1:=gt_ b01.1 (by omega);have e8:IntKind.u64.wrap (x1*y1)=x1*y1:=gt_ b11.1 (by omega);generalize hpz:x*y=z at *;clear hz;generalize hp0:x0*y0=p00 at *;generalize hp1:x1*y0=p10 at *;generalize hp2:x0*y1=p01 at *;generalize hp3:x1*y1=p11 at *;have e9:dq_ .u64 p00 32=p00 / 4294967296:=sh _;have e10:IntKind.u64.wrap (p10+p00 / 4294967296)=p10+p00 / 4294967296:=gt_ (by omega) (by omega);have e11:fP_ .u64 (p10+p00 / 4294967296) 4294967295=(p10+p00 / 4294967296)%4294967296:=mk _ (by omega) (by omega);have e12:dq_ .u64 (p10+p00 / 4294967296) 32=(p10+p00 / 4294967296) / 4294967296:=sh _;generalize hT:p10+p00 / 4294967296=T at *;have e13:IntKind.u64.wrap (T%4294967296+p01)=T%4294967296+p01:=gt_ (by omega) (by omega);have e14:IntKind.u64.wrap (p11+T / 4294967296)=p11+T / 4294967296:=gt_ (by omega) (by omega);have e15:dq_ .u64 (T%4294967296+p01) 32=(T%4294967296+p01) / 4294967296:=sh _;have e16:IntKind.u64.wrap (p11+T / 4294967296+(T%4294967296+p01) / 4294967296)=z / 18446744073709551616:=by rw[gt_ (by omega) (by omega)];omega
 repeat(first|refine aa_ ?_|simp only[go_sem,hpz,hp0,hp1,hp2,hp3,hT,e1,e2,e3,e4,e5,e6,e7,e8,e9,e10,e11,e12,e13,e14,e15,e16])
 exact af_
theorem JM_{a b:Int}(ha:0≤a)(ha2:a<18446744073709551616)(hb:0≤b)(hb2:b<18446744073709551616):PC Tryz.prog 184 [.int .u64 a,.int .u64 b] (.tup [.int .u64 (wV_ a b).1,.int .i64 (wV_ a b).2]):=by
 rw[←Nt_ ha ha2 hb hb2];refine PC.fact 8 BS_ (by simp) puA puA ?_;unfold ru_;refine bd ?_;have c1:=Ff_ (x0:=a%4294967296) (x1:=a / 4294967296) (y0:=b%4294967296) (y1:=b / 4294967296) (by omega) (by omega) (by omega) (by omega) (by omega) (by omega) (by omega) (by omega) a b (by omega) (by omega);unfold Ps_;try refine aa_ ?_
 refine ah_ c1 ?_;by_cases h:a*b / 18446744073709551616=0
 ·have e1:(a*b / 18446744073709551616==0)=true:=by simp[h]
  rw[if_pos h];repeat(first|refine aa_ ?_|simp only[go_sem,e1])
  refine PH_ ?_
  exact af_
 ·have e1:(a*b / 18446744073709551616==0)=false:=by simp[h]
  rw[if_neg h];repeat(first|refine aa_ ?_|simp only[go_sem,e1])
  refine PG_ ?_
  exact af_
theorem hc_{e p:Int}(he:0≤e)(he2:e<18446744073709551616):PC Tryz.prog 117 [.int .u64 e,.int .u64 p] (.tup [.int .u64 (cf_ e p).1,.int .i64 (cf_ e p).2]):=by
 refine PC.fact 6 ss_ (by simp) puA puA ?_;unfold kV_;refine bd ?_;have c1:=oQ_ p;unfold cf_;try refine aa_ ?_
 refine ah_ c1 ?_;cases h:iC_ p with
 | true =>
   have c2:=JM_ he he2 (b:=p) (by simp[iC_]at h;omega) (by simp[iC_]at h;omega);rw[if_pos rfl];try refine aa_ ?_
   refine PG_ ?_
   refine Qy_ c2 ?_
   exact af_
 | false =>
   rw[if_neg (by simp)];try refine aa_ ?_
   refine PH_ ?_
   exact af_
theorem Lj_(s p:Int):PC Tryz.prog 39 [.int .u64 s,.int .u64 p] (.bool (iC_ p&&decide (Int.tmod s p=0))):=by
 refine PC.fact 5 sr_ (by simp) puA puA ?_;unfold kU_;refine bd ?_;have c1:=oQ_ p;try refine aa_ ?_
 refine ah_ c1 ?_;cases h:iC_ p with
 | true =>
   have h0:p≠0:=by simp[iC_]at h;omega
   have e1:(Int.tmod s p==0)=decide (Int.tmod s p=0):=by by_cases h:Int.tmod s p=0<;>simp[h]
   repeat(first|refine aa_ ?_|simp only[go_sem,h0,e1])
   exact af_
 | false =>
   try refine aa_ ?_
   exact af_
theorem uq_(r:Rt):PC Tryz.prog 78 [.agg (rtc r)] (.bool (decide (r=rt0))):=by
 refine PC.fact 3 ua_ (by simp) puA puA ?_;unfold lJ_;refine bd ?_;try refine aa_ ?_
 exact af_
theorem Hp_(a b:Rt):as_ Tryz.prog 234 [.va 1 0 0 32,.va 1 1 0 32] [.var (rtc a),.var (rtc b)] (.int .i64 (rT_ a b)) [.var (rtc a),.var (rtc b)]:=by
 refine as_.fact 8 rX_ (by simp) ?_ (by simp);unfold kB_;refine bd ?_;have e1:=Nb_ a b;repeat(first|refine aa_ ?_|simp only[go_sem,e1])
 exact QO_ [] [0,1]
theorem IV_(a b:Rt):PC Tryz.prog 210 [.agg (rtc a),.agg (rtc b)] (.int .i64 (rT_ a b)):=by
 refine PC.fact 5 sp_ (by simp) puA puA ?_;unfold kS_;refine bd ?_;have c1:=Hp_ a b;try refine aa_ ?_
 refine Eq_ [0,1] (c1) evd (bn_.mk' (by simp) evd) ?_;refine evg ?_;try refine aa_ ?_
 exact af_
theorem up_(n:Int):PC Tryz.prog 233 [.int .u64 n] (.bool false):=by
 refine PC.fact 3 op_ (by simp) puA puA ?_;unfold hW_;refine bd ?_;try refine aa_ ?_
 exact af_
theorem JL_(a b:Int):PC Tryz.prog 209 [.int .u64 a,.int .u64 b] (.int .i64 (KE_ a b)):=by
 refine PC.fact 7 lU_ (by simp) puA puA ?_;unfold gG_;refine bd ?_;have c1:=up_ a;have c2:=up_ b;unfold KE_;try refine aa_ ?_
 refine Qy_ c1 ?_
 refine Qy_ c2 ?_
 refine PG_ ?_
 refine PG_ ?_
 by_cases h1:a<b
 ·have e1:decide (a<b)=true:=decide_eq_true h1;rw[if_pos h1];repeat(first|refine aa_ ?_|simp only[go_sem,e1])
  refine PH_ ?_
  exact af_
 ·have e1:decide (a<b)=false:=decide_eq_false h1
  rw[if_neg h1];repeat(first|refine aa_ ?_|simp only[go_sem,e1])
  refine PG_ ?_
  by_cases h2:b<a
  ·have e2:decide (b<a)=true:=decide_eq_true h2;rw[if_pos h2];repeat(first|refine aa_ ?_|simp only[go_sem,e2])
   refine PH_ ?_
   exact af_
  ·have e2:decide (b<a)=false:=decide_eq_false h2;rw[if_neg h2];repeat(first|refine aa_ ?_|simp only[go_sem,e2])
   refine PG_ ?_
   exact af_
theorem NE_(l:List Int)(cl:Bool)(hl:l.length≤1000):PC Tryz.prog 208 [.sl 1 cl (aq_ .i64 l)] (.int .i64 (orI l)):=by
 refine PC.fact 9 zF_ (by simp) puA puA ?_;unfold pd_;refine bd ?_;obtain⟨R,hR⟩:∃R,R=orI (l.drop 0):=⟨_,rfl⟩
 have hR0:orI l=R:=by rw[hR,List.drop_zero]
 rw[hR0];try refine aa_ ?_
 refine am_ (fun i:Nat=>[(8,.int .i64 i)]) (fun _=>[]) (fun i=>l.length-i) (fun i=>i≤l.length∧R=orI (l.drop i)) 0 ⟨Nat.zero_le _,hR⟩ ?_ ?_
 ·exact QV_ [] []
 clear hR hR0;rintro i ⟨hi,hn⟩;(try simp only[ao_,ar_,List.set_cons_zero,List.set_cons_succ])
 by_cases h1:i<l.length
 ·have e1:decide ((i:Int)<((l.length:Nat):Int))=true:=decide_eq_true (by omega)
  have hw:=ae_ h1 (by omega);rw[List.drop_eq_getElem_cons h1]at hn;have hg:l.getD i 0=l[i]:=by simp[List.getD,h1]
  rw[←hg]at hn;have hgd:=gdn (k:=.i64) h1;generalize l.getD i 0=x at *;simp only[orI]at hn;repeat(first|refine aa_ ?_|simp only[go_sem,e1])
  refine ac_ ?_;repeat(first|refine aa_ ?_|simp only[go_sem,hgd])
  by_cases h2:x=0
  ·subst h2;rw[if_neg (by simp)]at hn;try refine aa_ ?_
   refine ab_ ?_;repeat(first|refine aa_ ?_|simp only[go_sem,hw])
   refine⟨i+1,⟨h1,hn⟩,by omega,?_⟩;exact QV_ [] []
  ·have e2:(x != 0)=true:=by simp[h2]
   rw[if_pos h2]at hn;subst hn;repeat(first|refine aa_ ?_|simp only[go_sem,e2])
   refine PH_ ?_
   exact af_
 ·obtain rfl:i=l.length:=by omega
  have e1:decide (((l.length:Nat):Int)<((l.length:Nat):Int))=false:=decide_eq_false (by omega);rw[List.drop_length]at hn;subst hn;repeat(first|refine aa_ ?_|simp only[go_sem,e1])
  refine PG_ ?_
  exact af_
theorem LA_(a b:Cp):PC Tryz.prog 168 [.agg (cpC a),.agg (cpC b)] (.int .i64 (wi_ a b)):=by
 refine PC.fact 5 mT_ (by simp) puA puA ?_;unfold hm_;refine bd ?_;have c1:=JL_ a.ep b.ep;have c2:=IV_ a.rt b.rt;have c3:=NE_ [KE_ a.ep b.ep,rT_ a.rt b.rt] true (by simp);rw[ND_]at c3;try refine aa_ ?_
 refine au_ (c1) ?_;try refine aa_ ?_
 refine au_ (c2) ?_;try refine aa_ ?_
 refine au_ (c3) ?_;try refine aa_ ?_
 exact af_
theorem IH_(a b:aw_):PC Tryz.prog 98 [.agg (aT_ a.a),.agg (aT_ b.a)] (.int .i64 (wi_ a.cp b.cp)):=by
 refine PC.fact 5 tN_ (by simp) puA puA ?_;unfold lu_;refine bd ?_;have c1:=LA_ a.cp b.cp;try refine aa_ ?_
 refine Qy_ c1 ?_
 exact af_
theorem Hw_(l:List Int)(cl:Bool)(hl:l.length≤1000000):PC Tryz.prog 167 [.sl 1 cl (aq_ .u64 l)] (.tup [.int .u64 (sI_ l 0).1,.bool (sI_ l 0).2]):=by
 refine PC.fact 10 tH_ (by simp) puA puA ?_;unfold lo_;refine bd ?_;obtain⟨R,hR⟩:∃R,R=sI_ (l.drop 0) 0:=⟨_,rfl⟩
 have hR0:sI_ l 0=R:=by rw[hR,List.drop_zero]
 rw[hR0];try refine aa_ ?_
 refine am_ (fun x:Nat×Int=>[(9,.int .i64 x.1),(4,.int .u64 x.2)]) (fun _=>[]) (fun x=>l.length-x.1) (fun x=>x.1≤l.length∧R=sI_ (l.drop x.1) x.2) (0,0) ⟨Nat.zero_le _,hR⟩ ?_ ?_
 ·exact QV_ [] []
 clear hR hR0;rintro⟨i,n⟩ ⟨hi,hn⟩;dsimp only at hi hn ⊢;(try simp only[ao_,ar_,List.set_cons_zero,List.set_cons_succ])
 by_cases h1:i<l.length
 ·have e1:decide ((i:Int)<((l.length:Nat):Int))=true:=decide_eq_true (by omega)
  have hw:=ae_ h1 (by omega);rw[List.drop_eq_getElem_cons h1]at hn;have hg:l.getD i 0=l[i]:=by simp[List.getD,h1]
  rw[←hg]at hn;have hgd:=gdn (k:=.u64) h1;generalize l.getD i 0=x at *;simp only[sI_]at hn;repeat(first|refine aa_ ?_|simp only[go_sem,e1])
  refine ac_ ?_;repeat(first|refine aa_ ?_|simp only[go_sem,hgd])
  by_cases h2:IntKind.u64.wrap (4611686018427387904-n)<x
  ·have e2:decide (IntKind.u64.wrap (4611686018427387904-n)<x)=true:=decide_eq_true h2;rw[if_pos h2]at hn;subst hn;repeat(first|refine aa_ ?_|simp only[go_sem,e2])
   refine PH_ ?_
   exact af_
  ·have e2:decide (IntKind.u64.wrap (4611686018427387904-n)<x)=false:=decide_eq_false h2;rw[if_neg h2]at hn;repeat(first|refine aa_ ?_|simp only[go_sem,e2])
   refine ab_ ?_;repeat(first|refine aa_ ?_|simp only[go_sem,hw])
   refine⟨(i+1,IntKind.u64.wrap (n+x)),⟨h1,hn⟩,by dsimp only;omega,?_⟩;exact QV_ [] []
 ·obtain rfl:i=l.length:=by omega
  have e1:decide (((l.length:Nat):Int)<((l.length:Nat):Int))=false:=decide_eq_false (by omega);rw[List.drop_length]at hn;subst hn;repeat(first|refine aa_ ?_|simp only[go_sem,e1])
  refine PG_ ?_
  exact af_
theorem tm_(t:aw_)(n:Int)(hl:t.bals.length≤1000000)(hu:∀x∈t.bals,0≤x∧x<18446744073709551616):PC Tryz.prog 96 [.agg (aT_ t.a),.int .i64 n] (.int .i64 (eu_ t n)):=by
 refine PC.fact 7 jg_ (by simp) puA puA ?_;unfold eV_;refine bd ?_;have c1:=Hw_ t.bals false hl;have h0:=JV_ hu;unfold eu_;by_cases h1:(t.bals.length:Int)=n
 ·have e1:((t.bals.length:Int) != n)=false:=by simp[h1]
  rw[if_neg (by simp[h1])];repeat(first|refine aa_ ?_|simp only[go_sem,e1])
  refine PG_ ?_
  refine ah_ c1 ?_;cases h2:(sI_ t.bals 0).2 with
  | true =>
    rw[if_neg (fun h=>by have:=h0.1 h;rw[h2]at this;cases this)];try refine aa_ ?_
    refine PG_ ?_
    exact af_
  | false =>
    rw[if_pos (h0.2 h2)];try refine aa_ ?_
    refine PH_ ?_
    exact af_
 ·have e1:((t.bals.length:Int) != n)=true:=by simp[h1]
  rw[if_pos h1];repeat(first|refine aa_ ?_|simp only[go_sem,e1])
  refine PH_ ?_
  exact af_
theorem JI_{α:Type}(f:α→List AV)(l:List α):List.take l.length (rows f l)=rows f l:=List.take_of_length_le (by simp)
theorem JH_(k:IntKind)(l:List Int):List.take l.length (aq_ k l)=aq_ k l:=List.take_of_length_le (by simp)
attribute [go_sem] JI_ JH_
theorem BB_(cl:Bool)(l:List Int)(hl:l.length≤1000000):as_ Tryz.prog 106 [.sl 1 cl (aq_ .u64 l)] [] (.hs 1 0 0 l.length) [.vec 1 (aq_ .u64 l)]:=by
 refine as_.fact 3 hf_ (by simp) ?_ (by simp);unfold dK_;refine bd ?_;try refine aa_ ?_
 refine fun b hb=>?_
 cases b with
 | true =>
   have h0:l=[]:=by simpa[rows,aq_]using hb rfl
   subst h0;try refine aa_ ?_
   refine ac_ ?_;refine fd_ (eI_ ?_);refine Do_ ?_;refine cP_ 2 1 ?_;simp only[go_sem];try refine aa_ ?_
   exact QO_ [] [0]
 | false =>
   try refine aa_ ?_
   refine PG_ ?_
   exact QO_ [] [0]
theorem Bz_(cl:Bool)(l:List Int)(hl:l.length≤1000000):as_ Tryz.prog 165 [.sl 1 cl (aq_ .i64 l)] [] (.hs 1 0 0 l.length) [.vec 1 (aq_ .i64 l)]:=by
 refine as_.fact 3 kl_ (by simp) ?_ (by simp);unfold fJ_;refine bd ?_;try refine aa_ ?_
 refine fun b hb=>?_
 cases b with
 | true =>
   have h0:l=[]:=by simpa[rows,aq_]using hb rfl
   subst h0;try refine aa_ ?_
   refine ac_ ?_;refine fd_ (eI_ ?_);refine Do_ ?_;refine cP_ 2 1 ?_;simp only[go_sem];try refine aa_ ?_
   exact QO_ [] [0]
 | false =>
   try refine aa_ ?_
   refine PG_ ?_
   exact QO_ [] [0]
theorem KC_(cl:Bool)(l:List Vot)(hl:l.length≤1000000):as_ Tryz.prog 176 [.sl 34 cl (rows aZ_ l)] [] (.hs 34 0 0 l.length) [.vec 34 (rows aZ_ l)]:=by
 refine as_.fact 3 fO_ (by simp) ?_ (by simp);unfold dp_;refine bd ?_;try refine aa_ ?_
 refine fun b hb=>?_
 cases b with
 | true =>
   have h0:l=[]:=by simpa[rows,aq_]using hb rfl
   subst h0;try refine aa_ ?_
   refine ac_ ?_;refine fd_ (eI_ ?_);refine Do_ ?_;refine cP_ 2 34 ?_;simp only[go_sem];try refine aa_ ?_
   exact QO_ [] [0]
 | false =>
   try refine aa_ ?_
   refine PG_ ?_
   exact QO_ [] [0]
theorem KB_(cl:Bool)(l:List Nod)(hl:l.length≤1000000):as_ Tryz.prog 177 [.sl 240 cl (rows aG_ l)] [] (.hs 240 0 0 l.length) [.vec 240 (rows aG_ l)]:=by
 refine as_.fact 3 fN_ (by simp) ?_ (by simp);unfold do_;refine bd ?_;try refine aa_ ?_
 refine fun b hb=>?_
 cases b with
 | true =>
   have h0:l=[]:=by simpa[rows,aq_]using hb rfl
   subst h0;try refine aa_ ?_
   refine ac_ ?_;refine fd_ (eI_ ?_);refine Do_ ?_;refine cP_ 2 240 ?_;simp only[go_sem];try refine aa_ ?_
   exact QO_ [] [0]
 | false =>
   try refine aa_ ?_
   refine PG_ ?_
   exact QO_ [] [0]
theorem Kz_(cl:Bool)(l:List Blk)(hl:l.length≤1000000):as_ Tryz.prog 109 [.sl 238 cl (rows ap_ l)] [] (.hs 238 0 0 l.length) [.vec 238 (rows ap_ l)]:=by
 refine as_.fact 3 fg_ (by simp) ?_ (by simp);unfold dc_;refine bd ?_;try refine aa_ ?_
 refine fun b hb=>?_
 cases b with
 | true =>
   have h0:l=[]:=by simpa[rows,aq_]using hb rfl
   subst h0;try refine aa_ ?_
   refine ac_ ?_;refine fd_ (eI_ ?_);refine Do_ ?_;refine cP_ 2 238 ?_;simp only[go_sem];try refine aa_ ?_
   exact QO_ [] [0]
 | false =>
   try refine aa_ ?_
   refine PG_ ?_
   exact QO_ [] [0]
theorem HS_(t:aw_)(hl:t.bals.length≤1000000):PC Tryz.prog 100 [.agg (aT_ t.a)] (.agg (aT_ t.a)):=by
 refine PC.fact 3 tL_ (by simp) puA puA ?_;unfold ls_;refine bd ?_;have c1:=BB_ false t.bals hl;try refine aa_ ?_
 refine bT_ [] (c1) evd (bn_.mk' (by simp) evd) ?_;refine evg ?_;try refine aa_ ?_
 exact af_
theorem HB_(t:aH_)(hl:t.vals.length≤1000000):PC Tryz.prog 93 [.agg (aY_ t.a)] (.agg (aY_ t.a)):=by
 refine PC.fact 3 lV_ (by simp) puA puA ?_;unfold gH_;refine bd ?_;have c1:=Bz_ false t.vals hl;try refine aa_ ?_
 refine bT_ [] (c1) evd (bn_.mk' (by simp) evd) ?_;refine evg ?_;try refine aa_ ?_
 exact af_
theorem yQ_{α:Type}(f:α→List AV)(l:List α)(d:α){i:Nat}(h:i<l.length):rows f (l.take i)++[f (l.getD i d)]=rows f (l.take (i+1)):=by
 rw[bP_,List.take_add_one,List.getD_eq_getElem?_getD,List.getElem?_eq_getElem h];rfl
theorem Ev_(l:List aw_)(cl:Bool)(hl:l.length≤1000)(hb:∀t∈l,t.bals.length≤1000000):as_ Tryz.prog 178 [.sl 34 cl (rows aw_.c l),.fn (.func 100) []] [] (.hs 34 0 0 l.length) [.vec 34 (rows aw_.c l)]:=by
 refine as_.fact 11 jN_ (by simp) ?_ (by simp);unfold fp_;refine bd ?_;try refine aa_ ?_
 refine cP_ 5 34 ?_;simp only[go_sem];have hz:rows aw_.c (l.take 0)=[]:=rfl;refine am_ (fun i:Nat=>[(10,.int .i64 i),(5,.hs 34 0 0 i)]) (fun i=>[.vec 34 (rows aw_.c (l.take i))]) (fun i=>l.length-i) (fun i=>i≤l.length) 0 (Nat.zero_le _) ?_ ?_
 ·rw[hz];exact QV_ [] [0]
 intro i hi;(try simp only[ao_,ar_,List.set_cons_zero,List.set_cons_succ])
 by_cases h1:i<l.length
 ·have e1:decide ((i:Int)<((l.length:Nat):Int))=true:=decide_eq_true (by omega);have hw:=ae_ h1 (by omega);have hgd:(rows aw_.c l).getD i []=aT_ (l.getD i default).a:=aK_ (f:=aw_.c) default h1;have hsn:=yQ_ aw_.c l default h1;have hm:l.getD i default∈l:=by rw[List.getD_eq_getElem?_getD,List.getElem?_eq_getElem h1];exact List.getElem_mem _
  have c1:=HS_ _ (hb _ hm);have hli:(l.take i).length=i:=by simp;omega
  generalize l.getD i default=x at *;have hrl:(rows aw_.c (l.take i)).length=i:=by simp;omega
  have htk:List.take i (rows aw_.c (l.take i))=rows aw_.c (l.take i):=List.take_of_length_le (by omega);repeat(first|refine aa_ ?_|simp only[go_sem,e1])
  refine ac_ ?_;repeat(first|refine aa_ ?_|simp only[go_sem,hgd])
  refine ah_ c1 ?_;repeat(first|refine aa_ ?_|simp only[go_sem,hsn,hw,hli,htk])
  refine⟨i+1,h1,by omega,?_⟩;exact QV_ [] [2]
 ·obtain rfl:i=l.length:=by omega
  have e1:decide (((l.length:Nat):Int)<((l.length:Nat):Int))=false:=decide_eq_false (by omega);rw[List.take_length];repeat(first|refine aa_ ?_|simp only[go_sem,e1])
  refine PG_ ?_
  exact QO_ [] [0]
theorem Eu_(l:List aH_)(cl:Bool)(hl:l.length≤1000)(hb:∀t∈l,t.vals.length≤1000000):as_ Tryz.prog 108 [.sl 67 cl (rows aH_.c l),.fn (.func 93) []] [] (.hs 67 0 0 l.length) [.vec 67 (rows aH_.c l)]:=by
 refine as_.fact 11 gQ_ (by simp) ?_ (by simp);unfold dA_;refine bd ?_;try refine aa_ ?_
 refine cP_ 5 67 ?_;simp only[go_sem];have hz:rows aH_.c (l.take 0)=[]:=rfl;refine am_ (fun i:Nat=>[(10,.int .i64 i),(5,.hs 67 0 0 i)]) (fun i=>[.vec 67 (rows aH_.c (l.take i))]) (fun i=>l.length-i) (fun i=>i≤l.length) 0 (Nat.zero_le _) ?_ ?_
 ·rw[hz];exact QV_ [] [0]
 intro i hi;(try simp only[ao_,ar_,List.set_cons_zero,List.set_cons_succ])
 by_cases h1:i<l.length
 ·have e1:decide ((i:Int)<((l.length:Nat):Int))=true:=decide_eq_true (by omega);have hw:=ae_ h1 (by omega);have hgd:(rows aH_.c l).getD i []=aY_ (l.getD i default).a:=aK_ (f:=aH_.c) default h1;have hsn:=yQ_ aH_.c l default h1;have hm:l.getD i default∈l:=by rw[List.getD_eq_getElem?_getD,List.getElem?_eq_getElem h1];exact List.getElem_mem _
  have c1:=HB_ _ (hb _ hm);have hli:(l.take i).length=i:=by simp;omega
  generalize l.getD i default=x at *;have hrl:(rows aH_.c (l.take i)).length=i:=by simp;omega
  have htk:List.take i (rows aH_.c (l.take i))=rows aH_.c (l.take i):=List.take_of_length_le (by omega);repeat(first|refine aa_ ?_|simp only[go_sem,e1])
  refine ac_ ?_;repeat(first|refine aa_ ?_|simp only[go_sem,hgd])
  refine ah_ c1 ?_;repeat(first|refine aa_ ?_|simp only[go_sem,hsn,hw,hli,htk])
  refine⟨i+1,h1,by omega,?_⟩;exact QV_ [] [2]
 ·obtain rfl:i=l.length:=by omega
  have e1:decide (((l.length:Nat):Int)<((l.length:Nat):Int))=false:=decide_eq_false (by omega);rw[List.take_length];repeat(first|refine aa_ ?_|simp only[go_sem,e1])
  refine PG_ ?_
  exact QO_ [] [0]
theorem En_(l:List aw_)(cl:Bool)(hl:l.length≤1000)(hb:∀t∈l,t.bals.length≤1000000):as_ Tryz.prog 111 [.sl 34 cl (rows aw_.c l)] [] (.hs 34 0 0 l.length) [.vec 34 (rows aw_.c l)]:=by
 refine as_.fact 3 rY_ (by simp) ?_ (by simp);unfold kC_;refine bd ?_;have c1:=Ev_ l cl hl hb;try refine aa_ ?_
 refine bT_ [] (c1) evd (bn_.mk' (by simp) evd) ?_;refine evg ?_;try refine aa_ ?_
 exact QO_ [] [0]
theorem Eo_(l:List Nod)(cl:Bool)(hl:l.length≤1000000):as_ Tryz.prog 110 [.agg [.sl 240 cl (rows aG_ l)]] [] (.agg [.hs 240 0 0 l.length]) [.vec 240 (rows aG_ l)]:=by
 refine as_.fact 3 wp_ (by simp) ?_ (by simp);unfold nx_;refine bd ?_;have c1:=KB_ cl l hl;try refine aa_ ?_
 refine bT_ [] (c1) evd (bn_.mk' (by simp) evd) ?_;refine evg ?_;try refine aa_ ?_
 exact QO_ [] [2]
theorem BD_(l:List Vot)(q:List Int)(hl:l.length≤1000000)(hq:q.length≤1000000):as_ Tryz.prog 107 [.agg [.sl 34 false (rows aZ_ l),.sl 1 false (aq_ .i64 q)]] [] (.agg [.hs 34 0 0 l.length,.hs 1 1 0 q.length]) [.vec 34 (rows aZ_ l),.vec 1 (aq_ .i64 q)]:=by
 refine as_.fact 3 tM_ (by simp) ?_ (by simp);unfold lt_;refine bd ?_;have c1:=KC_ false l hl;have c2:=Bz_ false q hq;try refine aa_ ?_
 refine bo_ [] (c1) (by simp) evd (bF_.mk' (by simp) (by simp) evd) ?_;refine evg ?_;try refine aa_ ?_
 refine bo_ [] (c2) (by simp) evd (bF_.mk' (by simp) (by simp) evd) ?_;refine evg ?_;try refine aa_ ?_
 exact QO_ [] [2,3]
structure CpR(s:aj_):Prop where
 bn:s.nodes.length≤1000000
 bl:s.latest.length≤1000000
 be:s.eqv.length≤1000000
 bt:s.tabs.length≤1000
 bb:∀t∈s.tabs,t.bals.length≤1000000
 bo:s.orph.length≤1000000
 ba:s.early.length≤1000
 bv:∀a∈s.early,a.vals.length≤1000000
 bc:s.cfg.bals.length≤1000000
def NG_(s:aj_):Sto:=⟨⟨s.cfg.lim,s.cfg.spe,s.cfg.boost,s.cfg.ttd,s.cfg.gen,.hs 1 0 0 s.cfg.bals.length⟩,.hs 34 1 0 s.latest.length,.hs 1 2 0 s.eqv.length,s.j,s.f,.hs 67 3 0 s.early.length,.hs 238 4 0 s.orph.length,.hs 240 5 0 s.nodes.length,s.now,s.boost,.hs 34 6 0 s.tabs.length⟩
theorem qt_(s:aj_)(h:CpR s):as_ Tryz.prog 38 [.agg (ai_ s.a)] [] (.agg (ai_ (NG_ s)))
 [.vec 1 (aq_ .u64 s.cfg.bals),.vec 34 (rows aZ_ s.latest),.vec 1 (aq_ .i64 s.eqv),.vec 67 (rows aH_.c s.early),.vec 238 (rows ap_ s.orph),.vec 240 (rows aG_ s.nodes),.vec 34 (rows aw_.c s.tabs)]:=by
 refine as_.fact 3 tK_ (by simp) ?_ (by simp);unfold lr_;refine bd ?_;have c1:=BB_ false s.cfg.bals h.bc;have c2:=BD_ s.latest s.eqv h.bl h.be;have c3:=Eu_ s.early false h.ba h.bv;have c4:=Kz_ false s.orph h.bo;have c5:=Eo_ s.nodes false h.bn;have c6:=En_ s.tabs false h.bt h.bb;try refine aa_ ?_
 refine bT_ [] (c1) evd (bn_.mk' (by simp) evd) ?_;refine evg ?_;try refine aa_ ?_
 refine bT_ [] (c2) evd (bn_.mk' (by simp) evd) ?_;refine evg ?_;try refine aa_ ?_
 refine bT_ [] (c3) evd (bn_.mk' (by simp) evd) ?_;refine evg ?_;try refine aa_ ?_
 refine bT_ [] (c4) evd (bn_.mk' (by simp) evd) ?_;refine evg ?_;try refine aa_ ?_
 refine bT_ [] (c5) evd (bn_.mk' (by simp) evd) ?_;refine evg ?_;try refine aa_ ?_
 refine bT_ [] (c6) evd (bn_.mk' (by simp) evd) ?_;refine evg ?_;try refine aa_ ?_
 exact QO_ [] [2,3,4,5,6,7,8]
structure fe_ where
 cs:List AV
 pu:PuL cs
theorem fe_.ren(c:fe_)(ρ:Nat→Nat):bS_ ρ c.cs=c.cs:=PuL.ren ρ c.pu
theorem fe_.fz(c:fe_)(σ:St)(zs:List Nat):fzL σ zs c.cs=c.cs:=PuL.fz σ zs c.pu
attribute [go_sem] fe_.ren fe_.fz
theorem Cs_(l:List Nod)(cl:Bool)(fn:FuncId)(c:fe_)(p:Nat→Bool)(hl:l.length≤1000000)(hc:∀i,i<l.length→as_ Tryz.prog fn [.agg (aG_ (l.getD i dE_)),.ptr 0 0] [.var c.cs] (.bool (p i)) [.var c.cs]):as_ Tryz.prog 151 [.sl 240 cl (rows aG_ l),.fn (.func fn) [.ptr 0 0]] [.var c.cs] (.int .i64 (me_ (cD_ p l.length))) [.var c.cs]:=by
 refine as_.fact 9 eM_ (by simp) ?_ (by simp);unfold cR_;refine bd ?_;have hN:cD_ p l.length=eF_ p (l.length-0) 0:=rfl;try refine aa_ ?_
 refine am_ (fun i:Nat=>[(8,.int .i64 i)]) (fun _=>[.var c.cs]) (fun i=>l.length-i) (fun i=>i≤l.length∧cD_ p l.length=eF_ p (l.length-i) i) 0 ⟨Nat.zero_le _,hN⟩ ?_ ?_
 ·exact QV_ [] [0]
 clear hN;rintro i ⟨hi,hn⟩;rw[hn];(try simp only[ao_,ar_,List.set_cons_zero,List.set_cons_succ])
 by_cases h1:i<l.length
 ·have e1:decide ((i:Int)<((l.length:Nat):Int))=true:=decide_eq_true (by omega)
  have hw:=ae_ h1 (by omega);have hgd:(rows aG_ l).getD i []=aG_ (l.getD i dE_):=aK_ (f:=aG_) dE_ h1;have c1:=hc i h1;repeat(first|refine aa_ ?_|simp only[go_sem,e1])
  refine ac_ ?_;repeat(first|refine aa_ ?_|simp only[go_sem,hgd])
  refine bT_ [0] (c1) evd (bn_.mk' (by simp) evd) ?_;refine evg ?_;cases h:p i with
  | true =>
    rw[gm_ h1 h];try refine aa_ ?_
    refine PH_ ?_
    exact QO_ [] [0]
  | false =>
    rw[gl_ h1 h];try refine aa_ ?_
    refine ab_ ?_;repeat(first|refine aa_ ?_|simp only[go_sem,hw])
    refine⟨i+1,⟨h1,rfl⟩,by omega,?_⟩;exact QV_ [] [0]
 ·obtain rfl:i=l.length:=by omega
  have e1:decide (((l.length:Nat):Int)<((l.length:Nat):Int))=false:=decide_eq_false (by omega);rw[gk_];repeat(first|refine aa_ ?_|simp only[go_sem,e1])
  refine PG_ ?_
  exact QO_ [] [0]
theorem Lk_(l:List aw_)(cl:Bool)(fn:FuncId)(c:fe_)(p:Nat→Bool)(hl:l.length≤1000000)(hc:∀i,i<l.length→as_ Tryz.prog fn [.agg (aw_.c (l.getD i default)),.ptr 0 0] [.var c.cs] (.bool (p i)) [.var c.cs]):as_ Tryz.prog 183 [.sl 34 cl (rows aw_.c l),.fn (.func fn) [.ptr 0 0]] [.var c.cs] (.int .i64 (me_ (cD_ p l.length))) [.var c.cs]:=by
 refine as_.fact 9 cJ_ (by simp) ?_ (by simp);unfold bJ_;refine bd ?_;have hN:cD_ p l.length=eF_ p (l.length-0) 0:=rfl;try refine aa_ ?_
 refine am_ (fun i:Nat=>[(8,.int .i64 i)]) (fun _=>[.var c.cs]) (fun i=>l.length-i) (fun i=>i≤l.length∧cD_ p l.length=eF_ p (l.length-i) i) 0 ⟨Nat.zero_le _,hN⟩ ?_ ?_
 ·exact QV_ [] [0]
 clear hN;rintro i ⟨hi,hn⟩;rw[hn];(try simp only[ao_,ar_,List.set_cons_zero,List.set_cons_succ])
 by_cases h1:i<l.length
 ·have e1:decide ((i:Int)<((l.length:Nat):Int))=true:=decide_eq_true (by omega)
  have hw:=ae_ h1 (by omega);have hgd:(rows aw_.c l).getD i []=aw_.c (l.getD i default):=aK_ (f:=aw_.c) default h1;have c1:=hc i h1;repeat(first|refine aa_ ?_|simp only[go_sem,e1])
  refine ac_ ?_;repeat(first|refine aa_ ?_|simp only[go_sem,hgd])
  refine bT_ [0] (c1) evd (bn_.mk' (by simp) evd) ?_;refine evg ?_;cases h:p i with
  | true =>
    rw[gm_ h1 h];try refine aa_ ?_
    refine PH_ ?_
    exact QO_ [] [0]
  | false =>
    rw[gl_ h1 h];try refine aa_ ?_
    refine ab_ ?_;repeat(first|refine aa_ ?_|simp only[go_sem,hw])
    refine⟨i+1,⟨h1,rfl⟩,by omega,?_⟩;exact QV_ [] [0]
 ·obtain rfl:i=l.length:=by omega
  have e1:decide (((l.length:Nat):Int)<((l.length:Nat):Int))=false:=decide_eq_false (by omega);rw[gk_];repeat(first|refine aa_ ?_|simp only[go_sem,e1])
  refine PG_ ?_
  exact QO_ [] [0]
theorem Ll_(l:List Vot)(cl:Bool)(fn:FuncId)(p:Nat→Bool)(hl:l.length≤1000000)(hc:∀i,i<l.length→PC Tryz.prog fn [.agg (aZ_ (l.getD i eh_))] (.bool (p i))):PC Tryz.prog 191 [.sl 34 cl (rows aZ_ l),.fn (.func fn) []] (.int .i64 (me_ (cD_ p l.length))):=by
 refine PC.fact 9 eN_ (by simp) puA puA ?_;unfold cS_;refine bd ?_;have hN:cD_ p l.length=eF_ p (l.length-0) 0:=rfl;try refine aa_ ?_
 refine am_ (fun i:Nat=>[(8,.int .i64 i)]) (fun _=>[]) (fun i=>l.length-i) (fun i=>i≤l.length∧cD_ p l.length=eF_ p (l.length-i) i) 0 ⟨Nat.zero_le _,hN⟩ ?_ ?_
 ·exact QV_ [] []
 clear hN;rintro i ⟨hi,hn⟩;rw[hn];(try simp only[ao_,ar_,List.set_cons_zero,List.set_cons_succ])
 by_cases h1:i<l.length
 ·have e1:decide ((i:Int)<((l.length:Nat):Int))=true:=decide_eq_true (by omega)
  have hw:=ae_ h1 (by omega);have hgd:(rows aZ_ l).getD i []=aZ_ (l.getD i eh_):=aK_ (f:=aZ_) eh_ h1;have c1:=hc i h1;repeat(first|refine aa_ ?_|simp only[go_sem,e1])
  refine ac_ ?_;repeat(first|refine aa_ ?_|simp only[go_sem,hgd])
  refine ah_ c1 ?_;cases h:p i with
  | true =>
    rw[gm_ h1 h];try refine aa_ ?_
    refine PH_ ?_
    exact af_
  | false =>
    rw[gl_ h1 h];try refine aa_ ?_
    refine ab_ ?_;repeat(first|refine aa_ ?_|simp only[go_sem,hw])
    refine⟨i+1,⟨h1,rfl⟩,by omega,?_⟩;exact QV_ [] []
 ·obtain rfl:i=l.length:=by omega
  have e1:decide (((l.length:Nat):Int)<((l.length:Nat):Int))=false:=decide_eq_false (by omega);rw[gk_];repeat(first|refine aa_ ?_|simp only[go_sem,e1])
  refine PG_ ?_
  exact af_
theorem KF_(l:List Nod)(cl:Bool)(fn:FuncId)(c:fe_)(p:Nat→Bool)(hl:l.length≤1000000)(hc:∀i,i<l.length→as_ Tryz.prog fn [.agg (aG_ (l.getD i dE_)),.ptr 0 0] [.var c.cs] (.bool (p i)) [.var c.cs]):as_ Tryz.prog 137 [.sl 240 cl (rows aG_ l),.fn (.func fn) [.ptr 0 0]] [.var c.cs] (.bool (cD_ p l.length).isSome) [.var c.cs]:=by
 refine as_.fact 5 ef_ (by simp) ?_ (by simp);unfold cx_;refine bd ?_;have c1:=Cs_ l cl fn c p hl hc;try refine aa_ ?_
 refine bT_ [0] (c1) evd (bn_.mk' (by simp) evd) ?_;refine evg ?_;cases h:cD_ p l.length with
 | none =>
   try refine aa_ ?_
   exact QO_ [] [0]
 | some i =>
   have e2:decide ((i:Int) ≥ 0)=true:=decide_eq_true (by omega);repeat(first|refine aa_ ?_|simp only[go_sem,e2])
   exact QO_ [] [0]
theorem KG_(l:List aw_)(cl:Bool)(fn:FuncId)(c:fe_)(p:Nat→Bool)(hl:l.length≤1000000)(hc:∀i,i<l.length→as_ Tryz.prog fn [.agg (aw_.c (l.getD i default)),.ptr 0 0] [.var c.cs] (.bool (p i)) [.var c.cs]):as_ Tryz.prog 180 [.sl 34 cl (rows aw_.c l),.fn (.func fn) [.ptr 0 0]] [.var c.cs] (.bool (cD_ p l.length).isSome) [.var c.cs]:=by
 refine as_.fact 5 dL_ (by simp) ?_ (by simp);unfold cn_;refine bd ?_;have c1:=Lk_ l cl fn c p hl hc;try refine aa_ ?_
 refine bT_ [0] (c1) evd (bn_.mk' (by simp) evd) ?_;refine evg ?_;cases h:cD_ p l.length with
 | none =>
   try refine aa_ ?_
   exact QO_ [] [0]
 | some i =>
   have e2:decide ((i:Int) ≥ 0)=true:=decide_eq_true (by omega);repeat(first|refine aa_ ?_|simp only[go_sem,e2])
   exact QO_ [] [0]
theorem KH_(l:List Vot)(cl:Bool)(fn:FuncId)(p:Nat→Bool)(hl:l.length≤1000000)(hc:∀i,i<l.length→PC Tryz.prog fn [.agg (aZ_ (l.getD i eh_))] (.bool (p i))):PC Tryz.prog 135 [.sl 34 cl (rows aZ_ l),.fn (.func fn) []] (.bool (cD_ p l.length).isSome):=by
 refine PC.fact 5 eg_ (by simp) puA puA ?_;unfold cy_;refine bd ?_;have c1:=Ll_ l cl fn p hl hc;try refine aa_ ?_
 refine ah_ c1 ?_;cases h:cD_ p l.length with
 | none =>
   try refine aa_ ?_
   exact af_
 | some i =>
   have e2:decide ((i:Int) ≥ 0)=true:=decide_eq_true (by omega);repeat(first|refine aa_ ?_|simp only[go_sem,e2])
   exact af_
theorem EF_(x:Nod)(r:Rt):as_ Tryz.prog 152 [.agg (aG_ x),.ptr 0 0] [.var (rtc r)] (.bool (decide (x.blk.root=r))) [.var (rtc r)]:=by
 refine as_.fact 4 on_ (by simp) ?_ (by simp);unfold hU_;refine bd ?_;try refine aa_ ?_
 exact QO_ [] [0]
theorem fj_(t:List Nod)(r:Rt)(hb:t.length≤1000000):PC Tryz.prog 82 [.agg [.sl 240 false (rows aG_ t)],.agg (rtc r)] (.int .i64 (an_ t r)):=by
 refine PC.fact 5 qw_ (by simp) puA puA ?_;unfold jy_;refine bd ?_;have c1:=Cs_ t false 152 ⟨rtc r,cc_ r⟩ (fun i=>decide ((nod t i).blk.root=r)) hb (fun i _=>EF_ _ r);try refine aa_ ?_
 refine bT_ [1] (c1) evd (bn_.mk' (by simp) evd) ?_;refine evg ?_;try refine aa_ ?_
 exact af_
theorem qT_(t:List Nod)(i:Int):PC Tryz.prog 185 [.agg [.sl 240 false (rows aG_ t)],.int .i64 i] (.bool (isN t i)):=by
 refine PC.fact 5 tG_ (by simp) puA puA ?_;unfold ln_;refine bd ?_;unfold isN;by_cases h0:0≤i
 ·have e0:decide (i ≥ 0)=true:=decide_eq_true h0;have e1:decide (0≤i)=true:=decide_eq_true h0;repeat(first|refine aa_ ?_|simp only[go_sem,e0,e1])
  exact af_
 ·have e0:decide (i ≥ 0)=false:=decide_eq_false h0;have e1:decide (0≤i)=false:=decide_eq_false h0;repeat(first|refine aa_ ?_|simp only[go_sem,e0,e1])
  exact af_
theorem LI_(t:List Nod)(ht:cm_ t)(hb:t.length≤1000000)(i slot:Int):PC Tryz.prog 122 [.agg [.sl 240 false (rows aG_ t)],.int .i64 i,.int .u64 slot] (.int .i64 (atT t i slot)):=by
 refine PC.fact 7 wn_ (by simp) puA puA ?_;unfold nv_;refine bd ?_;generalize hR:atT t i slot=R;try refine aa_ ?_
 refine am_ (fun j:Int=>[(1,.int .i64 j)]) (fun _=>[.var [.sl 240 false (rows aG_ t)]]) (fun j=>(j+1).toNat) (fun j=>atT t j slot=R) i hR ?_ ?_
 ·exact QV_ [] [0]
 clear hR;intro j hR;have c1:=qT_ t j;try refine aa_ ?_
 refine ah_ c1 ?_;cases h:isN t j with
 | false =>
   rw[Kk_ slot h]at hR;subst hR;try refine aa_ ?_
   refine PG_ ?_
   exact af_
 | true =>
   obtain⟨h0,h1⟩:=kn_.1 h;obtain⟨k,rfl⟩:=Int.eq_ofNat_of_zero_le h0;have hk:k<t.length:=by omega
   have hgd:(rows aG_ t).getD k []=aG_ (nod t k):=aK_ (f:=aG_) dE_ hk;have hbd:decide ((k:Int)<((t.length:Nat):Int))=true:=decide_eq_true h1;rw[Pf_ ht hk]at hR
   have hup:(nod t k).up<k:=by
    rcases Nat.eq_zero_or_pos k with h|h
    ·subst h;have:=ht.root;omega
    ·have:=ht.ok k h hk;omega
   try refine aa_ ?_
   refine ac_ ?_;repeat(first|refine aa_ ?_|simp only[go_sem,hgd])
   by_cases h2:(nod t k).blk.slot≤slot
   ·have e2:decide ((nod t k).blk.slot≤slot)=true:=decide_eq_true h2;rw[if_pos h2]at hR;subst hR;repeat(first|refine aa_ ?_|simp only[go_sem,e2])
    refine PH_ ?_
    exact af_
   ·have e2:decide ((nod t k).blk.slot≤slot)=false:=decide_eq_false h2;rw[if_neg h2]at hR;repeat(first|refine aa_ ?_|simp only[go_sem,e2])
    refine ab_ ?_;repeat(first|refine aa_ ?_|simp only[go_sem,hgd])
    refine⟨(nod t k).up,hR,by omega,?_⟩;exact QV_ [] [0]
theorem II_(t:List Nod)(ht:cm_ t)(hb:t.length≤1000000)(a b:Int):PC Tryz.prog 182 [.agg [.sl 240 false (rows aG_ t)],.int .i64 a,.int .i64 b] (.bool (db_ t a b)):=by
 refine PC.fact 7 lb_ (by simp) puA puA ?_;unfold fY_;refine bd ?_;have c1:=qT_ t a;have c2:=qT_ t b;try refine aa_ ?_
 refine ah_ c1 ?_;cases ha:isN t a with
 | false =>
   rw[zb_ ht (.inl ha)];try refine aa_ ?_
   refine PH_ ?_
   exact af_
 | true =>
   try refine aa_ ?_
   refine ah_ c2 ?_;cases hb:isN t b with
   | false =>
     rw[zb_ ht (.inr hb)];try refine aa_ ?_
     refine PH_ ?_
     exact af_
   | true =>
     try refine aa_ ?_
     refine ab_ ?_;generalize hR:db_ t a b=R;try refine aa_ ?_
     refine am_ (fun j:Int=>[(2,.int .i64 j)]) (fun _=>[.var [.sl 240 false (rows aG_ t)]]) (fun j=>(j+1).toNat) (fun j=>isN t j=true∧db_ t a j=R) b ⟨hb,hR⟩ ?_ ?_
     ·exact QV_ [] [0]
     clear hR hb;rintro j ⟨hj,hR⟩;obtain⟨h0,h1⟩:=kn_.1 hj;obtain⟨k,rfl⟩:=Int.eq_ofNat_of_zero_le h0;have hk:k<t.length:=by omega
     have ha0:=(kn_.1 ha).1;by_cases h2:(k:Int) > a
     ·have e2:decide ((k:Int) > a)=true:=decide_eq_true h2;have hgd:(rows aG_ t).getD k []=aG_ (nod t k):=aK_ (f:=aG_) dE_ hk;have hbd:decide ((k:Int)<((t.length:Nat):Int))=true:=decide_eq_true h1;rw[Bq_ ht hk (by omega)]at hR;have hup:=ht.ok k (by omega) hk;repeat(first|refine aa_ ?_|simp only[go_sem,e2])
      refine ac_ ?_;repeat(first|refine aa_ ?_|simp only[go_sem,hgd])
      refine⟨(nod t k).up,⟨kn_.2 (by omega),hR⟩,by omega,?_⟩;exact QV_ [] [0]
     ·have e2:decide ((k:Int) > a)=false:=decide_eq_false h2;rw[Kg_ ht hk (by omega)]at hR;have e3:(a==(k:Int))=R:=by rw[←hR];by_cases h:a=(k:Int)<;>simp[h]
      repeat(first|refine aa_ ?_|simp only[go_sem,e2])
      refine ab_ ?_;repeat(first|refine aa_ ?_|simp only[go_sem,e3])
      exact af_
theorem Fm_(b:Blk)(st:Int):PC Tryz.prog 131 [.agg (ap_ b),.int .i64 st] (.agg [.sl 240 false (rows aG_ [⟨b,-1,st⟩])]):=by
 refine PC.fact 5 rW_ (by simp) puA puA ?_;unfold kA_;refine bd ?_;try refine aa_ ?_
 refine⟨_,by first|rfl|exact evd,.inr ⟨.agg [.sl 240 true (rows aG_ [⟨b,-1,st⟩])],evd,by simp[Pu,PuL,eB_],Wk.agg ⟨Wk.open_ _ _ _,fun h=>h,trivial⟩⟩⟩
theorem Fl_(i:Int):PC Tryz.prog 190 [.int .i64 i] (.bool (decide (0≤i)&&decide (i≤2))):=by
 refine PC.fact 3 lT_ (by simp) puA puA ?_;unfold gF_;refine bd ?_;by_cases h0:0≤i
 ·have e0:decide (i ≥ 0)=true:=decide_eq_true h0;have e1:decide (0≤i)=true:=decide_eq_true h0;repeat(first|refine aa_ ?_|simp only[go_sem,e0,e1])
  exact af_
 ·have e0:decide (i ≥ 0)=false:=decide_eq_false h0;have e1:decide (0≤i)=false:=decide_eq_false h0;repeat(first|refine aa_ ?_|simp only[go_sem,e0,e1])
  exact af_
end Go.Proofs.YtkgimpdgncakjaaGreat
