/-
 My texts Qa, Qb, Qc, joined.
-/
import Derived.Test.YtkgimpdgncakjaaGreatW3
import Derived.Test.YtkgimpdgncakjaaGreatW4
import Derived.Test.YtkgimpdgncakjaaGreatV5
import Derived.Test.YtkgimpdgncakjaaGreatW5
import Derived.Test.YtkgimpdgncakjaaGreatV4
namespace Go.Proofs.YtkgimpdgncakjaaGreat
open Go Go.FH Go.RowKit
set_option linter.unusedVariables false
set_option linter.unusedSimpArgs false
set_option maxRecDepth 8000
set_option maxHeartbeats 4000000
theorem JP_{n:Int}(h0:0≤n)(h1:n<18446744073709551616):du_ .u64 n 4294967295=n%4294967296:=by
 obtain⟨m,rfl⟩:=Int.eq_ofNat_of_zero_le h0;unfold du_
 have:(BitVec.ofInt IntKind.u64.bits (m:Int) &&& BitVec.ofInt IntKind.u64.bits 4294967295).toNat=m%4294967296:=by
  rw[BitVec.toNat_and,BitVec.ofInt_natCast,show BitVec.ofInt IntKind.u64.bits 4294967295=BitVec.ofNat IntKind.u64.bits (2 ^ 32-1)by decide,BitVec.toNat_ofNat,BitVec.toNat_ofNat];rw[show (2 ^ 32-1)%2 ^ IntKind.u64.bits=2 ^ 32-1 by decide,Nat.and_two_pow_sub_one_eq_mod];rw[Nat.mod_mod_of_dvd _ (by decide)]
 rw[this,aH_ (by omega) (by omega)];omega
theorem OK_(n:Int):dg_ .u64 n 32=n / 4294967296:=by
 unfold dg_;rw[show ((2:Int) ^ (min 32 IntKind.u64.bits))=4294967296 by decide];exact Int.fdiv_eq_ediv_of_nonneg _ (by omega)
theorem pL_(n:Int):PC Tryz.prog 112 [.int .u64 n] (.bool (if_ n)):=by
 refine PC.fact 3 Bt_ (by simp) puA puA ?_;unfold qo_;refine bd ?_;unfold if_;cases h:decide (1≤n)with
 | true =>
   repeat(first|refine aa_ ?_|simp only[go_sem,h])
   exact ae_
 | false =>
   repeat(first|refine aa_ ?_|simp only[go_sem,h])
   exact ae_
theorem nt_(s p:Int):PC Tryz.prog 121 [.int .u64 s,.int .u64 p] (.tup [.int .u64 (dO_ s p).1,.int .i64 (dO_ s p).2]):=by
 refine PC.fact 6 tr_ (by simp) puA puA ?_;unfold ly_;refine bd ?_;have c1:=pL_ p;unfold dO_;try refine aa_ ?_
 refine aj_ c1 ?_;cases h:if_ p with
 | true =>
   have h0:p≠0:=by simp[if_]at h;omega
   rw[if_pos rfl];try refine aa_ ?_
   refine ab_ ?_;repeat(first|refine aa_ ?_|simp only[go_sem,h0])
   exact ae_
 | false =>
   rw[if_neg (by simp)];try refine aa_ ?_
   refine Ri_ ?_
   exact ae_
theorem GC_{x0 x1 y0 y1:Int}(hx0:0≤x0)(hx0':x0<4294967296)(hx1:0≤x1)(hx1':x1<4294967296)(hy0:0≤y0)(hy0':y0<4294967296)(hy1:0≤y1)(hy1':y1<4294967296)(x y:Int)(hx:x=x1*4294967296+x0)(hy:y=y1*4294967296+y0):
 PC Tryz.prog 219 [.int .u64 x,.int .u64 y] (.tup [.int .u64 (x*y / 18446744073709551616),.int .u64 (IntKind.u64.wrap (x*y))]):=by
 refine PC.fact 14 qt_ (by simp) puA puA ?_;unfold jm_;refine bd ?_;obtain⟨b00,b10,b01,b11,hz⟩:=QS_ hx0 hx0' hx1 hx1' hy0 hy0' hy1 hy1';have mk:∀n:Int,0≤n→n<18446744073709551616→du_ .u64 n 4294967295=n%4294967296:=fun n h1 h2=>JP_ h1 h2
 have sh:∀n:Int,dg_ .u64 n 32=n / 4294967296:=fun n=>OK_ n
 have e1:du_ .u64 x 4294967295=x0:=by rw[mk x (by omega) (by omega)];omega
 have e2:dg_ .u64 x 32=x1:=by rw[sh];omega
 have e3:du_ .u64 y 4294967295=y0:=by rw[mk y (by omega) (by omega)];omega
 have e4:dg_ .u64 y 32=y1:=by rw[sh];omega
 have hxy:x*y=x1*y1*18446744073709551616+(x1*y0+x0*y1)*4294967296+x0*y0:=by rw[hx,hy];exact hz
 have e5:IntKind.u64.wrap (x0*y0)=x0*y0:=gQ_ b00.1 (by omega);have e6:IntKind.u64.wrap (x1*y0)=x1*y0:=gQ_ b10.1 (by omega);have e7:IntKind.u64.wrap (x0*y1)=x0*y1:=gQ_ b01.1 (by omega);have e8:IntKind.u64.wrap (x1*y1)=x1*y1:=gQ_ b11.1 (by omega);generalize hpz:x*y=z at *;clear hz;generalize hp0:x0*y0=p00 at *;generalize hp1:x1*y0=p10 at *;generalize hp2:x0*y1=p01 at *;generalize hp3:x1*y1=p11 at *;have e9:dg_ .u64 p00 32=p00 / 4294967296:=sh _;have e10:IntKind.u64.wrap (p10+p00 / 4294967296)=p10+p00 / 4294967296:=gQ_ (by omega) (by omega);have e11:du_ .u64 (p10+p00 / 4294967296) 4294967295=(p10+p00 / 4294967296)%4294967296:=mk _ (by omega) (by omega);have e12:dg_ .u64 (p10+p00 / 4294967296) 32=(p10+p00 / 4294967296) / 4294967296:=sh _;generalize hT:p10+p00 / 4294967296=T at *;have e13:IntKind.u64.wrap (T%4294967296+p01)=T%4294967296+p01:=gQ_ (by omega) (by omega);have e14:IntKind.u64.wrap (p11+T / 4294967296)=p11+T / 4294967296:=gQ_ (by omega) (by omega);have e15:dg_ .u64 (T%4294967296+p01) 32=(T%4294967296+p01) / 4294967296:=sh _;have e16:IntKind.u64.wrap (p11+T / 4294967296+(T%4294967296+p01) / 4294967296)=z / 18446744073709551616:=by rw[gQ_ (by omega) (by omega)];omega
 repeat(first|refine aa_ ?_|simp only[go_sem,hpz,hp0,hp1,hp2,hp3,hT,e1,e2,e3,e4,e5,e6,e7,e8,e9,e10,e11,e12,e13,e14,e15,e16])
 exact ae_
theorem Lm_{a b:Int}(ha:0≤a)(ha2:a<18446744073709551616)(hb:0≤b)(hb2:b<18446744073709551616):PC Tryz.prog 184 [.int .u64 a,.int .u64 b] (.tup [.int .u64 (tw_ a b).1,.int .i64 (tw_ a b).2]):=by
 rw[←OS_ ha ha2 hb hb2];refine PC.fact 8 Dz_ (by simp) puA puA ?_;unfold st_;refine bd ?_;have c1:=GC_ (x0:=a%4294967296) (x1:=a / 4294967296) (y0:=b%4294967296) (y1:=b / 4294967296) (by omega) (by omega) (by omega) (by omega) (by omega) (by omega) (by omega) (by omega) a b (by omega) (by omega);unfold QR_;try refine aa_ ?_
 refine aj_ c1 ?_;by_cases h:a*b / 18446744073709551616=0
 ·have e1:(a*b / 18446744073709551616==0)=true:=by simp[h]
  rw[if_pos h];repeat(first|refine aa_ ?_|simp only[go_sem,e1])
  refine Ri_ ?_
  exact ae_
 ·have e1:(a*b / 18446744073709551616==0)=false:=by simp[h]
  rw[if_neg h];repeat(first|refine aa_ ?_|simp only[go_sem,e1])
  refine Rh_ ?_
  exact ae_
theorem hD_{e p:Int}(he:0≤e)(he2:e<18446744073709551616):PC Tryz.prog 117 [.int .u64 e,.int .u64 p] (.tup [.int .u64 (bh_ e p).1,.int .i64 (bh_ e p).2]):=by
 refine PC.fact 6 tt_ (by simp) puA puA ?_;unfold lA_;refine bd ?_;have c1:=pL_ p;unfold bh_;try refine aa_ ?_
 refine aj_ c1 ?_;cases h:if_ p with
 | true =>
   have c2:=Lm_ he he2 (b:=p) (by simp[if_]at h;omega) (by simp[if_]at h;omega);rw[if_pos rfl];try refine aa_ ?_
   refine Rh_ ?_
   refine So_ c2 ?_
   exact ae_
 | false =>
   rw[if_neg (by simp)];try refine aa_ ?_
   refine Ri_ ?_
   exact ae_
theorem MF_(s p:Int):PC Tryz.prog 39 [.int .u64 s,.int .u64 p] (.bool (if_ p&&decide (Int.tmod s p=0))):=by
 refine PC.fact 5 ts_ (by simp) puA puA ?_;unfold lz_;refine bd ?_;have c1:=pL_ p;try refine aa_ ?_
 refine aj_ c1 ?_;cases h:if_ p with
 | true =>
   have h0:p≠0:=by simp[if_]at h;omega
   have e1:(Int.tmod s p==0)=decide (Int.tmod s p=0):=by by_cases h:Int.tmod s p=0<;>simp[h]
   repeat(first|refine aa_ ?_|simp only[go_sem,h0,e1])
   exact ae_
 | false =>
   try refine aa_ ?_
   exact ae_
theorem vx_(r:Rt):PC Tryz.prog 78 [.agg (rtc r)] (.bool (decide (r=rt0))):=by
 refine PC.fact 3 vf_ (by simp) puA puA ?_;unfold mt_;refine bd ?_;try refine aa_ ?_
 exact ae_
theorem IS_(a b:Rt):ar_ Tryz.prog 234 [.va 1 0 0 32,.va 1 1 0 32] [.var (rtc a),.var (rtc b)] (.int .i64 (lG_ a b)) [.var (rtc a),.var (rtc b)]:=by
 refine ar_.fact 8 sY_ (by simp) ?_ (by simp);unfold lg_;refine bd ?_;have e1:=Oz_ a b;repeat(first|refine aa_ ?_|simp only[go_sem,e1])
 exact SG_ [] [0,1]
theorem Ky_(a b:Rt):PC Tryz.prog 210 [.agg (rtc a),.agg (rtc b)] (.int .i64 (lG_ a b)):=by
 refine PC.fact 5 tq_ (by simp) puA puA ?_;unfold lx_;refine bd ?_;have c1:=IS_ a b;try refine aa_ ?_
 refine FQ_ [0,1] (c1) evd (br_.mk' (by simp) evd) ?_;refine evg ?_;try refine aa_ ?_
 exact ae_
theorem vw_(n:Int):PC Tryz.prog 233 [.int .u64 n] (.bool false):=by
 refine PC.fact 3 pm_ (by simp) puA puA ?_;unfold iC_;refine bd ?_;try refine aa_ ?_
 exact ae_
theorem Ll_(a b:Int):PC Tryz.prog 209 [.int .u64 a,.int .u64 b] (.int .i64 (Md_ a b)):=by
 refine PC.fact 7 mD_ (by simp) puA puA ?_;unfold hh_;refine bd ?_;have c1:=vw_ a;have c2:=vw_ b;unfold Md_;try refine aa_ ?_
 refine So_ c1 ?_
 refine So_ c2 ?_
 refine Rh_ ?_
 refine Rh_ ?_
 by_cases h1:a<b
 ·have e1:decide (a<b)=true:=decide_eq_true h1;rw[if_pos h1];repeat(first|refine aa_ ?_|simp only[go_sem,e1])
  refine Ri_ ?_
  exact ae_
 ·have e1:decide (a<b)=false:=decide_eq_false h1
  rw[if_neg h1];repeat(first|refine aa_ ?_|simp only[go_sem,e1])
  refine Rh_ ?_
  by_cases h2:b<a
  ·have e2:decide (b<a)=true:=decide_eq_true h2;rw[if_pos h2];repeat(first|refine aa_ ?_|simp only[go_sem,e2])
   refine Ri_ ?_
   exact ae_
  ·have e2:decide (b<a)=false:=decide_eq_false h2;rw[if_neg h2];repeat(first|refine aa_ ?_|simp only[go_sem,e2])
   refine Rh_ ?_
   exact ae_
theorem Pc_(l:List Int)(cl:Bool)(hl:l.length≤1000):PC Tryz.prog 208 [.sl 1 cl (aq_ .i64 l)] (.int .i64 (orI l)):=by
 refine PC.fact 9 Bd_ (by simp) puA puA ?_;unfold pZ_;refine bd ?_;obtain⟨R,hR⟩:∃R,R=orI (l.drop 0):=⟨_,rfl⟩
 have hR0:orI l=R:=by rw[hR,List.drop_zero]
 rw[hR0];try refine aa_ ?_
 refine an_ (fun i:Nat=>[(8,.int .i64 i)]) (fun _=>[]) (fun i=>l.length-i) (fun i=>i≤l.length∧R=orI (l.drop i)) 0 ⟨Nat.zero_le _,hR⟩ ?_ ?_
 ·exact SN_ [] []
 clear hR hR0;rintro i ⟨hi,hn⟩;refine cJ_ ?_;by_cases h1:i<l.length
 ·have e1:=inT h1
  have hw:=ag_ h1 (by omega);rw[List.drop_eq_getElem_cons h1]at hn;have hg:l.getD i 0=l[i]:=by simp[List.getD,h1]
  rw[←hg]at hn;have hgd:=gdn (k:=.i64) h1;generalize l.getD i 0=x at *;simp only[orI]at hn;repeat(first|refine aa_ ?_|simp only[go_sem,e1])
  refine ac_ ?_;repeat(first|refine aa_ ?_|simp only[go_sem,hgd])
  by_cases h2:x=0
  ·subst h2;rw[if_neg (by simp)]at hn;try refine aa_ ?_
   refine ab_ ?_;repeat(first|refine aa_ ?_|simp only[go_sem,hw])
   refine⟨i+1,⟨h1,hn⟩,by omega,?_⟩;exact SN_ [] []
  ·have e2:(x != 0)=true:=by simp[h2]
   rw[if_pos h2]at hn;subst hn;repeat(first|refine aa_ ?_|simp only[go_sem,e2])
   refine Ri_ ?_
   exact ae_
 ·obtain rfl:i=l.length:=by omega
  have e1:=inF (l.length);rw[List.drop_length]at hn;subst hn;repeat(first|refine aa_ ?_|simp only[go_sem,e1])
  refine Rh_ ?_
  exact ae_
theorem MU_(a b:Cp):PC Tryz.prog 168 [.agg (cpC a),.agg (cpC b)] (.int .i64 (gy_ a b)):=by
 refine PC.fact 5 nL_ (by simp) puA puA ?_;unfold hM_;refine bd ?_;have c1:=Ll_ a.ep b.ep;have c2:=Ky_ a.rt b.rt;have c3:=Pc_ [Md_ a.ep b.ep,lG_ a.rt b.rt] true (by simp);rw[Pb_]at c3;try refine aa_ ?_
 refine ao_ (c1) ?_;try refine aa_ ?_
 refine ao_ (c2) ?_;try refine aa_ ?_
 refine ao_ (c3) ?_;try refine aa_ ?_
 exact ae_
theorem Kk_(a b:au_):PC Tryz.prog 98 [.agg (aY_ a.a),.agg (aY_ b.a)] (.int .i64 (gy_ a.cp b.cp)):=by
 refine PC.fact 5 uR_ (by simp) puA puA ?_;unfold md_;refine bd ?_;have c1:=MU_ a.cp b.cp;try refine aa_ ?_
 refine So_ c1 ?_
 exact ae_
theorem IZ_(l:List Int)(cl:Bool)(hl:l.length≤1000000):PC Tryz.prog 167 [.sl 1 cl (aq_ .u64 l)] (.tup [.int .u64 (tM_ l 0).1,.bool (tM_ l 0).2]):=by
 refine PC.fact 10 uL_ (by simp) puA puA ?_;unfold lX_;refine bd ?_;obtain⟨R,hR⟩:∃R,R=tM_ (l.drop 0) 0:=⟨_,rfl⟩
 have hR0:tM_ l 0=R:=by rw[hR,List.drop_zero]
 rw[hR0];try refine aa_ ?_
 refine an_ (fun x:Nat×Int=>[(9,.int .i64 x.1),(4,.int .u64 x.2)]) (fun _=>[]) (fun x=>l.length-x.1) (fun x=>x.1≤l.length∧R=tM_ (l.drop x.1) x.2) (0,0) ⟨Nat.zero_le _,hR⟩ ?_ ?_
 ·exact SN_ [] []
 clear hR hR0;rintro⟨i,n⟩ ⟨hi,hn⟩;dsimp only at hi hn ⊢;refine cJ_ ?_;by_cases h1:i<l.length
 ·have e1:=inT h1
  have hw:=ag_ h1 (by omega);rw[List.drop_eq_getElem_cons h1]at hn;have hg:l.getD i 0=l[i]:=by simp[List.getD,h1]
  rw[←hg]at hn;have hgd:=gdn (k:=.u64) h1;generalize l.getD i 0=x at *;simp only[tM_]at hn;repeat(first|refine aa_ ?_|simp only[go_sem,e1])
  refine ac_ ?_;repeat(first|refine aa_ ?_|simp only[go_sem,hgd])
  by_cases h2:IntKind.u64.wrap (4611686018427387904-n)<x
  ·have e2:decide (IntKind.u64.wrap (4611686018427387904-n)<x)=true:=decide_eq_true h2;rw[if_pos h2]at hn;subst hn;repeat(first|refine aa_ ?_|simp only[go_sem,e2])
   refine Ri_ ?_
   exact ae_
  ·have e2:decide (IntKind.u64.wrap (4611686018427387904-n)<x)=false:=decide_eq_false h2;rw[if_neg h2]at hn;repeat(first|refine aa_ ?_|simp only[go_sem,e2])
   refine ab_ ?_;repeat(first|refine aa_ ?_|simp only[go_sem,hw])
   refine⟨(i+1,IntKind.u64.wrap (n+x)),⟨h1,hn⟩,by dsimp only;omega,?_⟩;exact SN_ [] []
 ·obtain rfl:i=l.length:=by omega
  have e1:=inF (l.length);rw[List.drop_length]at hn;subst hn;repeat(first|refine aa_ ?_|simp only[go_sem,e1])
  refine Rh_ ?_
  exact ae_
theorem us_(t:au_)(n:Int)(hl:t.bals.length≤1000000)(hu:∀x∈t.bals,0≤x∧x<18446744073709551616):PC Tryz.prog 96 [.agg (aY_ t.a),.int .i64 n] (.int .i64 (dJ_ t n)):=by
 refine PC.fact 7 jL_ (by simp) puA puA ?_;unfold fm_;refine bd ?_;have c1:=IZ_ t.bals false hl;have h0:=Lv_ hu;unfold dJ_;by_cases h1:(t.bals.length:Int)=n
 ·have e1:((t.bals.length:Int) != n)=false:=by simp[h1]
  rw[if_neg (by simp[h1])];repeat(first|refine aa_ ?_|simp only[go_sem,e1])
  refine Rh_ ?_
  refine aj_ c1 ?_;cases h2:(tM_ t.bals 0).2 with
  | true =>
    rw[if_neg (fun h=>by have:=h0.1 h;rw[h2]at this;cases this)];try refine aa_ ?_
    refine Rh_ ?_
    exact ae_
  | false =>
    rw[if_pos (h0.2 h2)];try refine aa_ ?_
    refine Ri_ ?_
    exact ae_
 ·have e1:((t.bals.length:Int) != n)=true:=by simp[h1]
  rw[if_pos h1];repeat(first|refine aa_ ?_|simp only[go_sem,e1])
  refine Ri_ ?_
  exact ae_
theorem Lh_{α:Type}(f:α→List AV)(l:List α):List.take l.length (rows f l)=rows f l:=List.take_of_length_le (by simp)
theorem Lg_(k:IntKind)(l:List Int):List.take l.length (aq_ k l)=aq_ k l:=List.take_of_length_le (by simp)
attribute [go_sem] Lh_ Lg_
theorem Df_(cl:Bool)(l:List Int)(hl:l.length≤1000000):ar_ Tryz.prog 106 [.sl 1 cl (aq_ .u64 l)] [] (.hs 1 0 0 l.length) [.vec 1 (aq_ .u64 l)]:=by
 refine ar_.fact 3 hH_ (by simp) ?_ (by simp);unfold ed_;refine bd ?_;try refine aa_ ?_
 refine fun b hb=>?_
 cases b with
 | true =>
   have h0:l=[]:=by simpa[rows,aq_]using hb rfl
   subst h0;try refine aa_ ?_
   refine ac_ ?_;refine fw_ (eX_ ?_);refine EP_ ?_;refine de_ 2 1 ?_;simp only[go_sem];try refine aa_ ?_
   exact SG_ [] [0]
 | false =>
   try refine aa_ ?_
   refine Rh_ ?_
   exact SG_ [] [0]
theorem Dd_(cl:Bool)(l:List Int)(hl:l.length≤1000000):ar_ Tryz.prog 165 [.sl 1 cl (aq_ .i64 l)] [] (.hs 1 0 0 l.length) [.vec 1 (aq_ .i64 l)]:=by
 refine ar_.fact 3 kR_ (by simp) ?_ (by simp);unfold gi_;refine bd ?_;try refine aa_ ?_
 refine fun b hb=>?_
 cases b with
 | true =>
   have h0:l=[]:=by simpa[rows,aq_]using hb rfl
   subst h0;try refine aa_ ?_
   refine ac_ ?_;refine fw_ (eX_ ?_);refine EP_ ?_;refine de_ 2 1 ?_;simp only[go_sem];try refine aa_ ?_
   exact SG_ [] [0]
 | false =>
   try refine aa_ ?_
   refine Rh_ ?_
   exact SG_ [] [0]
theorem Mb_(cl:Bool)(l:List Vot)(hl:l.length≤1000000):ar_ Tryz.prog 176 [.sl 34 cl (rows aV_ l)] [] (.hs 34 0 0 l.length) [.vec 34 (rows aV_ l)]:=by
 refine ar_.fact 3 go_ (by simp) ?_ (by simp);unfold dC_;refine bd ?_;try refine aa_ ?_
 refine fun b hb=>?_
 cases b with
 | true =>
   have h0:l=[]:=by simpa[rows,aq_]using hb rfl
   subst h0;try refine aa_ ?_
   refine ac_ ?_;refine fw_ (eX_ ?_);refine EP_ ?_;refine de_ 2 34 ?_;simp only[go_sem];try refine aa_ ?_
   exact SG_ [] [0]
 | false =>
   try refine aa_ ?_
   refine Rh_ ?_
   exact SG_ [] [0]
theorem Ma_(cl:Bool)(l:List Nod)(hl:l.length≤1000000):ar_ Tryz.prog 177 [.sl 240 cl (rows ax_ l)] [] (.hs 240 0 0 l.length) [.vec 240 (rows ax_ l)]:=by
 refine ar_.fact 3 gn_ (by simp) ?_ (by simp);unfold dB_;refine bd ?_;try refine aa_ ?_
 refine fun b hb=>?_
 cases b with
 | true =>
   have h0:l=[]:=by simpa[rows,aq_]using hb rfl
   subst h0;try refine aa_ ?_
   refine ac_ ?_;refine fw_ (eX_ ?_);refine EP_ ?_;refine de_ 2 240 ?_;simp only[go_sem];try refine aa_ ?_
   exact SG_ [] [0]
 | false =>
   try refine aa_ ?_
   refine Rh_ ?_
   exact SG_ [] [0]
theorem LZ_(cl:Bool)(l:List Blk)(hl:l.length≤1000000):ar_ Tryz.prog 109 [.sl 238 cl (rows ap_ l)] [] (.hs 238 0 0 l.length) [.vec 238 (rows ap_ l)]:=by
 refine ar_.fact 3 fA_ (by simp) ?_ (by simp);unfold dt_;refine bd ?_;try refine aa_ ?_
 refine fun b hb=>?_
 cases b with
 | true =>
   have h0:l=[]:=by simpa[rows,aq_]using hb rfl
   subst h0;try refine aa_ ?_
   refine ac_ ?_;refine fw_ (eX_ ?_);refine EP_ ?_;refine de_ 2 238 ?_;simp only[go_sem];try refine aa_ ?_
   exact SG_ [] [0]
 | false =>
   try refine aa_ ?_
   refine Rh_ ?_
   exact SG_ [] [0]
theorem Jw_(t:au_)(hl:t.bals.length≤1000000):PC Tryz.prog 100 [.agg (aY_ t.a)] (.agg (aY_ t.a)):=by
 refine PC.fact 3 uP_ (by simp) puA puA ?_;unfold mb_;refine bd ?_;have c1:=Df_ false t.bals hl;try refine aa_ ?_
 refine cj_ [] (c1) evd (br_.mk' (by simp) evd) ?_;refine evg ?_;try refine aa_ ?_
 exact ae_
theorem Je_(t:aD_)(hl:t.vals.length≤1000000):PC Tryz.prog 93 [.agg (bl_ t.a)] (.agg (bl_ t.a)):=by
 refine PC.fact 3 mE_ (by simp) puA puA ?_;unfold hi_;refine bd ?_;have c1:=Dd_ false t.vals hl;try refine aa_ ?_
 refine cj_ [] (c1) evd (br_.mk' (by simp) evd) ?_;refine evg ?_;try refine aa_ ?_
 exact ae_
theorem Al_{α:Type}(f:α→List AV)(l:List α)(d:α){i:Nat}(h:i<l.length):rows f (l.take i)++[f (l.getD i d)]=rows f (l.take (i+1)):=by
 rw[bB_,List.take_add_one,List.getD_eq_getElem?_getD,List.getElem?_eq_getElem h];rfl
theorem FV_(l:List au_)(cl:Bool)(hl:l.length≤1000)(hb:∀t∈l,t.bals.length≤1000000):ar_ Tryz.prog 178 [.sl 34 cl (rows au_.c l),.fn (.func 100) []] [] (.hs 34 0 0 l.length) [.vec 34 (rows au_.c l)]:=by
 refine ar_.fact 11 kq_ (by simp) ?_ (by simp);unfold fM_;refine bd ?_;try refine aa_ ?_
 refine de_ 5 34 ?_;simp only[go_sem];have hz:rows au_.c (l.take 0)=[]:=rfl;refine an_ (fun i:Nat=>[(10,.int .i64 i),(5,.hs 34 0 0 i)]) (fun i=>[.vec 34 (rows au_.c (l.take i))]) (fun i=>l.length-i) (fun i=>i≤l.length) 0 (Nat.zero_le _) ?_ ?_
 ·rw[hz];exact SN_ [] [0]
 intro i hi;refine cJ_ ?_;by_cases h1:i<l.length
 ·have e1:=inT h1;have hw:=ag_ h1 (by omega);have hgd:(rows au_.c l).getD i []=aY_ (l.getD i default).a:=aA_ (f:=au_.c) default h1;have hsn:=Al_ au_.c l default h1;have hm:l.getD i default∈l:=by rw[List.getD_eq_getElem?_getD,List.getElem?_eq_getElem h1];exact List.getElem_mem _
  have c1:=Jw_ _ (hb _ hm);have hli:(l.take i).length=i:=by simp;omega
  generalize l.getD i default=x at *;have hrl:(rows au_.c (l.take i)).length=i:=by simp;omega
  have htk:List.take i (rows au_.c (l.take i))=rows au_.c (l.take i):=List.take_of_length_le (by omega);repeat(first|refine aa_ ?_|simp only[go_sem,e1])
  refine ac_ ?_;repeat(first|refine aa_ ?_|simp only[go_sem,hgd])
  refine aj_ c1 ?_;repeat(first|refine aa_ ?_|simp only[go_sem,hsn,hw,hli,htk])
  refine⟨i+1,h1,by omega,?_⟩;exact SN_ [] [2]
 ·obtain rfl:i=l.length:=by omega
  have e1:=inF (l.length);rw[List.take_length];repeat(first|refine aa_ ?_|simp only[go_sem,e1])
  refine Rh_ ?_
  exact SG_ [] [0]
theorem FU_(l:List aD_)(cl:Bool)(hl:l.length≤1000)(hb:∀t∈l,t.vals.length≤1000000):ar_ Tryz.prog 108 [.sl 67 cl (rows aD_.c l),.fn (.func 93) []] [] (.hs 67 0 0 l.length) [.vec 67 (rows aD_.c l)]:=by
 refine ar_.fact 11 hs_ (by simp) ?_ (by simp);unfold dW_;refine bd ?_;try refine aa_ ?_
 refine de_ 5 67 ?_;simp only[go_sem];have hz:rows aD_.c (l.take 0)=[]:=rfl;refine an_ (fun i:Nat=>[(10,.int .i64 i),(5,.hs 67 0 0 i)]) (fun i=>[.vec 67 (rows aD_.c (l.take i))]) (fun i=>l.length-i) (fun i=>i≤l.length) 0 (Nat.zero_le _) ?_ ?_
 ·rw[hz];exact SN_ [] [0]
 intro i hi;refine cJ_ ?_;by_cases h1:i<l.length
 ·have e1:=inT h1;have hw:=ag_ h1 (by omega);have hgd:(rows aD_.c l).getD i []=bl_ (l.getD i default).a:=aA_ (f:=aD_.c) default h1;have hsn:=Al_ aD_.c l default h1;have hm:l.getD i default∈l:=by rw[List.getD_eq_getElem?_getD,List.getElem?_eq_getElem h1];exact List.getElem_mem _
  have c1:=Je_ _ (hb _ hm);have hli:(l.take i).length=i:=by simp;omega
  generalize l.getD i default=x at *;have hrl:(rows aD_.c (l.take i)).length=i:=by simp;omega
  have htk:List.take i (rows aD_.c (l.take i))=rows aD_.c (l.take i):=List.take_of_length_le (by omega);repeat(first|refine aa_ ?_|simp only[go_sem,e1])
  refine ac_ ?_;repeat(first|refine aa_ ?_|simp only[go_sem,hgd])
  refine aj_ c1 ?_;repeat(first|refine aa_ ?_|simp only[go_sem,hsn,hw,hli,htk])
  refine⟨i+1,h1,by omega,?_⟩;exact SN_ [] [2]
 ·obtain rfl:i=l.length:=by omega
  have e1:=inF (l.length);rw[List.take_length];repeat(first|refine aa_ ?_|simp only[go_sem,e1])
  refine Rh_ ?_
  exact SG_ [] [0]
theorem FN_(l:List au_)(cl:Bool)(hl:l.length≤1000)(hb:∀t∈l,t.bals.length≤1000000):ar_ Tryz.prog 111 [.sl 34 cl (rows au_.c l)] [] (.hs 34 0 0 l.length) [.vec 34 (rows au_.c l)]:=by
 refine ar_.fact 3 sZ_ (by simp) ?_ (by simp);unfold lh_;refine bd ?_;have c1:=FV_ l cl hl hb;try refine aa_ ?_
 refine cj_ [] (c1) evd (br_.mk' (by simp) evd) ?_;refine evg ?_;try refine aa_ ?_
 exact SG_ [] [0]
theorem FO_(l:List Nod)(cl:Bool)(hl:l.length≤1000000):ar_ Tryz.prog 110 [.agg [.sl 240 cl (rows ax_ l)]] [] (.agg [.hs 240 0 0 l.length]) [.vec 240 (rows ax_ l)]:=by
 refine ar_.fact 3 xs_ (by simp) ?_ (by simp);unfold op_;refine bd ?_;have c1:=Ma_ cl l hl;try refine aa_ ?_
 refine cj_ [] (c1) evd (br_.mk' (by simp) evd) ?_;refine evg ?_;try refine aa_ ?_
 exact SG_ [] [2]
theorem Di_(l:List Vot)(q:List Int)(hl:l.length≤1000000)(hq:q.length≤1000000):ar_ Tryz.prog 107 [.agg [.sl 34 false (rows aV_ l),.sl 1 false (aq_ .i64 q)]] [] (.agg [.hs 34 0 0 l.length,.hs 1 1 0 q.length]) [.vec 34 (rows aV_ l),.vec 1 (aq_ .i64 q)]:=by
 refine ar_.fact 3 uQ_ (by simp) ?_ (by simp);unfold mc_;refine bd ?_;have c1:=Mb_ false l hl;have c2:=Dd_ false q hq;try refine aa_ ?_
 refine bs_ [] (c1) (by simp) evd (bT_.mk' (by simp) (by simp) evd) ?_;refine evg ?_;try refine aa_ ?_
 refine bs_ [] (c2) (by simp) evd (bT_.mk' (by simp) (by simp) evd) ?_;refine evg ?_;try refine aa_ ?_
 exact SG_ [] [2,3]
structure CpR(s:ah_):Prop where
 bn:s.nodes.length≤1000000
 bl:s.latest.length≤1000000
 be:s.eqv.length≤1000000
 bt:s.tabs.length≤1000
 bb:∀t∈s.tabs,t.bals.length≤1000000
 bo:s.orph.length≤1000000
 ba:s.early.length≤1000
 bv:∀a∈s.early,a.vals.length≤1000000
 bc:s.cfg.bals.length≤1000000
def Pd_(s:ah_):Sto:=⟨⟨s.cfg.lim,s.cfg.spe,s.cfg.boost,s.cfg.ttd,s.cfg.gen,.hs 1 0 0 s.cfg.bals.length⟩,.hs 34 1 0 s.latest.length,.hs 1 2 0 s.eqv.length,s.j,s.f,.hs 67 3 0 s.early.length,.hs 238 4 0 s.orph.length,.hs 240 5 0 s.nodes.length,s.now,s.boost,.hs 34 6 0 s.tabs.length⟩
theorem ru_(s:ah_)(h:CpR s):ar_ Tryz.prog 38 [.agg (ak_ s.a)] [] (.agg (ak_ (Pd_ s)))
 [.vec 1 (aq_ .u64 s.cfg.bals),.vec 34 (rows aV_ s.latest),.vec 1 (aq_ .i64 s.eqv),.vec 67 (rows aD_.c s.early),.vec 238 (rows ap_ s.orph),.vec 240 (rows ax_ s.nodes),.vec 34 (rows au_.c s.tabs)]:=by
 refine ar_.fact 3 uO_ (by simp) ?_ (by simp);unfold ma_;refine bd ?_;have c1:=Df_ false s.cfg.bals h.bc;have c2:=Di_ s.latest s.eqv h.bl h.be;have c3:=FU_ s.early false h.ba h.bv;have c4:=LZ_ false s.orph h.bo;have c5:=FO_ s.nodes false h.bn;have c6:=FN_ s.tabs false h.bt h.bb;try refine aa_ ?_
 refine cj_ [] (c1) evd (br_.mk' (by simp) evd) ?_;refine evg ?_;try refine aa_ ?_
 refine cj_ [] (c2) evd (br_.mk' (by simp) evd) ?_;refine evg ?_;try refine aa_ ?_
 refine cj_ [] (c3) evd (br_.mk' (by simp) evd) ?_;refine evg ?_;try refine aa_ ?_
 refine cj_ [] (c4) evd (br_.mk' (by simp) evd) ?_;refine evg ?_;try refine aa_ ?_
 refine cj_ [] (c5) evd (br_.mk' (by simp) evd) ?_;refine evg ?_;try refine aa_ ?_
 refine cj_ [] (c6) evd (br_.mk' (by simp) evd) ?_;refine evg ?_;try refine aa_ ?_
 exact SG_ [] [2,3,4,5,6,7,8]
structure fx_ where
 cs:List AV
 pu:PuL cs
theorem fx_.ren(c:fx_)(ρ:Nat→Nat):ci_ ρ c.cs=c.cs:=PuL.ren ρ c.pu
theorem fx_.fz(c:fx_)(σ:St)(zs:List Nat):fzL σ zs c.cs=c.cs:=PuL.fz σ zs c.pu
attribute [go_sem] fx_.ren fx_.fz
theorem DW_(l:List Nod)(cl:Bool)(fn:FuncId)(c:fx_)(p:Nat→Bool)(hl:l.length≤1000000)(hc:∀i,i<l.length→ar_ Tryz.prog fn [.agg (ax_ (l.getD i gs_)),.ptr 0 0] [.var c.cs] (.bool (p i)) [.var c.cs]):ar_ Tryz.prog 151 [.sl 240 cl (rows ax_ l),.fn (.func fn) [.ptr 0 0]] [.var c.cs] (.int .i64 (mO_ (bD_ p l.length))) [.var c.cs]:=by
 refine ar_.fact 9 fb_ (by simp) ?_ (by simp);unfold di_;refine bd ?_;have hN:bD_ p l.length=dV_ p (l.length-0) 0:=rfl;try refine aa_ ?_
 refine an_ (fun i:Nat=>[(8,.int .i64 i)]) (fun _=>[.var c.cs]) (fun i=>l.length-i) (fun i=>i≤l.length∧bD_ p l.length=dV_ p (l.length-i) i) 0 ⟨Nat.zero_le _,hN⟩ ?_ ?_
 ·exact SN_ [] [0]
 clear hN;rintro i ⟨hi,hn⟩;rw[hn];refine cJ_ ?_;by_cases h1:i<l.length
 ·have e1:=inT h1
  have hw:=ag_ h1 (by omega);have hgd:(rows ax_ l).getD i []=ax_ (l.getD i gs_):=aA_ (f:=ax_) gs_ h1;have c1:=hc i h1;repeat(first|refine aa_ ?_|simp only[go_sem,e1])
  refine ac_ ?_;repeat(first|refine aa_ ?_|simp only[go_sem,hgd])
  refine cj_ [0] (c1) evd (br_.mk' (by simp) evd) ?_;refine evg ?_;cases h:p i with
  | true =>
    rw[fD_ h1 h];try refine aa_ ?_
    refine Ri_ ?_
    exact SG_ [] [0]
  | false =>
    rw[fC_ h1 h];try refine aa_ ?_
    refine ab_ ?_;repeat(first|refine aa_ ?_|simp only[go_sem,hw])
    refine⟨i+1,⟨h1,rfl⟩,by omega,?_⟩;exact SN_ [] [0]
 ·obtain rfl:i=l.length:=by omega
  have e1:=inF (l.length);rw[fB_];repeat(first|refine aa_ ?_|simp only[go_sem,e1])
  refine Rh_ ?_
  exact SG_ [] [0]
theorem MG_(l:List au_)(cl:Bool)(fn:FuncId)(c:fx_)(p:Nat→Bool)(hl:l.length≤1000000)(hc:∀i,i<l.length→ar_ Tryz.prog fn [.agg (au_.c (l.getD i default)),.ptr 0 0] [.var c.cs] (.bool (p i)) [.var c.cs]):ar_ Tryz.prog 183 [.sl 34 cl (rows au_.c l),.fn (.func fn) [.ptr 0 0]] [.var c.cs] (.int .i64 (mO_ (bD_ p l.length))) [.var c.cs]:=by
 refine ar_.fact 9 cZ_ (by simp) ?_ (by simp);unfold bV_;refine bd ?_;have hN:bD_ p l.length=dV_ p (l.length-0) 0:=rfl;try refine aa_ ?_
 refine an_ (fun i:Nat=>[(8,.int .i64 i)]) (fun _=>[.var c.cs]) (fun i=>l.length-i) (fun i=>i≤l.length∧bD_ p l.length=dV_ p (l.length-i) i) 0 ⟨Nat.zero_le _,hN⟩ ?_ ?_
 ·exact SN_ [] [0]
 clear hN;rintro i ⟨hi,hn⟩;rw[hn];refine cJ_ ?_;by_cases h1:i<l.length
 ·have e1:=inT h1
  have hw:=ag_ h1 (by omega);have hgd:(rows au_.c l).getD i []=au_.c (l.getD i default):=aA_ (f:=au_.c) default h1;have c1:=hc i h1;repeat(first|refine aa_ ?_|simp only[go_sem,e1])
  refine ac_ ?_;repeat(first|refine aa_ ?_|simp only[go_sem,hgd])
  refine cj_ [0] (c1) evd (br_.mk' (by simp) evd) ?_;refine evg ?_;cases h:p i with
  | true =>
    rw[fD_ h1 h];try refine aa_ ?_
    refine Ri_ ?_
    exact SG_ [] [0]
  | false =>
    rw[fC_ h1 h];try refine aa_ ?_
    refine ab_ ?_;repeat(first|refine aa_ ?_|simp only[go_sem,hw])
    refine⟨i+1,⟨h1,rfl⟩,by omega,?_⟩;exact SN_ [] [0]
 ·obtain rfl:i=l.length:=by omega
  have e1:=inF (l.length);rw[fB_];repeat(first|refine aa_ ?_|simp only[go_sem,e1])
  refine Rh_ ?_
  exact SG_ [] [0]
theorem MH_(l:List Vot)(cl:Bool)(fn:FuncId)(p:Nat→Bool)(hl:l.length≤1000000)(hc:∀i,i<l.length→PC Tryz.prog fn [.agg (aV_ (l.getD i do_))] (.bool (p i))):PC Tryz.prog 191 [.sl 34 cl (rows aV_ l),.fn (.func fn) []] (.int .i64 (mO_ (bD_ p l.length))):=by
 refine PC.fact 9 fc_ (by simp) puA puA ?_;unfold dj_;refine bd ?_;have hN:bD_ p l.length=dV_ p (l.length-0) 0:=rfl;try refine aa_ ?_
 refine an_ (fun i:Nat=>[(8,.int .i64 i)]) (fun _=>[]) (fun i=>l.length-i) (fun i=>i≤l.length∧bD_ p l.length=dV_ p (l.length-i) i) 0 ⟨Nat.zero_le _,hN⟩ ?_ ?_
 ·exact SN_ [] []
 clear hN;rintro i ⟨hi,hn⟩;rw[hn];refine cJ_ ?_;by_cases h1:i<l.length
 ·have e1:=inT h1
  have hw:=ag_ h1 (by omega);have hgd:(rows aV_ l).getD i []=aV_ (l.getD i do_):=aA_ (f:=aV_) do_ h1;have c1:=hc i h1;repeat(first|refine aa_ ?_|simp only[go_sem,e1])
  refine ac_ ?_;repeat(first|refine aa_ ?_|simp only[go_sem,hgd])
  refine aj_ c1 ?_;cases h:p i with
  | true =>
    rw[fD_ h1 h];try refine aa_ ?_
    refine Ri_ ?_
    exact ae_
  | false =>
    rw[fC_ h1 h];try refine aa_ ?_
    refine ab_ ?_;repeat(first|refine aa_ ?_|simp only[go_sem,hw])
    refine⟨i+1,⟨h1,rfl⟩,by omega,?_⟩;exact SN_ [] []
 ·obtain rfl:i=l.length:=by omega
  have e1:=inF (l.length);rw[fB_];repeat(first|refine aa_ ?_|simp only[go_sem,e1])
  refine Rh_ ?_
  exact ae_
theorem Me_(l:List Nod)(cl:Bool)(fn:FuncId)(c:fx_)(p:Nat→Bool)(hl:l.length≤1000000)(hc:∀i,i<l.length→ar_ Tryz.prog fn [.agg (ax_ (l.getD i gs_)),.ptr 0 0] [.var c.cs] (.bool (p i)) [.var c.cs]):ar_ Tryz.prog 137 [.sl 240 cl (rows ax_ l),.fn (.func fn) [.ptr 0 0]] [.var c.cs] (.bool (bD_ p l.length).isSome) [.var c.cs]:=by
 refine ar_.fact 5 ev_ (by simp) ?_ (by simp);unfold cN_;refine bd ?_;have c1:=DW_ l cl fn c p hl hc;try refine aa_ ?_
 refine cj_ [0] (c1) evd (br_.mk' (by simp) evd) ?_;refine evg ?_;cases h:bD_ p l.length with
 | none =>
   try refine aa_ ?_
   exact SG_ [] [0]
 | some i =>
   have e2:decide ((i:Int) ≥ 0)=true:=decide_eq_true (by omega);repeat(first|refine aa_ ?_|simp only[go_sem,e2])
   exact SG_ [] [0]
theorem Mf_(l:List au_)(cl:Bool)(fn:FuncId)(c:fx_)(p:Nat→Bool)(hl:l.length≤1000000)(hc:∀i,i<l.length→ar_ Tryz.prog fn [.agg (au_.c (l.getD i default)),.ptr 0 0] [.var c.cs] (.bool (p i)) [.var c.cs]):ar_ Tryz.prog 180 [.sl 34 cl (rows au_.c l),.fn (.func fn) [.ptr 0 0]] [.var c.cs] (.bool (bD_ p l.length).isSome) [.var c.cs]:=by
 refine ar_.fact 5 ee_ (by simp) ?_ (by simp);unfold cE_;refine bd ?_;have c1:=MG_ l cl fn c p hl hc;try refine aa_ ?_
 refine cj_ [0] (c1) evd (br_.mk' (by simp) evd) ?_;refine evg ?_;cases h:bD_ p l.length with
 | none =>
   try refine aa_ ?_
   exact SG_ [] [0]
 | some i =>
   have e2:decide ((i:Int) ≥ 0)=true:=decide_eq_true (by omega);repeat(first|refine aa_ ?_|simp only[go_sem,e2])
   exact SG_ [] [0]
theorem Mg_(l:List Vot)(cl:Bool)(fn:FuncId)(p:Nat→Bool)(hl:l.length≤1000000)(hc:∀i,i<l.length→PC Tryz.prog fn [.agg (aV_ (l.getD i do_))] (.bool (p i))):PC Tryz.prog 135 [.sl 34 cl (rows aV_ l),.fn (.func fn) []] (.bool (bD_ p l.length).isSome):=by
 refine PC.fact 5 ew_ (by simp) puA puA ?_;unfold cO_;refine bd ?_;have c1:=MH_ l cl fn p hl hc;try refine aa_ ?_
 refine aj_ c1 ?_;cases h:bD_ p l.length with
 | none =>
   try refine aa_ ?_
   exact ae_
 | some i =>
   have e2:decide ((i:Int) ≥ 0)=true:=decide_eq_true (by omega);repeat(first|refine aa_ ?_|simp only[go_sem,e2])
   exact ae_
theorem Gf_(x:Nod)(r:Rt):ar_ Tryz.prog 152 [.agg (ax_ x),.ptr 0 0] [.var (rtc r)] (.bool (decide (x.blk.root=r))) [.var (rtc r)]:=by
 refine ar_.fact 4 pk_ (by simp) ?_ (by simp);unfold iA_;refine bd ?_;try refine aa_ ?_
 exact SG_ [] [0]
theorem fG_(t:List Nod)(r:Rt)(hb:t.length≤1000000):PC Tryz.prog 82 [.agg [.sl 240 false (rows ax_ t)],.agg (rtc r)] (.int .i64 (af_ t r)):=by
 refine PC.fact 5 rx_ (by simp) puA puA ?_;unfold kb_;refine bd ?_;have c1:=DW_ t false 152 ⟨rtc r,cw_ r⟩ (fun i=>decide ((nod t i).blk.root=r)) hb (fun i _=>Gf_ _ r);try refine aa_ ?_
 refine cj_ [1] (c1) evd (br_.mk' (by simp) evd) ?_;refine evg ?_;try refine aa_ ?_
 exact ae_
theorem rV_(t:List Nod)(i:Int):PC Tryz.prog 185 [.agg [.sl 240 false (rows ax_ t)],.int .i64 i] (.bool (isN t i)):=by
 refine PC.fact 5 uK_ (by simp) puA puA ?_;unfold lW_;refine bd ?_;unfold isN;by_cases h0:0≤i
 ·have e0:decide (i ≥ 0)=true:=decide_eq_true h0;have e1:decide (0≤i)=true:=decide_eq_true h0;repeat(first|refine aa_ ?_|simp only[go_sem,e0,e1])
  exact ae_
 ·have e0:decide (i ≥ 0)=false:=decide_eq_false h0;have e1:decide (0≤i)=false:=decide_eq_false h0;repeat(first|refine aa_ ?_|simp only[go_sem,e0,e1])
  exact ae_
theorem Ne_(t:List Nod)(ht:bG_ t)(hb:t.length≤1000000)(i slot:Int):PC Tryz.prog 122 [.agg [.sl 240 false (rows ax_ t)],.int .i64 i,.int .u64 slot] (.int .i64 (atT t i slot)):=by
 refine PC.fact 7 xq_ (by simp) puA puA ?_;unfold on_;refine bd ?_;generalize hR:atT t i slot=R;try refine aa_ ?_
 refine an_ (fun j:Int=>[(1,.int .i64 j)]) (fun _=>[.var [.sl 240 false (rows ax_ t)]]) (fun j=>(j+1).toNat) (fun j=>atT t j slot=R) i hR ?_ ?_
 ·exact SN_ [] [0]
 clear hR;intro j hR;have c1:=rV_ t j;try refine aa_ ?_
 refine aj_ c1 ?_;cases h:isN t j with
 | false =>
   rw[LJ_ slot h]at hR;subst hR;try refine aa_ ?_
   refine Rh_ ?_
   exact ae_
 | true =>
   obtain⟨h0,h1⟩:=kS_.1 h;obtain⟨k,rfl⟩:=Int.eq_ofNat_of_zero_le h0;have hk:k<t.length:=by omega
   have hgd:(rows ax_ t).getD k []=ax_ (nod t k):=aA_ (f:=ax_) gs_ hk;have hbd:decide ((k:Int)<((t.length:Nat):Int))=true:=decide_eq_true h1;rw[QE_ ht hk]at hR
   have hup:(nod t k).up<k:=by
    rcases Nat.eq_zero_or_pos k with h|h
    ·subst h;have:=ht.root;omega
    ·have:=ht.ok k h hk;omega
   try refine aa_ ?_
   refine ac_ ?_;repeat(first|refine aa_ ?_|simp only[go_sem,hgd])
   by_cases h2:(nod t k).blk.slot≤slot
   ·have e2:decide ((nod t k).blk.slot≤slot)=true:=decide_eq_true h2;rw[if_pos h2]at hR;subst hR;repeat(first|refine aa_ ?_|simp only[go_sem,e2])
    refine Ri_ ?_
    exact ae_
   ·have e2:decide ((nod t k).blk.slot≤slot)=false:=decide_eq_false h2;rw[if_neg h2]at hR;repeat(first|refine aa_ ?_|simp only[go_sem,e2])
    refine ab_ ?_;repeat(first|refine aa_ ?_|simp only[go_sem,hgd])
    refine⟨(nod t k).up,hR,by omega,?_⟩;exact SN_ [] [0]
theorem Kl_(t:List Nod)(ht:bG_ t)(hb:t.length≤1000000)(a b:Int):PC Tryz.prog 182 [.agg [.sl 240 false (rows ax_ t)],.int .i64 a,.int .i64 b] (.bool (bN_ t a b)):=by
 refine PC.fact 7 lI_ (by simp) puA puA ?_;unfold gz_;refine bd ?_;have c1:=rV_ t a;have c2:=rV_ t b;try refine aa_ ?_
 refine aj_ c1 ?_;cases ha:isN t a with
 | false =>
   rw[Ax_ ht (.inl ha)];try refine aa_ ?_
   refine Ri_ ?_
   exact ae_
 | true =>
   try refine aa_ ?_
   refine aj_ c2 ?_;cases hb:isN t b with
   | false =>
     rw[Ax_ ht (.inr hb)];try refine aa_ ?_
     refine Ri_ ?_
     exact ae_
   | true =>
     try refine aa_ ?_
     refine ab_ ?_;generalize hR:bN_ t a b=R;try refine aa_ ?_
     refine an_ (fun j:Int=>[(2,.int .i64 j)]) (fun _=>[.var [.sl 240 false (rows ax_ t)]]) (fun j=>(j+1).toNat) (fun j=>isN t j=true∧bN_ t a j=R) b ⟨hb,hR⟩ ?_ ?_
     ·exact SN_ [] [0]
     clear hR hb;rintro j ⟨hj,hR⟩;obtain⟨h0,h1⟩:=kS_.1 hj;obtain⟨k,rfl⟩:=Int.eq_ofNat_of_zero_le h0;have hk:k<t.length:=by omega
     have ha0:=(kS_.1 ha).1;by_cases h2:(k:Int) > a
     ·have e2:decide ((k:Int) > a)=true:=decide_eq_true h2;have hgd:(rows ax_ t).getD k []=ax_ (nod t k):=aA_ (f:=ax_) gs_ hk;have hbd:decide ((k:Int)<((t.length:Nat):Int))=true:=decide_eq_true h1;rw[CS_ ht hk (by omega)]at hR;have hup:=ht.ok k (by omega) hk;repeat(first|refine aa_ ?_|simp only[go_sem,e2])
      refine ac_ ?_;repeat(first|refine aa_ ?_|simp only[go_sem,hgd])
      refine⟨(nod t k).up,⟨kS_.2 (by omega),hR⟩,by omega,?_⟩;exact SN_ [] [0]
     ·have e2:decide ((k:Int) > a)=false:=decide_eq_false h2;rw[LF_ ht hk (by omega)]at hR;have e3:(a==(k:Int))=R:=by rw[←hR];by_cases h:a=(k:Int)<;>simp[h]
      repeat(first|refine aa_ ?_|simp only[go_sem,e2])
      refine ab_ ?_;repeat(first|refine aa_ ?_|simp only[go_sem,e3])
      exact ae_
theorem GI_(b:Blk)(st:Int):PC Tryz.prog 131 [.agg (ap_ b),.int .i64 st] (.agg [.sl 240 false (rows ax_ [⟨b,-1,st⟩])]):=by
 refine PC.fact 5 sX_ (by simp) puA puA ?_;unfold lf_;refine bd ?_;try refine aa_ ?_
 refine⟨_,by first|rfl|exact evd,.inr ⟨.agg [.sl 240 true (rows ax_ [⟨b,-1,st⟩])],evd,by simp[Pu,PuL,eM_],Wk.agg ⟨Wk.open_ _ _ _,fun h=>h,trivial⟩⟩⟩
theorem GH_(i:Int):PC Tryz.prog 190 [.int .i64 i] (.bool (decide (0≤i)&&decide (i≤2))):=by
 refine PC.fact 3 mC_ (by simp) puA puA ?_;unfold hg_;refine bd ?_;by_cases h0:0≤i
 ·have e0:decide (i ≥ 0)=true:=decide_eq_true h0;have e1:decide (0≤i)=true:=decide_eq_true h0;repeat(first|refine aa_ ?_|simp only[go_sem,e0,e1])
  exact ae_
 ·have e0:decide (i ≥ 0)=false:=decide_eq_false h0;have e1:decide (0≤i)=false:=decide_eq_false h0;repeat(first|refine aa_ ?_|simp only[go_sem,e0,e1])
  exact ae_
end Go.Proofs.YtkgimpdgncakjaaGreat
