/-
 My texts Qa, Qb, Qc, joined.
-/
import Derived.Test.YtkgimpdgncakjaaGreatW3
import Derived.Test.YtkgimpdgncakjaaGreatW4
import Derived.Test.YtkgimpdgncakjaaGreatV5
import Derived.Test.YtkgimpdgncakjaaGreatW5
import Derived.Test.YtkgimpdgncakjaaGreatV4
namespace Go.Proofs.YtkgimpdgncakjaaGreat
open Go Go.FH Go.RowKit
set_option linter.unusedVariables false
set_option linter.unusedSimpArgs false
set_option maxRecDepth 8000
set_option maxHeartbeats 4000000
theorem JS_{n:Int}(h0:0≤n)(h1:n<18446744073709551616):fw_ .u64 n 4294967295=n%4294967296:=by
 obtain⟨m,rfl⟩:=Int.eq_ofNat_of_zero_le h0;unfold fw_
 have:(BitVec.ofInt IntKind.u64.bits (m:Int) &&& BitVec.ofInt IntKind.u64.bits 4294967295).toNat=m%4294967296:=by
  rw[BitVec.toNat_and,BitVec.ofInt_natCast,show BitVec.ofInt IntKind.u64.bits 4294967295=BitVec.ofNat IntKind.u64.bits (2 ^ 32-1)by decide,BitVec.toNat_ofNat,BitVec.toNat_ofNat];rw[show (2 ^ 32-1)%2 ^ IntKind.u64.bits=2 ^ 32-1 by decide,Nat.and_two_pow_sub_one_eq_mod];rw[Nat.mod_mod_of_dvd _ (by decide)]
 rw[this,aF_ (by omega) (by omega)];omega
theorem OX_(n:Int):dF_ .u64 n 32=n / 4294967296:=by
 unfold dF_;rw[show ((2:Int) ^ (min 32 IntKind.u64.bits))=4294967296 by decide];exact Int.fdiv_eq_ediv_of_nonneg _ (by omega)
theorem pG_(n:Int):PC Tryz.prog 112 [.int .u64 n] (.bool (iX_ n)):=by
 refine PC.fact 3 BB_ (by simp) puA puA ?_;unfold qm_;refine bd ?_;unfold iX_;cases h:decide (1≤n)with
 | true =>
   repeat(first|refine aa_ ?_|simp only[go_sem,h])
   exact ag_
 | false =>
   repeat(first|refine aa_ ?_|simp only[go_sem,h])
   exact ag_
theorem gz_(s p:Int):PC Tryz.prog 121 [.int .u64 s,.int .u64 p] (.tup [.int .u64 (dE_ s p).1,.int .i64 (dE_ s p).2]):=by
 refine PC.fact 6 tw_ (by simp) puA puA ?_;unfold ls_;refine bd ?_;have c1:=pG_ p;unfold dE_;try refine aa_ ?_
 refine ae_ c1 ?_;cases h:iX_ p with
 | true =>
   have h0:p≠0:=by simp[iX_]at h;omega
   rw[if_pos rfl];try refine aa_ ?_
   refine ab_ ?_;repeat(first|refine aa_ ?_|simp only[go_sem,h0])
   exact ag_
 | false =>
   rw[if_neg (by simp)];try refine aa_ ?_
   refine Rn_ ?_
   exact ag_
theorem GK_{x0 x1 y0 y1:Int}(hx0:0≤x0)(hx0':x0<4294967296)(hx1:0≤x1)(hx1':x1<4294967296)(hy0:0≤y0)(hy0':y0<4294967296)(hy1:0≤y1)(hy1':y1<4294967296)(x y:Int)(hx:x=x1*4294967296+x0)(hy:y=y1*4294967296+y0):
 PC Tryz.prog 219 [.int .u64 x,.int .u64 y] (.tup [.int .u64 (x*y / 18446744073709551616),.int .u64 (IntKind.u64.wrap (x*y))]):=by
 refine PC.fact 14 qu_ (by simp) puA puA ?_;unfold je_;refine bd ?_;obtain⟨b00,b10,b01,b11,hz⟩:=QZ_ hx0 hx0' hx1 hx1' hy0 hy0' hy1 hy1';have mk:∀n:Int,0≤n→n<18446744073709551616→fw_ .u64 n 4294967295=n%4294967296:=fun n h1 h2=>JS_ h1 h2
 have sh:∀n:Int,dF_ .u64 n 32=n / 4294967296:=fun n=>OX_ n
 have e1:fw_ .u64 x 4294967295=x0:=by rw[mk x (by omega) (by omega)];omega
 have e2:dF_ .u64 x 32=x1:=by rw[sh];omega
 have e3:fw_ .u64 y 4294967295=y0:=by rw[mk y (by omega) (by omega)];omega
 have e4:dF_ .u64 y 32=y1:=by rw[sh];omega
 have hxy:x*y=x1*y1*18446744073709551616+(x1*y0+x0*y1)*4294967296+x0*y0:=by rw[hx,hy];exact hz
 have e5:IntKind.u64.wrap (x0*y0)=x0*y0:=gG_ b00.1 (by omega);have e6:IntKind.u64.wrap (x1*y0)=x1*y0:=gG_ b10.1 (by omega);have e7:IntKind.u64.wrap (x0*y1)=x0*y1:=gG_ b01.1 (by omega);have e8:IntKind.u64.wrap (x1*y1)=x1*y1:=gG_ b11.1 (by omega);generalize hpz:x*y=z at *;clear hz;generalize hp0:x0*y0=p00 at *;generalize hp1:x1*y0=p10 at *;generalize hp2:x0*y1=p01 at *;generalize hp3:x1*y1=p11 at *;have e9:dF_ .u64 p00 32=p00 / 4294967296:=sh _;have e10:IntKind.u64.wrap (p10+p00 / 4294967296)=p10+p00 / 4294967296:=gG_ (by omega) (by omega);have e11:fw_ .u64 (p10+p00 / 4294967296) 4294967295=(p10+p00 / 4294967296)%4294967296:=mk _ (by omega) (by omega);have e12:dF_ .u64 (p10+p00 / 4294967296) 32=(p10+p00 / 4294967296) / 4294967296:=sh _;generalize hT:p10+p00 / 4294967296=T at *;have e13:IntKind.u64.wrap (T%4294967296+p01)=T%4294967296+p01:=gG_ (by omega) (by omega);have e14:IntKind.u64.wrap (p11+T / 4294967296)=p11+T / 4294967296:=gG_ (by omega) (by omega);have e15:dF_ .u64 (T%4294967296+p01) 32=(T%4294967296+p01) / 4294967296:=sh _;have e16:IntKind.u64.wrap (p11+T / 4294967296+(T%4294967296+p01) / 4294967296)=z / 18446744073709551616:=by rw[gG_ (by omega) (by omega)];omega
 repeat(first|refine aa_ ?_|simp only[go_sem,hpz,hp0,hp1,hp2,hp3,hT,e1,e2,e3,e4,e5,e6,e7,e8,e9,e10,e11,e12,e13,e14,e15,e16])
 exact ag_
theorem Lt_{a b:Int}(ha:0≤a)(ha2:a<18446744073709551616)(hb:0≤b)(hb2:b<18446744073709551616):PC Tryz.prog 184 [.int .u64 a,.int .u64 b] (.tup [.int .u64 (vT_ a b).1,.int .i64 (vT_ a b).2]):=by
 rw[←Pe_ ha ha2 hb hb2];refine PC.fact 8 DA_ (by simp) puA puA ?_;unfold sx_;refine bd ?_;have c1:=GK_ (x0:=a%4294967296) (x1:=a / 4294967296) (y0:=b%4294967296) (y1:=b / 4294967296) (by omega) (by omega) (by omega) (by omega) (by omega) (by omega) (by omega) (by omega) a b (by omega) (by omega);unfold QY_;try refine aa_ ?_
 refine ae_ c1 ?_;by_cases h:a*b / 18446744073709551616=0
 ·have e1:(a*b / 18446744073709551616==0)=true:=by simp[h]
  rw[if_pos h];repeat(first|refine aa_ ?_|simp only[go_sem,e1])
  refine Rn_ ?_
  exact ag_
 ·have e1:(a*b / 18446744073709551616==0)=false:=by simp[h]
  rw[if_neg h];repeat(first|refine aa_ ?_|simp only[go_sem,e1])
  refine Rm_ ?_
  exact ag_
theorem eE_{e p:Int}(he:0≤e)(he2:e<18446744073709551616):PC Tryz.prog 117 [.int .u64 e,.int .u64 p] (.tup [.int .u64 (bx_ e p).1,.int .i64 (bx_ e p).2]):=by
 refine PC.fact 6 ty_ (by simp) puA puA ?_;unfold lu_;refine bd ?_;have c1:=pG_ p;unfold bx_;try refine aa_ ?_
 refine ae_ c1 ?_;cases h:iX_ p with
 | true =>
   have c2:=Lt_ he he2 (b:=p) (by simp[iX_]at h;omega) (by simp[iX_]at h;omega);rw[if_pos rfl];try refine aa_ ?_
   refine Rm_ ?_
   refine Sv_ c2 ?_
   exact ag_
 | false =>
   rw[if_neg (by simp)];try refine aa_ ?_
   refine Rn_ ?_
   exact ag_
theorem MQ_(s p:Int):PC Tryz.prog 39 [.int .u64 s,.int .u64 p] (.bool (iX_ p&&decide (Int.tmod s p=0))):=by
 refine PC.fact 5 tx_ (by simp) puA puA ?_;unfold lt_;refine bd ?_;have c1:=pG_ p;try refine aa_ ?_
 refine ae_ c1 ?_;cases h:iX_ p with
 | true =>
   have h0:p≠0:=by simp[iX_]at h;omega
   have e1:(Int.tmod s p==0)=decide (Int.tmod s p=0):=by by_cases h:Int.tmod s p=0<;>simp[h]
   repeat(first|refine aa_ ?_|simp only[go_sem,h0,e1])
   exact ag_
 | false =>
   try refine aa_ ?_
   exact ag_
theorem fm_(r:Rt):PC Tryz.prog 78 [.agg (rtc r)] (.bool (decide (r=rt0))):=by
 refine PC.fact 3 vi_ (by simp) puA puA ?_;unfold mp_;refine bd ?_;try refine aa_ ?_
 exact ag_
theorem IX_(a b:Rt):ap_ Tryz.prog 234 [.va 1 0 0 32,.va 1 1 0 32] [.var (rtc a),.var (rtc b)] (.int .i64 (sY_ a b)) [.var (rtc a),.var (rtc b)]:=by
 refine ap_.fact 8 tc_ (by simp) ?_ (by simp);unfold kZ_;refine bd ?_;have e1:=OO_ a b;repeat(first|refine aa_ ?_|simp only[go_sem,e1])
 exact SM_ [] [0,1]
theorem KD_(a b:Rt):PC Tryz.prog 210 [.agg (rtc a),.agg (rtc b)] (.int .i64 (sY_ a b)):=by
 refine PC.fact 5 tu_ (by simp) puA puA ?_;unfold lq_;refine bd ?_;have c1:=IX_ a b;try refine aa_ ?_
 refine FY_ [0,1] (c1) evd (aV_.mk' (by simp) evd) ?_;refine evg ?_;try refine aa_ ?_
 exact ag_
theorem vC_(n:Int):PC Tryz.prog 233 [.int .u64 n] (.bool false):=by
 refine PC.fact 3 pi_ (by simp) puA puA ?_;unfold ir_;refine bd ?_;try refine aa_ ?_
 exact ag_
theorem Ls_(a b:Int):PC Tryz.prog 209 [.int .u64 a,.int .u64 b] (.int .i64 (Mj_ a b)):=by
 refine PC.fact 7 mB_ (by simp) puA puA ?_;unfold gV_;refine bd ?_;have c1:=vC_ a;have c2:=vC_ b;unfold Mj_;try refine aa_ ?_
 refine Sv_ c1 ?_
 refine Sv_ c2 ?_
 refine Rm_ ?_
 refine Rm_ ?_
 by_cases h1:a<b
 ·have e1:decide (a<b)=true:=decide_eq_true h1;rw[if_pos h1];repeat(first|refine aa_ ?_|simp only[go_sem,e1])
  refine Rn_ ?_
  exact ag_
 ·have e1:decide (a<b)=false:=decide_eq_false h1
  rw[if_neg h1];repeat(first|refine aa_ ?_|simp only[go_sem,e1])
  refine Rm_ ?_
  by_cases h2:b<a
  ·have e2:decide (b<a)=true:=decide_eq_true h2;rw[if_pos h2];repeat(first|refine aa_ ?_|simp only[go_sem,e2])
   refine Rn_ ?_
   exact ag_
  ·have e2:decide (b<a)=false:=decide_eq_false h2;rw[if_neg h2];repeat(first|refine aa_ ?_|simp only[go_sem,e2])
   refine Rm_ ?_
   exact ag_
theorem Pp_(l:List Int)(cl:Bool)(hl:l.length≤1000):PC Tryz.prog 208 [.sl 1 cl (aq_ .i64 l)] (.int .i64 (orI l)):=by
 refine PC.fact 9 Bi_ (by simp) puA puA ?_;unfold pU_;refine bd ?_;obtain⟨R,hR⟩:∃R,R=orI (l.drop 0):=⟨_,rfl⟩
 have hR0:orI l=R:=by rw[hR,List.drop_zero]
 rw[hR0];try refine aa_ ?_
 refine ao_ (fun i:Nat=>[(8,.int .i64 i)]) (fun _=>[]) (fun i=>l.length-i) (fun i=>i≤l.length∧R=orI (l.drop i)) 0 ⟨Nat.zero_le _,hR⟩ ?_ ?_
 ·exact ST_ [] []
 clear hR hR0;rintro i ⟨hi,hn⟩;refine cC_ ?_;by_cases h1:i<l.length
 ·have e1:=inT h1
  have hw:=af_ h1 (by omega);rw[List.drop_eq_getElem_cons h1]at hn;have hg:l.getD i 0=l[i]:=by simp[List.getD,h1]
  rw[←hg]at hn;have hgd:=gdn (k:=.i64) h1;generalize l.getD i 0=x at *;simp only[orI]at hn;repeat(first|refine aa_ ?_|simp only[go_sem,e1])
  refine ac_ ?_;repeat(first|refine aa_ ?_|simp only[go_sem,hgd])
  by_cases h2:x=0
  ·subst h2;rw[if_neg (by simp)]at hn;try refine aa_ ?_
   refine ab_ ?_;repeat(first|refine aa_ ?_|simp only[go_sem,hw])
   refine⟨i+1,⟨h1,hn⟩,by omega,?_⟩;exact ST_ [] []
  ·have e2:(x != 0)=true:=by simp[h2]
   rw[if_pos h2]at hn;subst hn;repeat(first|refine aa_ ?_|simp only[go_sem,e2])
   refine Rn_ ?_
   exact ag_
 ·obtain rfl:i=l.length:=by omega
  have e1:=inF (l.length);rw[List.drop_length]at hn;subst hn;repeat(first|refine aa_ ?_|simp only[go_sem,e1])
  refine Rm_ ?_
  exact ag_
theorem Ng_(a b:Cp):PC Tryz.prog 168 [.agg (cpC a),.agg (cpC b)] (.int .i64 (xy_ a b)):=by
 refine PC.fact 5 nK_ (by simp) puA puA ?_;unfold hE_;refine bd ?_;have c1:=Ls_ a.ep b.ep;have c2:=KD_ a.rt b.rt;have c3:=Pp_ [Mj_ a.ep b.ep,sY_ a.rt b.rt] true (by simp);rw[Po_]at c3;try refine aa_ ?_
 refine as_ (c1) ?_;try refine aa_ ?_
 refine as_ (c2) ?_;try refine aa_ ?_
 refine as_ (c3) ?_;try refine aa_ ?_
 exact ag_
theorem Ko_(a b:au_):PC Tryz.prog 98 [.agg (bb_ a.a),.agg (bb_ b.a)] (.int .i64 (xy_ a.cp b.cp)):=by
 refine PC.fact 5 uV_ (by simp) puA puA ?_;unfold ma_;refine bd ?_;have c1:=Ng_ a.cp b.cp;try refine aa_ ?_
 refine Sv_ c1 ?_
 exact ag_
theorem Je_(l:List Int)(cl:Bool)(hl:l.length≤1000000):PC Tryz.prog 167 [.sl 1 cl (aq_ .u64 l)] (.tup [.int .u64 (tM_ l 0).1,.bool (tM_ l 0).2]):=by
 refine PC.fact 10 uO_ (by simp) puA puA ?_;unfold lT_;refine bd ?_;obtain⟨R,hR⟩:∃R,R=tM_ (l.drop 0) 0:=⟨_,rfl⟩
 have hR0:tM_ l 0=R:=by rw[hR,List.drop_zero]
 rw[hR0];try refine aa_ ?_
 refine ao_ (fun x:Nat×Int=>[(9,.int .i64 x.1),(4,.int .u64 x.2)]) (fun _=>[]) (fun x=>l.length-x.1) (fun x=>x.1≤l.length∧R=tM_ (l.drop x.1) x.2) (0,0) ⟨Nat.zero_le _,hR⟩ ?_ ?_
 ·exact ST_ [] []
 clear hR hR0;rintro⟨i,n⟩ ⟨hi,hn⟩;dsimp only at hi hn ⊢;refine cC_ ?_;by_cases h1:i<l.length
 ·have e1:=inT h1
  have hw:=af_ h1 (by omega);rw[List.drop_eq_getElem_cons h1]at hn;have hg:l.getD i 0=l[i]:=by simp[List.getD,h1]
  rw[←hg]at hn;have hgd:=gdn (k:=.u64) h1;generalize l.getD i 0=x at *;simp only[tM_]at hn;repeat(first|refine aa_ ?_|simp only[go_sem,e1])
  refine ac_ ?_;repeat(first|refine aa_ ?_|simp only[go_sem,hgd])
  by_cases h2:IntKind.u64.wrap (4611686018427387904-n)<x
  ·have e2:decide (IntKind.u64.wrap (4611686018427387904-n)<x)=true:=decide_eq_true h2;rw[if_pos h2]at hn;subst hn;repeat(first|refine aa_ ?_|simp only[go_sem,e2])
   refine Rn_ ?_
   exact ag_
  ·have e2:decide (IntKind.u64.wrap (4611686018427387904-n)<x)=false:=decide_eq_false h2;rw[if_neg h2]at hn;repeat(first|refine aa_ ?_|simp only[go_sem,e2])
   refine ab_ ?_;repeat(first|refine aa_ ?_|simp only[go_sem,hw])
   refine⟨(i+1,IntKind.u64.wrap (n+x)),⟨h1,hn⟩,by dsimp only;omega,?_⟩;exact ST_ [] []
 ·obtain rfl:i=l.length:=by omega
  have e1:=inF (l.length);rw[List.drop_length]at hn;subst hn;repeat(first|refine aa_ ?_|simp only[go_sem,e1])
  refine Rm_ ?_
  exact ag_
theorem us_(t:au_)(n:Int)(hl:t.bals.length≤1000000)(hu:∀x∈t.bals,0≤x∧x<18446744073709551616):PC Tryz.prog 96 [.agg (bb_ t.a),.int .i64 n] (.int .i64 (eF_ t n)):=by
 refine PC.fact 7 jG_ (by simp) puA puA ?_;unfold fi_;refine bd ?_;have c1:=Je_ t.bals false hl;have h0:=LC_ hu;unfold eF_;by_cases h1:(t.bals.length:Int)=n
 ·have e1:((t.bals.length:Int) != n)=false:=by simp[h1]
  rw[if_neg (by simp[h1])];repeat(first|refine aa_ ?_|simp only[go_sem,e1])
  refine Rm_ ?_
  refine ae_ c1 ?_;cases h2:(tM_ t.bals 0).2 with
  | true =>
    rw[if_neg (fun h=>by have:=h0.1 h;rw[h2]at this;cases this)];try refine aa_ ?_
    refine Rm_ ?_
    exact ag_
  | false =>
    rw[if_pos (h0.2 h2)];try refine aa_ ?_
    refine Rn_ ?_
    exact ag_
 ·have e1:((t.bals.length:Int) != n)=true:=by simp[h1]
  rw[if_pos h1];repeat(first|refine aa_ ?_|simp only[go_sem,e1])
  refine Rn_ ?_
  exact ag_
theorem Lo_{α:Type}(f:α→List AV)(l:List α):List.take l.length (rows f l)=rows f l:=List.take_of_length_le (by simp)
theorem Ln_(k:IntKind)(l:List Int):List.take l.length (aq_ k l)=aq_ k l:=List.take_of_length_le (by simp)
attribute [go_sem] Lo_ Ln_
theorem Dk_(cl:Bool)(l:List Int)(hl:l.length≤1000000):ap_ Tryz.prog 106 [.sl 1 cl (aq_ .u64 l)] [] (.hs 1 0 0 l.length) [.vec 1 (aq_ .u64 l)]:=by
 refine ap_.fact 3 hv_ (by simp) ?_ (by simp);unfold dY_;refine bd ?_;try refine aa_ ?_
 refine fun b hb=>?_
 cases b with
 | true =>
   have h0:l=[]:=by simpa[rows,aq_]using hb rfl
   subst h0;try refine aa_ ?_
   refine ac_ ?_;refine eU_ (eT_ ?_);refine EY_ ?_;refine cY_ 2 1 ?_;simp only[go_sem];try refine aa_ ?_
   exact SM_ [] [0]
 | false =>
   try refine aa_ ?_
   refine Rm_ ?_
   exact SM_ [] [0]
theorem Di_(cl:Bool)(l:List Int)(hl:l.length≤1000000):ap_ Tryz.prog 165 [.sl 1 cl (aq_ .i64 l)] [] (.hs 1 0 0 l.length) [.vec 1 (aq_ .i64 l)]:=by
 refine ap_.fact 3 kL_ (by simp) ?_ (by simp);unfold fX_;refine bd ?_;try refine aa_ ?_
 refine fun b hb=>?_
 cases b with
 | true =>
   have h0:l=[]:=by simpa[rows,aq_]using hb rfl
   subst h0;try refine aa_ ?_
   refine ac_ ?_;refine eU_ (eT_ ?_);refine EY_ ?_;refine cY_ 2 1 ?_;simp only[go_sem];try refine aa_ ?_
   exact SM_ [] [0]
 | false =>
   try refine aa_ ?_
   refine Rm_ ?_
   exact SM_ [] [0]
theorem Mh_(cl:Bool)(l:List Vot)(hl:l.length≤1000000):ap_ Tryz.prog 176 [.sl 34 cl (rows bg_ l)] [] (.hs 34 0 0 l.length) [.vec 34 (rows bg_ l)]:=by
 refine ap_.fact 3 gc_ (by simp) ?_ (by simp);unfold dz_;refine bd ?_;try refine aa_ ?_
 refine fun b hb=>?_
 cases b with
 | true =>
   have h0:l=[]:=by simpa[rows,aq_]using hb rfl
   subst h0;try refine aa_ ?_
   refine ac_ ?_;refine eU_ (eT_ ?_);refine EY_ ?_;refine cY_ 2 34 ?_;simp only[go_sem];try refine aa_ ?_
   exact SM_ [] [0]
 | false =>
   try refine aa_ ?_
   refine Rm_ ?_
   exact SM_ [] [0]
theorem Mg_(cl:Bool)(l:List Nod)(hl:l.length≤1000000):ap_ Tryz.prog 177 [.sl 240 cl (rows aE_ l)] [] (.hs 240 0 0 l.length) [.vec 240 (rows aE_ l)]:=by
 refine ap_.fact 3 gb_ (by simp) ?_ (by simp);unfold dy_;refine bd ?_;try refine aa_ ?_
 refine fun b hb=>?_
 cases b with
 | true =>
   have h0:l=[]:=by simpa[rows,aq_]using hb rfl
   subst h0;try refine aa_ ?_
   refine ac_ ?_;refine eU_ (eT_ ?_);refine EY_ ?_;refine cY_ 2 240 ?_;simp only[go_sem];try refine aa_ ?_
   exact SM_ [] [0]
 | false =>
   try refine aa_ ?_
   refine Rm_ ?_
   exact SM_ [] [0]
theorem Mf_(cl:Bool)(l:List Blk)(hl:l.length≤1000000):ap_ Tryz.prog 109 [.sl 238 cl (rows al_ l)] [] (.hs 238 0 0 l.length) [.vec 238 (rows al_ l)]:=by
 refine ap_.fact 3 ft_ (by simp) ?_ (by simp);unfold do_;refine bd ?_;try refine aa_ ?_
 refine fun b hb=>?_
 cases b with
 | true =>
   have h0:l=[]:=by simpa[rows,aq_]using hb rfl
   subst h0;try refine aa_ ?_
   refine ac_ ?_;refine eU_ (eT_ ?_);refine EY_ ?_;refine cY_ 2 238 ?_;simp only[go_sem];try refine aa_ ?_
   exact SM_ [] [0]
 | false =>
   try refine aa_ ?_
   refine Rm_ ?_
   exact SM_ [] [0]
theorem Jz_(t:au_)(hl:t.bals.length≤1000000):PC Tryz.prog 100 [.agg (bb_ t.a)] (.agg (bb_ t.a)):=by
 refine PC.fact 3 uS_ (by simp) puA puA ?_;unfold lX_;refine bd ?_;have c1:=Dk_ false t.bals hl;try refine aa_ ?_
 refine bj_ [] (c1) evd (aV_.mk' (by simp) evd) ?_;refine evg ?_;try refine aa_ ?_
 exact ag_
theorem Jj_(t:aG_)(hl:t.vals.length≤1000000):PC Tryz.prog 93 [.agg (bi_ t.a)] (.agg (bi_ t.a)):=by
 refine PC.fact 3 mC_ (by simp) puA puA ?_;unfold gW_;refine bd ?_;have c1:=Di_ false t.vals hl;try refine aa_ ?_
 refine bj_ [] (c1) evd (aV_.mk' (by simp) evd) ?_;refine evg ?_;try refine aa_ ?_
 exact ag_
theorem At_{α:Type}(f:α→List AV)(l:List α)(d:α){i:Nat}(h:i<l.length):rows f (l.take i)++[f (l.getD i d)]=rows f (l.take (i+1)):=by
 rw[bF_,List.take_add_one,List.getD_eq_getElem?_getD,List.getElem?_eq_getElem h];rfl
theorem Gd_(l:List au_)(cl:Bool)(hl:l.length≤1000)(hb:∀t∈l,t.bals.length≤1000000):ap_ Tryz.prog 178 [.sl 34 cl (rows au_.c l),.fn (.func 100) []] [] (.hs 34 0 0 l.length) [.vec 34 (rows au_.c l)]:=by
 refine ap_.fact 11 kl_ (by simp) ?_ (by simp);unfold fC_;refine bd ?_;try refine aa_ ?_
 refine cY_ 5 34 ?_;simp only[go_sem];have hz:rows au_.c (l.take 0)=[]:=rfl;refine ao_ (fun i:Nat=>[(10,.int .i64 i),(5,.hs 34 0 0 i)]) (fun i=>[.vec 34 (rows au_.c (l.take i))]) (fun i=>l.length-i) (fun i=>i≤l.length) 0 (Nat.zero_le _) ?_ ?_
 ·rw[hz];exact ST_ [] [0]
 intro i hi;refine cC_ ?_;by_cases h1:i<l.length
 ·have e1:=inT h1;have hw:=af_ h1 (by omega);have hgd:(rows au_.c l).getD i []=bb_ (l.getD i default).a:=aB_ (f:=au_.c) default h1;have hsn:=At_ au_.c l default h1;have hm:l.getD i default∈l:=by rw[List.getD_eq_getElem?_getD,List.getElem?_eq_getElem h1];exact List.getElem_mem _
  have c1:=Jz_ _ (hb _ hm);have hli:(l.take i).length=i:=by simp;omega
  generalize l.getD i default=x at *;have hrl:(rows au_.c (l.take i)).length=i:=by simp;omega
  have htk:List.take i (rows au_.c (l.take i))=rows au_.c (l.take i):=List.take_of_length_le (by omega);repeat(first|refine aa_ ?_|simp only[go_sem,e1])
  refine ac_ ?_;repeat(first|refine aa_ ?_|simp only[go_sem,hgd])
  refine ae_ c1 ?_;repeat(first|refine aa_ ?_|simp only[go_sem,hsn,hw,hli,htk])
  refine⟨i+1,h1,by omega,?_⟩;exact ST_ [] [2]
 ·obtain rfl:i=l.length:=by omega
  have e1:=inF (l.length);rw[List.take_length];repeat(first|refine aa_ ?_|simp only[go_sem,e1])
  refine Rm_ ?_
  exact SM_ [] [0]
theorem Gc_(l:List aG_)(cl:Bool)(hl:l.length≤1000)(hb:∀t∈l,t.vals.length≤1000000):ap_ Tryz.prog 108 [.sl 67 cl (rows aG_.c l),.fn (.func 93) []] [] (.hs 67 0 0 l.length) [.vec 67 (rows aG_.c l)]:=by
 refine ap_.fact 11 hh_ (by simp) ?_ (by simp);unfold dR_;refine bd ?_;try refine aa_ ?_
 refine cY_ 5 67 ?_;simp only[go_sem];have hz:rows aG_.c (l.take 0)=[]:=rfl;refine ao_ (fun i:Nat=>[(10,.int .i64 i),(5,.hs 67 0 0 i)]) (fun i=>[.vec 67 (rows aG_.c (l.take i))]) (fun i=>l.length-i) (fun i=>i≤l.length) 0 (Nat.zero_le _) ?_ ?_
 ·rw[hz];exact ST_ [] [0]
 intro i hi;refine cC_ ?_;by_cases h1:i<l.length
 ·have e1:=inT h1;have hw:=af_ h1 (by omega);have hgd:(rows aG_.c l).getD i []=bi_ (l.getD i default).a:=aB_ (f:=aG_.c) default h1;have hsn:=At_ aG_.c l default h1;have hm:l.getD i default∈l:=by rw[List.getD_eq_getElem?_getD,List.getElem?_eq_getElem h1];exact List.getElem_mem _
  have c1:=Jj_ _ (hb _ hm);have hli:(l.take i).length=i:=by simp;omega
  generalize l.getD i default=x at *;have hrl:(rows aG_.c (l.take i)).length=i:=by simp;omega
  have htk:List.take i (rows aG_.c (l.take i))=rows aG_.c (l.take i):=List.take_of_length_le (by omega);repeat(first|refine aa_ ?_|simp only[go_sem,e1])
  refine ac_ ?_;repeat(first|refine aa_ ?_|simp only[go_sem,hgd])
  refine ae_ c1 ?_;repeat(first|refine aa_ ?_|simp only[go_sem,hsn,hw,hli,htk])
  refine⟨i+1,h1,by omega,?_⟩;exact ST_ [] [2]
 ·obtain rfl:i=l.length:=by omega
  have e1:=inF (l.length);rw[List.take_length];repeat(first|refine aa_ ?_|simp only[go_sem,e1])
  refine Rm_ ?_
  exact SM_ [] [0]
theorem FV_(l:List au_)(cl:Bool)(hl:l.length≤1000)(hb:∀t∈l,t.bals.length≤1000000):ap_ Tryz.prog 111 [.sl 34 cl (rows au_.c l)] [] (.hs 34 0 0 l.length) [.vec 34 (rows au_.c l)]:=by
 refine ap_.fact 3 td_ (by simp) ?_ (by simp);unfold la_;refine bd ?_;have c1:=Gd_ l cl hl hb;try refine aa_ ?_
 refine bj_ [] (c1) evd (aV_.mk' (by simp) evd) ?_;refine evg ?_;try refine aa_ ?_
 exact SM_ [] [0]
theorem FW_(l:List Nod)(cl:Bool)(hl:l.length≤1000000):ap_ Tryz.prog 110 [.agg [.sl 240 cl (rows aE_ l)]] [] (.agg [.hs 240 0 0 l.length]) [.vec 240 (rows aE_ l)]:=by
 refine ap_.fact 3 xG_ (by simp) ?_ (by simp);unfold oo_;refine bd ?_;have c1:=Mg_ cl l hl;try refine aa_ ?_
 refine bj_ [] (c1) evd (aV_.mk' (by simp) evd) ?_;refine evg ?_;try refine aa_ ?_
 exact SM_ [] [2]
theorem Dl_(l:List Vot)(q:List Int)(hl:l.length≤1000000)(hq:q.length≤1000000):ap_ Tryz.prog 107 [.agg [.sl 34 false (rows bg_ l),.sl 1 false (aq_ .i64 q)]] [] (.agg [.hs 34 0 0 l.length,.hs 1 1 0 q.length]) [.vec 34 (rows bg_ l),.vec 1 (aq_ .i64 q)]:=by
 refine ap_.fact 3 uT_ (by simp) ?_ (by simp);unfold lY_;refine bd ?_;have c1:=Mh_ false l hl;have c2:=Di_ false q hq;try refine aa_ ?_
 refine bv_ [] (c1) (by simp) evd (bR_.mk' (by simp) (by simp) evd) ?_;refine evg ?_;try refine aa_ ?_
 refine bv_ [] (c2) (by simp) evd (bR_.mk' (by simp) (by simp) evd) ?_;refine evg ?_;try refine aa_ ?_
 exact SM_ [] [2,3]
structure CpR(s:ai_):Prop where
 bn:s.nodes.length≤1000000
 bl:s.latest.length≤1000000
 be:s.eqv.length≤1000000
 bt:s.tabs.length≤1000
 bb:∀t∈s.tabs,t.bals.length≤1000000
 bo:s.orph.length≤1000000
 ba:s.early.length≤1000
 bv:∀a∈s.early,a.vals.length≤1000000
 bc:s.cfg.bals.length≤1000000
def Np_(s:ai_):Sto:=⟨⟨s.cfg.lim,s.cfg.spe,s.cfg.boost,s.cfg.ttd,s.cfg.gen,.hs 1 0 0 s.cfg.bals.length⟩,.hs 34 1 0 s.latest.length,.hs 1 2 0 s.eqv.length,s.j,s.f,.hs 67 3 0 s.early.length,.hs 238 4 0 s.orph.length,.hs 240 5 0 s.nodes.length,s.now,s.boost,.hs 34 6 0 s.tabs.length⟩
theorem np_(s:ai_)(h:CpR s):ap_ Tryz.prog 38 [.agg (aj_ s.a)] [] (.agg (aj_ (Np_ s)))
 [.vec 1 (aq_ .u64 s.cfg.bals),.vec 34 (rows bg_ s.latest),.vec 1 (aq_ .i64 s.eqv),.vec 67 (rows aG_.c s.early),.vec 238 (rows al_ s.orph),.vec 240 (rows aE_ s.nodes),.vec 34 (rows au_.c s.tabs)]:=by
 refine ap_.fact 3 uR_ (by simp) ?_ (by simp);unfold lW_;refine bd ?_;have c1:=Dk_ false s.cfg.bals h.bc;have c2:=Dl_ s.latest s.eqv h.bl h.be;have c3:=Gc_ s.early false h.ba h.bv;have c4:=Mf_ false s.orph h.bo;have c5:=FW_ s.nodes false h.bn;have c6:=FV_ s.tabs false h.bt h.bb;try refine aa_ ?_
 refine bj_ [] (c1) evd (aV_.mk' (by simp) evd) ?_;refine evg ?_;try refine aa_ ?_
 refine bj_ [] (c2) evd (aV_.mk' (by simp) evd) ?_;refine evg ?_;try refine aa_ ?_
 refine bj_ [] (c3) evd (aV_.mk' (by simp) evd) ?_;refine evg ?_;try refine aa_ ?_
 refine bj_ [] (c4) evd (aV_.mk' (by simp) evd) ?_;refine evg ?_;try refine aa_ ?_
 refine bj_ [] (c5) evd (aV_.mk' (by simp) evd) ?_;refine evg ?_;try refine aa_ ?_
 refine bj_ [] (c6) evd (aV_.mk' (by simp) evd) ?_;refine evg ?_;try refine aa_ ?_
 exact SM_ [] [2,3,4,5,6,7,8]
structure es_ where
 cs:List AV
 pu:PuL cs
theorem es_.ren(c:es_)(ρ:Nat→Nat):cd_ ρ c.cs=c.cs:=PuL.ren ρ c.pu
theorem es_.fz(c:es_)(σ:St)(zs:List Nat):fzL σ zs c.cs=c.cs:=PuL.fz σ zs c.pu
attribute [go_sem] es_.ren es_.fz
theorem Ea_(l:List Nod)(cl:Bool)(fn:FuncId)(c:es_)(p:Nat→Bool)(hl:l.length≤1000000)(hc:∀i,i<l.length→ap_ Tryz.prog fn [.agg (aE_ (l.getD i hz_)),.ptr 0 0] [.var c.cs] (.bool (p i)) [.var c.cs]):ap_ Tryz.prog 151 [.sl 240 cl (rows aE_ l),.fn (.func fn) [.ptr 0 0]] [.var c.cs] (.int .i64 (lH_ (ca_ p l.length))) [.var c.cs]:=by
 refine ap_.fact 9 eY_ (by simp) ?_ (by simp);unfold db_;refine bd ?_;have hN:ca_ p l.length=dH_ p (l.length-0) 0:=rfl;try refine aa_ ?_
 refine ao_ (fun i:Nat=>[(8,.int .i64 i)]) (fun _=>[.var c.cs]) (fun i=>l.length-i) (fun i=>i≤l.length∧ca_ p l.length=dH_ p (l.length-i) i) 0 ⟨Nat.zero_le _,hN⟩ ?_ ?_
 ·exact ST_ [] [0]
 clear hN;rintro i ⟨hi,hn⟩;rw[hn];refine cC_ ?_;by_cases h1:i<l.length
 ·have e1:=inT h1
  have hw:=af_ h1 (by omega);have hgd:(rows aE_ l).getD i []=aE_ (l.getD i hz_):=aB_ (f:=aE_) hz_ h1;have c1:=hc i h1;repeat(first|refine aa_ ?_|simp only[go_sem,e1])
  refine ac_ ?_;repeat(first|refine aa_ ?_|simp only[go_sem,hgd])
  refine bj_ [0] (c1) evd (aV_.mk' (by simp) evd) ?_;refine evg ?_;cases h:p i with
  | true =>
    rw[ej_ h1 h];try refine aa_ ?_
    refine Rn_ ?_
    exact SM_ [] [0]
  | false =>
    rw[dU_ h1 h];try refine aa_ ?_
    refine ab_ ?_;repeat(first|refine aa_ ?_|simp only[go_sem,hw])
    refine⟨i+1,⟨h1,rfl⟩,by omega,?_⟩;exact ST_ [] [0]
 ·obtain rfl:i=l.length:=by omega
  have e1:=inF (l.length);rw[fa_];repeat(first|refine aa_ ?_|simp only[go_sem,e1])
  refine Rm_ ?_
  exact SM_ [] [0]
theorem MS_(l:List au_)(cl:Bool)(fn:FuncId)(c:es_)(p:Nat→Bool)(hl:l.length≤1000000)(hc:∀i,i<l.length→ap_ Tryz.prog fn [.agg (au_.c (l.getD i default)),.ptr 0 0] [.var c.cs] (.bool (p i)) [.var c.cs]):ap_ Tryz.prog 183 [.sl 34 cl (rows au_.c l),.fn (.func fn) [.ptr 0 0]] [.var c.cs] (.int .i64 (lH_ (ca_ p l.length))) [.var c.cs]:=by
 refine ap_.fact 9 cS_ (by simp) ?_ (by simp);unfold bT_;refine bd ?_;have hN:ca_ p l.length=dH_ p (l.length-0) 0:=rfl;try refine aa_ ?_
 refine ao_ (fun i:Nat=>[(8,.int .i64 i)]) (fun _=>[.var c.cs]) (fun i=>l.length-i) (fun i=>i≤l.length∧ca_ p l.length=dH_ p (l.length-i) i) 0 ⟨Nat.zero_le _,hN⟩ ?_ ?_
 ·exact ST_ [] [0]
 clear hN;rintro i ⟨hi,hn⟩;rw[hn];refine cC_ ?_;by_cases h1:i<l.length
 ·have e1:=inT h1
  have hw:=af_ h1 (by omega);have hgd:(rows au_.c l).getD i []=au_.c (l.getD i default):=aB_ (f:=au_.c) default h1;have c1:=hc i h1;repeat(first|refine aa_ ?_|simp only[go_sem,e1])
  refine ac_ ?_;repeat(first|refine aa_ ?_|simp only[go_sem,hgd])
  refine bj_ [0] (c1) evd (aV_.mk' (by simp) evd) ?_;refine evg ?_;cases h:p i with
  | true =>
    rw[ej_ h1 h];try refine aa_ ?_
    refine Rn_ ?_
    exact SM_ [] [0]
  | false =>
    rw[dU_ h1 h];try refine aa_ ?_
    refine ab_ ?_;repeat(first|refine aa_ ?_|simp only[go_sem,hw])
    refine⟨i+1,⟨h1,rfl⟩,by omega,?_⟩;exact ST_ [] [0]
 ·obtain rfl:i=l.length:=by omega
  have e1:=inF (l.length);rw[fa_];repeat(first|refine aa_ ?_|simp only[go_sem,e1])
  refine Rm_ ?_
  exact SM_ [] [0]
theorem MR_(l:List Blk)(cl:Bool)(fn:FuncId)(c:es_)(p:Nat→Bool)(hl:l.length≤1000000)(hc:∀i,i<l.length→ap_ Tryz.prog fn [.agg (al_ (l.getD i cg_)),.ptr 0 0] [.var c.cs] (.bool (p i)) [.var c.cs]):ap_ Tryz.prog 80 [.sl 238 cl (rows al_ l),.fn (.func fn) [.ptr 0 0]] [.var c.cs] (.int .i64 (lH_ (ca_ p l.length))) [.var c.cs]:=by
 refine ap_.fact 9 bU_ (by simp) ?_ (by simp);unfold bs_;refine bd ?_;have hN:ca_ p l.length=dH_ p (l.length-0) 0:=rfl;try refine aa_ ?_
 refine ao_ (fun i:Nat=>[(8,.int .i64 i)]) (fun _=>[.var c.cs]) (fun i=>l.length-i) (fun i=>i≤l.length∧ca_ p l.length=dH_ p (l.length-i) i) 0 ⟨Nat.zero_le _,hN⟩ ?_ ?_
 ·exact ST_ [] [0]
 clear hN;rintro i ⟨hi,hn⟩;rw[hn];refine cC_ ?_;by_cases h1:i<l.length
 ·have e1:=inT h1
  have hw:=af_ h1 (by omega);have hgd:(rows al_ l).getD i []=al_ (l.getD i cg_):=aB_ (f:=al_) cg_ h1;have c1:=hc i h1;repeat(first|refine aa_ ?_|simp only[go_sem,e1])
  refine ac_ ?_;repeat(first|refine aa_ ?_|simp only[go_sem,hgd])
  refine bj_ [0] (c1) evd (aV_.mk' (by simp) evd) ?_;refine evg ?_;cases h:p i with
  | true =>
    rw[ej_ h1 h];try refine aa_ ?_
    refine Rn_ ?_
    exact SM_ [] [0]
  | false =>
    rw[dU_ h1 h];try refine aa_ ?_
    refine ab_ ?_;repeat(first|refine aa_ ?_|simp only[go_sem,hw])
    refine⟨i+1,⟨h1,rfl⟩,by omega,?_⟩;exact ST_ [] [0]
 ·obtain rfl:i=l.length:=by omega
  have e1:=inF (l.length);rw[fa_];repeat(first|refine aa_ ?_|simp only[go_sem,e1])
  refine Rm_ ?_
  exact SM_ [] [0]
theorem MT_(l:List Vot)(cl:Bool)(fn:FuncId)(p:Nat→Bool)(hl:l.length≤1000000)(hc:∀i,i<l.length→PC Tryz.prog fn [.agg (bg_ (l.getD i gj_))] (.bool (p i))):PC Tryz.prog 191 [.sl 34 cl (rows bg_ l),.fn (.func fn) []] (.int .i64 (lH_ (ca_ p l.length))):=by
 refine PC.fact 9 eZ_ (by simp) puA puA ?_;unfold dc_;refine bd ?_;have hN:ca_ p l.length=dH_ p (l.length-0) 0:=rfl;try refine aa_ ?_
 refine ao_ (fun i:Nat=>[(8,.int .i64 i)]) (fun _=>[]) (fun i=>l.length-i) (fun i=>i≤l.length∧ca_ p l.length=dH_ p (l.length-i) i) 0 ⟨Nat.zero_le _,hN⟩ ?_ ?_
 ·exact ST_ [] []
 clear hN;rintro i ⟨hi,hn⟩;rw[hn];refine cC_ ?_;by_cases h1:i<l.length
 ·have e1:=inT h1
  have hw:=af_ h1 (by omega);have hgd:(rows bg_ l).getD i []=bg_ (l.getD i gj_):=aB_ (f:=bg_) gj_ h1;have c1:=hc i h1;repeat(first|refine aa_ ?_|simp only[go_sem,e1])
  refine ac_ ?_;repeat(first|refine aa_ ?_|simp only[go_sem,hgd])
  refine ae_ c1 ?_;cases h:p i with
  | true =>
    rw[ej_ h1 h];try refine aa_ ?_
    refine Rn_ ?_
    exact ag_
  | false =>
    rw[dU_ h1 h];try refine aa_ ?_
    refine ab_ ?_;repeat(first|refine aa_ ?_|simp only[go_sem,hw])
    refine⟨i+1,⟨h1,rfl⟩,by omega,?_⟩;exact ST_ [] []
 ·obtain rfl:i=l.length:=by omega
  have e1:=inF (l.length);rw[fa_];repeat(first|refine aa_ ?_|simp only[go_sem,e1])
  refine Rm_ ?_
  exact ag_
theorem Ml_(l:List Nod)(cl:Bool)(fn:FuncId)(c:es_)(p:Nat→Bool)(hl:l.length≤1000000)(hc:∀i,i<l.length→ap_ Tryz.prog fn [.agg (aE_ (l.getD i hz_)),.ptr 0 0] [.var c.cs] (.bool (p i)) [.var c.cs]):ap_ Tryz.prog 137 [.sl 240 cl (rows aE_ l),.fn (.func fn) [.ptr 0 0]] [.var c.cs] (.bool (ca_ p l.length).isSome) [.var c.cs]:=by
 refine ap_.fact 5 eq_ (by simp) ?_ (by simp);unfold cI_;refine bd ?_;have c1:=Ea_ l cl fn c p hl hc;try refine aa_ ?_
 refine bj_ [0] (c1) evd (aV_.mk' (by simp) evd) ?_;refine evg ?_;cases h:ca_ p l.length with
 | none =>
   try refine aa_ ?_
   exact SM_ [] [0]
 | some i =>
   have e2:decide ((i:Int) ≥ 0)=true:=decide_eq_true (by omega);repeat(first|refine aa_ ?_|simp only[go_sem,e2])
   exact SM_ [] [0]
theorem Mm_(l:List au_)(cl:Bool)(fn:FuncId)(c:es_)(p:Nat→Bool)(hl:l.length≤1000000)(hc:∀i,i<l.length→ap_ Tryz.prog fn [.agg (au_.c (l.getD i default)),.ptr 0 0] [.var c.cs] (.bool (p i)) [.var c.cs]):ap_ Tryz.prog 180 [.sl 34 cl (rows au_.c l),.fn (.func fn) [.ptr 0 0]] [.var c.cs] (.bool (ca_ p l.length).isSome) [.var c.cs]:=by
 refine ap_.fact 5 ea_ (by simp) ?_ (by simp);unfold cy_;refine bd ?_;have c1:=MS_ l cl fn c p hl hc;try refine aa_ ?_
 refine bj_ [0] (c1) evd (aV_.mk' (by simp) evd) ?_;refine evg ?_;cases h:ca_ p l.length with
 | none =>
   try refine aa_ ?_
   exact SM_ [] [0]
 | some i =>
   have e2:decide ((i:Int) ≥ 0)=true:=decide_eq_true (by omega);repeat(first|refine aa_ ?_|simp only[go_sem,e2])
   exact SM_ [] [0]
theorem Mk_(l:List Blk)(cl:Bool)(fn:FuncId)(c:es_)(p:Nat→Bool)(hl:l.length≤1000000)(hc:∀i,i<l.length→ap_ Tryz.prog fn [.agg (al_ (l.getD i cg_)),.ptr 0 0] [.var c.cs] (.bool (p i)) [.var c.cs]):ap_ Tryz.prog 194 [.sl 238 cl (rows al_ l),.fn (.func fn) [.ptr 0 0]] [.var c.cs] (.bool (ca_ p l.length).isSome) [.var c.cs]:=by
 refine ap_.fact 5 dZ_ (by simp) ?_ (by simp);unfold cx_;refine bd ?_;have c1:=MR_ l cl fn c p hl hc;try refine aa_ ?_
 refine bj_ [0] (c1) evd (aV_.mk' (by simp) evd) ?_;refine evg ?_;cases h:ca_ p l.length with
 | none =>
   try refine aa_ ?_
   exact SM_ [] [0]
 | some i =>
   have e2:decide ((i:Int) ≥ 0)=true:=decide_eq_true (by omega);repeat(first|refine aa_ ?_|simp only[go_sem,e2])
   exact SM_ [] [0]
theorem Mn_(l:List Vot)(cl:Bool)(fn:FuncId)(p:Nat→Bool)(hl:l.length≤1000000)(hc:∀i,i<l.length→PC Tryz.prog fn [.agg (bg_ (l.getD i gj_))] (.bool (p i))):PC Tryz.prog 135 [.sl 34 cl (rows bg_ l),.fn (.func fn) []] (.bool (ca_ p l.length).isSome):=by
 refine PC.fact 5 er_ (by simp) puA puA ?_;unfold cJ_;refine bd ?_;have c1:=MT_ l cl fn p hl hc;try refine aa_ ?_
 refine ae_ c1 ?_;cases h:ca_ p l.length with
 | none =>
   try refine aa_ ?_
   exact ag_
 | some i =>
   have e2:decide ((i:Int) ≥ 0)=true:=decide_eq_true (by omega);repeat(first|refine aa_ ?_|simp only[go_sem,e2])
   exact ag_
theorem Gn_(x:Nod)(r:Rt):ap_ Tryz.prog 152 [.agg (aE_ x),.ptr 0 0] [.var (rtc r)] (.bool (decide (x.blk.root=r))) [.var (rtc r)]:=by
 refine ap_.fact 4 pe_ (by simp) ?_ (by simp);unfold in_;refine bd ?_;try refine aa_ ?_
 exact SM_ [] [0]
theorem cG_(t:List Nod)(r:Rt)(hb:t.length≤1000000):PC Tryz.prog 82 [.agg [.sl 240 false (rows aE_ t)],.agg (rtc r)] (.int .i64 (ak_ t r)):=by
 refine PC.fact 5 rx_ (by simp) puA puA ?_;unfold jW_;refine bd ?_;have c1:=Ea_ t false 152 ⟨rtc r,cf_ r⟩ (fun i=>decide ((nod t i).blk.root=r)) hb (fun i _=>Gn_ _ r);try refine aa_ ?_
 refine bj_ [1] (c1) evd (aV_.mk' (by simp) evd) ?_;refine evg ?_;try refine aa_ ?_
 exact ag_
theorem rU_(t:List Nod)(i:Int):PC Tryz.prog 185 [.agg [.sl 240 false (rows aE_ t)],.int .i64 i] (.bool (isN t i)):=by
 refine PC.fact 5 uN_ (by simp) puA puA ?_;unfold lS_;refine bd ?_;unfold isN;by_cases h0:0≤i
 ·have e0:decide (i ≥ 0)=true:=decide_eq_true h0;have e1:decide (0≤i)=true:=decide_eq_true h0;repeat(first|refine aa_ ?_|simp only[go_sem,e0,e1])
  exact ag_
 ·have e0:decide (i ≥ 0)=false:=decide_eq_false h0;have e1:decide (0≤i)=false:=decide_eq_false h0;repeat(first|refine aa_ ?_|simp only[go_sem,e0,e1])
  exact ag_
theorem Eo_(t:List Nod)(ht:cj_ t)(hb:t.length≤1000000)(i slot:Int):PC Tryz.prog 122 [.agg [.sl 240 false (rows aE_ t)],.int .i64 i,.int .u64 slot] (.int .i64 (atT t i slot)):=by
 refine PC.fact 7 xE_ (by simp) puA puA ?_;unfold om_;refine bd ?_;generalize hR:atT t i slot=R;try refine aa_ ?_
 refine ao_ (fun j:Int=>[(1,.int .i64 j)]) (fun _=>[.var [.sl 240 false (rows aE_ t)]]) (fun j=>(j+1).toNat) (fun j=>atT t j slot=R) i hR ?_ ?_
 ·exact ST_ [] [0]
 clear hR;intro j hR;have c1:=rU_ t j;try refine aa_ ?_
 refine ae_ c1 ?_;cases h:isN t j with
 | false =>
   rw[pN_ slot h]at hR;subst hR;try refine aa_ ?_
   refine Rm_ ?_
   exact ag_
 | true =>
   obtain⟨h0,h1⟩:=jq_.1 h;obtain⟨k,rfl⟩:=Int.eq_ofNat_of_zero_le h0;have hk:k<t.length:=by omega
   have hgd:(rows aE_ t).getD k []=aE_ (nod t k):=aB_ (f:=aE_) hz_ hk;have hbd:decide ((k:Int)<((t.length:Nat):Int))=true:=decide_eq_true h1;rw[FE_ ht hk]at hR
   have hup:(nod t k).up<k:=by
    rcases Nat.eq_zero_or_pos k with h|h
    ·subst h;have:=ht.root;omega
    ·have:=ht.ok k h hk;omega
   try refine aa_ ?_
   refine ac_ ?_;repeat(first|refine aa_ ?_|simp only[go_sem,hgd])
   by_cases h2:(nod t k).blk.slot≤slot
   ·have e2:decide ((nod t k).blk.slot≤slot)=true:=decide_eq_true h2;rw[if_pos h2]at hR;subst hR;repeat(first|refine aa_ ?_|simp only[go_sem,e2])
    refine Rn_ ?_
    exact ag_
   ·have e2:decide ((nod t k).blk.slot≤slot)=false:=decide_eq_false h2;rw[if_neg h2]at hR;repeat(first|refine aa_ ?_|simp only[go_sem,e2])
    refine ab_ ?_;repeat(first|refine aa_ ?_|simp only[go_sem,hgd])
    refine⟨(nod t k).up,hR,by omega,?_⟩;exact ST_ [] [0]
theorem Kp_(t:List Nod)(ht:cj_ t)(hb:t.length≤1000000)(a b:Int):PC Tryz.prog 182 [.agg [.sl 240 false (rows aE_ t)],.int .i64 a,.int .i64 b] (.bool (dn_ t a b)):=by
 refine PC.fact 7 lB_ (by simp) puA puA ?_;unfold gm_;refine bd ?_;have c1:=rU_ t a;have c2:=rU_ t b;try refine aa_ ?_
 refine ae_ c1 ?_;cases ha:isN t a with
 | false =>
   rw[AE_ ht (.inl ha)];try refine aa_ ?_
   refine Rn_ ?_
   exact ag_
 | true =>
   try refine aa_ ?_
   refine ae_ c2 ?_;cases hb:isN t b with
   | false =>
     rw[AE_ ht (.inr hb)];try refine aa_ ?_
     refine Rn_ ?_
     exact ag_
   | true =>
     try refine aa_ ?_
     refine ab_ ?_;generalize hR:dn_ t a b=R;try refine aa_ ?_
     refine ao_ (fun j:Int=>[(2,.int .i64 j)]) (fun _=>[.var [.sl 240 false (rows aE_ t)]]) (fun j=>(j+1).toNat) (fun j=>isN t j=true∧dn_ t a j=R) b ⟨hb,hR⟩ ?_ ?_
     ·exact ST_ [] [0]
     clear hR hb;rintro j ⟨hj,hR⟩;obtain⟨h0,h1⟩:=jq_.1 hj;obtain⟨k,rfl⟩:=Int.eq_ofNat_of_zero_le h0;have hk:k<t.length:=by omega
     have ha0:=(jq_.1 ha).1;by_cases h2:(k:Int) > a
     ·have e2:decide ((k:Int) > a)=true:=decide_eq_true h2;have hgd:(rows aE_ t).getD k []=aE_ (nod t k):=aB_ (f:=aE_) hz_ hk;have hbd:decide ((k:Int)<((t.length:Nat):Int))=true:=decide_eq_true h1;rw[CZ_ ht hk (by omega)]at hR;have hup:=ht.ok k (by omega) hk;repeat(first|refine aa_ ?_|simp only[go_sem,e2])
      refine ac_ ?_;repeat(first|refine aa_ ?_|simp only[go_sem,hgd])
      refine⟨(nod t k).up,⟨jq_.2 (by omega),hR⟩,by omega,?_⟩;exact ST_ [] [0]
     ·have e2:decide ((k:Int) > a)=false:=decide_eq_false h2;rw[LM_ ht hk (by omega)]at hR;have e3:(a==(k:Int))=R:=by rw[←hR];by_cases h:a=(k:Int)<;>simp[h]
      repeat(first|refine aa_ ?_|simp only[go_sem,e2])
      refine ab_ ?_;repeat(first|refine aa_ ?_|simp only[go_sem,e3])
      exact ag_
theorem GV_(b:Blk)(st:Int):PC Tryz.prog 131 [.agg (al_ b),.int .i64 st] (.agg [.sl 240 false (rows aE_ [⟨b,-1,st⟩])]):=by
 refine PC.fact 5 tb_ (by simp) puA puA ?_;unfold kY_;refine bd ?_;try refine aa_ ?_
 refine⟨_,by first|rfl|exact evd,.inr ⟨.agg [.sl 240 true (rows aE_ [⟨b,-1,st⟩])],evd,by simp[Pu,PuL,eM_],Wk.agg ⟨Wk.open_ _ _ _,fun h=>h,trivial⟩⟩⟩
theorem wc_(i:Int):PC Tryz.prog 190 [.int .i64 i] (.bool (decide (0≤i)&&decide (i≤2))):=by
 refine PC.fact 3 mA_ (by simp) puA puA ?_;unfold gU_;refine bd ?_;by_cases h0:0≤i
 ·have e0:decide (i ≥ 0)=true:=decide_eq_true h0;have e1:decide (0≤i)=true:=decide_eq_true h0;repeat(first|refine aa_ ?_|simp only[go_sem,e0,e1])
  exact ag_
 ·have e0:decide (i ≥ 0)=false:=decide_eq_false h0;have e1:decide (0≤i)=false:=decide_eq_false h0;repeat(first|refine aa_ ?_|simp only[go_sem,e0,e1])
  exact ag_
theorem Hc_(b:Blk):PC Tryz.prog 150 [.agg (al_ b)] (.int .i64 (if b.payload=rt0 then 1 else 0)):=by
 refine PC.fact 3 uU_ (by simp) puA puA ?_;unfold lZ_;refine bd ?_;have c1:=fm_ b.payload;try refine aa_ ?_
 refine ae_ c1 ?_;by_cases h:b.payload=rt0
 ·rw[if_pos h,decide_eq_true h];try refine aa_ ?_
  refine Rn_ ?_
  exact ag_
 ·rw[if_neg h,decide_eq_false h];try refine aa_ ?_
  refine Rm_ ?_
  exact ag_
theorem GR_(t:List Nod)(hb:t.length≤1000000):PC Tryz.prog 200 [.sl 240 false (rows aE_ t)] (.sl 240 true (rows aE_ t)):=by
 refine PC.fact 3 gl_ (by simp) puA puA ?_;unfold dG_;refine bd ?_;try refine aa_ ?_
 exact ag_
theorem Ku_(t:List Nod)(b:Blk)(st:Int)(hb:t.length≤1000000):PC Tryz.prog 149 [.agg [.sl 240 false (rows aE_ t)],.agg (al_ b),.int .i64 st] (.tup [.agg [.sl 240 false (rows aE_ (dM_ t b st).1)],.int .i64 (dM_ t b st).2]):=by
 refine PC.fact 9 pf_ (by simp) puA puA ?_;unfold io_;refine bd ?_;have c1:=wc_ st;have c2:=cG_ t b.root hb;have c3:=cG_ t b.parent hb;have c4:=GR_ t hb;have b3:=cl_ t b.parent;unfold dM_;generalize ak_ t b.root=x at *;generalize ak_ t b.parent=y at *;try refine aa_ ?_
 refine ae_ c1 ?_;by_cases q1:0≤st∧st≤2
 case neg=>
  have e1:(decide (0≤st)&&decide (st≤2))=false:=by rw[Bool.and_eq_false_iff,decide_eq_false_iff_not,decide_eq_false_iff_not];omega
  rw[if_pos q1];repeat(first|refine aa_ ?_|simp only[go_sem,e1])
  refine Rn_ ?_
  refine⟨_,by first|rfl|exact evd,.inr ⟨_,by(try simp only[go_sem,Nat.reduceAdd,Nat.reduceSub,Nat.reduceMul,Nat.reduceLT,Nat.reduceLeDiff,Nat.reduceEqDiff,reduceIte,Int.reduceToNat,Int.reduceLT,Int.reduceLE,Int.reduceEq,Int.reduceNeg,reduceCtorEq,Int.reduceBEq,Int.reduceBNe]);try rfl,puA,(by repeat'(first|exact Wk.refl _|exact Wk.empty _ _ _|exact Wk.open_ _ _ _|refine Wk.tup ?_|refine Wk.agg ?_|exact trivial|(intro h;first|exact h|rfl)|constructor))⟩⟩
 have e1:(decide (0≤st)&&decide (st≤2))=true:=by simp[q1]
 rw[if_neg (fun h=>h q1)];repeat(first|refine aa_ ?_|simp only[go_sem,e1])
 refine Rm_ ?_
 refine Sv_ c2 ?_
 refine aP_ (fun h=>?_) (fun h=>?_)
 ·rw[if_pos (by simpa using h)];try refine aa_ ?_
  refine⟨_,by first|rfl|exact evd,.inr ⟨_,by(try simp only[go_sem,Nat.reduceAdd,Nat.reduceSub,Nat.reduceMul,Nat.reduceLT,Nat.reduceLeDiff,Nat.reduceEqDiff,reduceIte,Int.reduceToNat,Int.reduceLT,Int.reduceLE,Int.reduceEq,Int.reduceNeg,reduceCtorEq,Int.reduceBEq,Int.reduceBNe]);try rfl,puA,(by repeat'(first|exact Wk.refl _|exact Wk.empty _ _ _|exact Wk.open_ _ _ _|refine Wk.tup ?_|refine Wk.agg ?_|exact trivial|(intro h;first|exact h|rfl)|constructor))⟩⟩
 rw[if_neg (by simpa using h)];try refine aa_ ?_
 refine Sv_ c3 ?_
 clear h;refine aP_ (fun h=>?_) (fun h=>?_)
 ·rw[if_pos (by simpa using h)];try refine aa_ ?_
  refine⟨_,by first|rfl|exact evd,.inr ⟨_,by(try simp only[go_sem,Nat.reduceAdd,Nat.reduceSub,Nat.reduceMul,Nat.reduceLT,Nat.reduceLeDiff,Nat.reduceEqDiff,reduceIte,Int.reduceToNat,Int.reduceLT,Int.reduceLE,Int.reduceEq,Int.reduceNeg,reduceCtorEq,Int.reduceBEq,Int.reduceBNe]);try rfl,puA,(by repeat'(first|exact Wk.refl _|exact Wk.empty _ _ _|exact Wk.open_ _ _ _|refine Wk.tup ?_|refine Wk.agg ?_|exact trivial|(intro h;first|exact h|rfl)|constructor))⟩⟩
 have hy0:0≤y:=by simpa using h
 have hgd:(rows aE_ t).getD y.toNat []=aE_ (nod t y.toNat):=aB_ (f:=aE_) hz_ (by omega);rw[if_neg (by simpa using h)];repeat(first|refine aa_ ?_|simp only[go_sem,hgd])
 clear h;refine aP_ (fun h=>?_) (fun h=>?_)
 ·rw[if_pos (by simpa using h)];try refine aa_ ?_
  refine⟨_,by first|rfl|exact evd,.inr ⟨_,by(try simp only[go_sem,Nat.reduceAdd,Nat.reduceSub,Nat.reduceMul,Nat.reduceLT,Nat.reduceLeDiff,Nat.reduceEqDiff,reduceIte,Int.reduceToNat,Int.reduceLT,Int.reduceLE,Int.reduceEq,Int.reduceNeg,reduceCtorEq,Int.reduceBEq,Int.reduceBNe]);try rfl,puA,(by repeat'(first|exact Wk.refl _|exact Wk.empty _ _ _|exact Wk.open_ _ _ _|refine Wk.tup ?_|refine Wk.agg ?_|exact trivial|(intro h;first|exact h|rfl)|constructor))⟩⟩
 rw[if_neg (by simpa using h)];try refine aa_ ?_
 clear h;refine aP_ (fun h=>?_) (fun h=>?_)
 ·rw[if_pos (by simp at h;omega)];try refine aa_ ?_
  refine⟨_,by first|rfl|exact evd,.inr ⟨_,by(try simp only[go_sem,Nat.reduceAdd,Nat.reduceSub,Nat.reduceMul,Nat.reduceLT,Nat.reduceLeDiff,Nat.reduceEqDiff,reduceIte,Int.reduceToNat,Int.reduceLT,Int.reduceLE,Int.reduceEq,Int.reduceNeg,reduceCtorEq,Int.reduceBEq,Int.reduceBNe]);try rfl,puA,(by repeat'(first|exact Wk.refl _|exact Wk.empty _ _ _|exact Wk.open_ _ _ _|refine Wk.tup ?_|refine Wk.agg ?_|exact trivial|(intro h;first|exact h|rfl)|constructor))⟩⟩
 rw[if_neg (by simp at h;omega)];have hr:=bF_ aE_ t ⟨b,y,st⟩;try refine aa_ ?_
 refine as_ (c4) ?_;repeat(first|refine aa_ ?_|simp only[go_sem,hr])
 exact ag_
end Go.Proofs.YtkgimpdgncakjaaGreat
