/-
 My texts Nf, Ng, joined.
-/
import Derived.Test.YtkgimpdgncakjaaGreatV9
import Derived.Test.YtkgimpdgncakjaaGreatV7
namespace Go.Proofs.YtkgimpdgncakjaaGreat
open Go Go.FH Go.RowKit
set_option linter.unusedVariables false
set_option linter.unusedSimpArgs false
set_option maxRecDepth 8000
set_option maxHeartbeats 4000000
theorem MK_{a b:AV}{c d:AV}(n:Int)(h1:Wk a b)(h2:Wk c d):Wk (.tup [a,c,.int .i64 n]) (.tup [b,d,.int .i64 n]):=Wk.tup ⟨h1,h2,Wk.refl _,trivial⟩
theorem DY_(c:bt_)(hb:c.bals.length≤1000000)(hs:hi_ c=0→StR (ea_ c)):PC Tryz.prog 102 [.agg (bf_ c.a)] (.tup [.agg (aD_ (oj_ c).1.a),.sl 96 false (rows cH_ (oj_ c).2.1),.int .i64 (oj_ c).2.2]):=by
 refine PC.fact 9 wC_ (by simp) puA ⟨aI_.pul _,cT_ _,trivial,trivial⟩ ?_;unfold nJ_;refine bd ?_;have c1:=Lx_ c hb;unfold oj_;unfold uH_ at c1;by_cases q:hi_ c=0
 ·rw[if_pos q]at c1
  simp only[if_pos q]at *;have c2:=xV_ ⟨ea_ c,[],[],1,false,pv_,false,false⟩ (hs q);generalize ea_ c=S at *;generalize lQ_ ⟨S,[],[],1,false,pv_,false,false⟩=E at *;obtain⟨E1,E2⟩:=E;dsimp only at c2 ⊢
  have hw:Wk (.agg (aD_ ⟨S.a,.sl 0 true [],.sl 0 true [],1,false,pv_,false,false⟩)) (.agg (aD_ (aI_.a ⟨S,[],[],1,false,pv_,false,false⟩))):=by
   refine Wk.agg ?_;unfold aI_.a aD_;dsimp only;exact(WkC.refl _).app (.cons (Wk.empty _ _ _) (fun h=>h) (.cons (Wk.empty _ _ _) (fun h=>h) (WkC.refl _)))
  have hp:PuL (aD_ ⟨S.a,.sl 0 true [],.sl 0 true [],1,false,pv_,false,false⟩):=by
   refine(Bk_ _).2 ?_;have:=S.pul;simp[Sta.Pure,Pu,dh_,(lh_ _).1 this]
  try refine aa_ ?_
  refine Qy_ c1 ?_
  refine PG_ ?_
  refine ir_ c2 ⟨hw,trivial⟩ ⟨hp,trivial⟩ ?_;try refine aa_ ?_
  exact af_
 ·rw[if_neg q]at c1;simp only[if_neg q]at *;have e1:(hi_ c != 0)=true:=by simp[q]
  try refine aa_ ?_
  refine ah_ c1 ?_;repeat(first|refine aa_ ?_|simp only[go_sem,e1])
  refine PH_ ?_
  refine⟨_,(by first|rfl|exact evd),.inr ⟨.tup [.agg (aD_ dG_),.sl 0 true [],.int .i64 (hi_ c)],?_,⟨Bj_,trivial,trivial,trivial⟩,MK_ _ GZ_ (Wk.empty _ _ _)⟩⟩;exact evd
theorem JS_(s:aI_)(m:Nat)(h:dW_ s m)(v:Vdt):PC Tryz.prog 218 [.agg (aD_ s.a),.agg (cl_ v)] (.tup [.agg (aD_ (qi_ s v).1.a),.int .i64 (qi_ s v).2]):=by
 refine PC.fact 13 sk_ (by simp) puA ⟨aI_.pul _,trivial,trivial⟩ ?_;unfold kO_;refine bd ?_;have hrq:=h.rq;have hii:=h.sto.ii;have c1:=Fc_ s v (by omega);unfold qi_;have hm2:(dj_ s v).2.2=0→dW_ (dj_ s v).2.1 m:=fun hz=>h.mat hz
 generalize dj_ s v=M at *;obtain⟨r,t,e⟩:=M;dsimp only at c1 hm2 ⊢;by_cases q1:e=0
 case neg=>
  have e1:(e != 0)=true:=by simp[q1]
  rw[if_pos q1];try refine aa_ ?_
  refine ah_ c1 ?_;repeat(first|refine aa_ ?_|simp only[go_sem,e1])
  refine PH_ ?_
  exact af_
 subst q1;rw[if_neg (by simp)];have ht:=hm2 rfl;have hy:=ht.yl;have hT:=ht.sto.r;have hbn:=hT.bn;by_cases q2:v.kind=3∨v.kind=4
 ·rw[if_pos q2]
  have c2:=ET_ t r hT (by omega);by_cases q3:v.kind=3
  ·have e3:(v.kind==3)=true:=by simp[q3]
   try refine aa_ ?_
   refine Qy_ c1 ?_
   refine ab_ ?_;repeat(first|refine aa_ ?_|simp only[go_sem,e3])
   refine PH_ ?_
   refine Qy_ c2 ?_
   exact af_
  ·have e3:(v.kind==3)=false:=by simp[q3]
   have e4:(v.kind==4)=true:=by simp[q2.resolve_left q3]
   try refine aa_ ?_
   refine Qy_ c1 ?_
   refine ab_ ?_;repeat(first|refine aa_ ?_|simp only[go_sem,e3,e4])
   refine PH_ ?_
   refine Qy_ c2 ?_
   exact af_
 rw[if_neg q2];have e3:(v.kind==3)=false:=by simp;exact fun h=>q2 (.inl h)
 have e4:(v.kind==4)=false:=by simp;exact fun h=>q2 (.inr h)
 have c2:=bv_ t.sto.nodes t.sto.j.rt hbn;have c3:=bv_ t.sto.nodes t.sto.f.rt hbn;have c4:=bv_ t.sto.nodes r.block hbn;have c5:=EL_ t.sto.nodes hT.tree.ok (an_ t.sto.nodes r.block) v [an_ t.sto.nodes t.sto.j.rt,an_ t.sto.nodes t.sto.f.rt] hbn (by simp);have hj:Aa_ t.sto r.block v=gn_ t.sto.nodes (an_ t.sto.nodes r.block) v [an_ t.sto.nodes t.sto.j.rt,an_ t.sto.nodes t.sto.f.rt]:=rfl;have hup:=fun hz=>Ct_ (t:=t.sto.nodes) (i:=an_ t.sto.nodes r.block) (v:=v) (keep:=[an_ t.sto.nodes t.sto.j.rt,an_ t.sto.nodes t.sto.f.rt]) hz
 rw[hj];clear hj;have hnums:∀a b:Int,[[AV.int .i64 a],[AV.int .i64 b]]=aq_ .i64 [a,b]:=fun _ _=>rfl
 generalize an_ t.sto.nodes t.sto.j.rt=J at *;generalize an_ t.sto.nodes t.sto.f.rt=F at *;generalize an_ t.sto.nodes r.block=B at *;generalize gn_ t.sto.nodes B v [J,F]=U at *;obtain⟨U1,U2⟩:=U;dsimp only at c5 hup ⊢;by_cases q3:U2=0
 case neg=>
  have e5:(U2 != 0)=true:=by simp[q3]
  rw[if_pos q3];try refine aa_ ?_
  refine Qy_ c1 ?_
  refine ab_ ?_;repeat(first|refine aa_ ?_|simp only[go_sem,e3,e4])
  refine PG_ ?_
  refine au_ (c2) ?_;try refine aa_ ?_
  refine au_ (c3) ?_;repeat(first|refine aa_ ?_|simp only[go_sem,hnums])
  refine au_ (c4) ?_;try refine aa_ ?_
  refine au_ (c5) ?_;repeat(first|refine aa_ ?_|simp only[go_sem,e5])
  refine PH_ ?_
  exact af_
 subst q3;rw[if_neg (by simp)];have hlen:U1.length≤1000000:=by have:=(hup rfl).1;omega
 have c6:=bv_ U1 t.sto.boost hlen;have b6:=cq_ U1 t.sto.boost;have hbv:boostV (df_ t.sto U1)=if 0≤an_ U1 t.sto.boost∧(nod U1 (an_ U1 t.sto.boost).toNat).status=2 then withB (df_ t.sto U1) rt0 else df_ t.sto U1:=rfl
 rw[hbv];clear hbv;generalize an_ U1 t.sto.boost=I at *;by_cases q4:0≤I
 ·have e6:decide (0≤I)=true:=decide_eq_true q4
  have hg:=bD_ (t:=U1) (i:=I.toNat) (by omega);by_cases q5:(nod U1 I.toNat).status=2
  ·have e7:((nod U1 I.toNat).status==2)=true:=by simp[q5]
   rw[if_pos ⟨q4,q5⟩];try refine aa_ ?_
   refine Qy_ c1 ?_
   refine ab_ ?_;repeat(first|refine aa_ ?_|simp only[go_sem,e3,e4])
   refine PG_ ?_
   refine au_ (c2) ?_;try refine aa_ ?_
   refine au_ (c3) ?_;repeat(first|refine aa_ ?_|simp only[go_sem,hnums])
   refine au_ (c4) ?_;try refine aa_ ?_
   refine au_ (c5) ?_;try refine aa_ ?_
   refine PG_ ?_
   refine ah_ c6 ?_;repeat(first|refine aa_ ?_|simp only[go_sem,e6,hg,e7])
   refine PH_ ?_
   exact af_
  ·have e7:((nod U1 I.toNat).status==2)=false:=by simp[q5]
   rw[if_neg (fun h=>q5 h.2)];try refine aa_ ?_
   refine Qy_ c1 ?_
   refine ab_ ?_;repeat(first|refine aa_ ?_|simp only[go_sem,e3,e4])
   refine PG_ ?_
   refine au_ (c2) ?_;try refine aa_ ?_
   refine au_ (c3) ?_;repeat(first|refine aa_ ?_|simp only[go_sem,hnums])
   refine au_ (c4) ?_;try refine aa_ ?_
   refine au_ (c5) ?_;try refine aa_ ?_
   refine PG_ ?_
   refine ah_ c6 ?_;repeat(first|refine aa_ ?_|simp only[go_sem,e6,hg,e7])
   refine PG_ ?_
   exact af_
 ·have e6:decide (0≤I)=false:=decide_eq_false q4;rw[if_neg (fun h=>q4 h.1)];try refine aa_ ?_
  refine Qy_ c1 ?_
  refine ab_ ?_;repeat(first|refine aa_ ?_|simp only[go_sem,e3,e4])
  refine PG_ ?_
  refine au_ (c2) ?_;try refine aa_ ?_
  refine au_ (c3) ?_;repeat(first|refine aa_ ?_|simp only[go_sem,hnums])
  refine au_ (c4) ?_;try refine aa_ ?_
  refine au_ (c5) ?_;try refine aa_ ?_
  refine PG_ ?_
  refine ah_ c6 ?_;repeat(first|refine aa_ ?_|simp only[go_sem,e6])
  refine PG_ ?_
  exact af_
theorem IL_(s:aI_)(m:Nat)(h:dW_ s m)(x:VOp)(hx:OpR x):PC Tryz.prog 175 [.agg (aD_ s.a),.agg (bq_ x.a)] (.tup [.agg (aD_ (iW_ s x).1.a),.int .i64 (iW_ s x).2]):=by
 refine PC.fact 9 sj_ (by simp) puA ⟨aI_.pul _,trivial,trivial⟩ ?_;unfold kN_;refine bd ?_;have hrq:=h.rq;have hii:=h.sto.ii;have hyl:=h.yl;unfold iW_;by_cases k1:x.kind=1
 ·have n1:(x.kind==1)=true:=by simp[k1]
  rw[if_pos k1];have c1:=yR_ s.sto m h.sto;have hI:=fun hz=>h.sto.tick (s:=s.sto) hz
  generalize dd_ s.sto=T at *;obtain⟨T1,T2⟩:=T;dsimp only at c1 hI ⊢;by_cases q:T2=0
  ·subst q;have hT:=(hI rfl).r;have c2:=xU_ (ev_ s T1) hT (by show s.reqs.length≤_;omega) (by show s.rets.length≤_;omega);have hd1:=(mg_ (ev_ s T1).sto.nodes (ev_ s T1).reqs).1;have hd2:=(mg_ (ev_ s T1).sto.nodes (ev_ s T1).rets).1;have hd3:(ev_ s T1).reqs.length=s.reqs.length:=rfl;have hd4:(ev_ s T1).rets.length=s.rets.length:=rfl;have c3:=KO_ (tE_ (ev_ s T1)) hT (by show (io_ _ _).length+(io_ _ _).length≤_;omega);rw[if_pos rfl];repeat(first|refine aa_ ?_|simp only[go_sem,n1])
   refine PH_ ?_
   refine Qy_ c1 ?_
   refine PH_ ?_
   refine Qy_ c2 ?_
   refine Qy_ c3 ?_
   exact af_
  ·have e1:(T2==0)=false:=by simp[q]
   rw[if_neg q];repeat(first|refine aa_ ?_|simp only[go_sem,n1])
   refine PH_ ?_
   refine ah_ c1 ?_;repeat(first|refine aa_ ?_|simp only[go_sem,e1])
   refine PG_ ?_
   exact af_
 rw[if_neg k1];have n1:(x.kind==1)=false:=by simp[k1]
 by_cases k2:x.kind=2
 ·have n2:(x.kind==2)=true:=by simp[k2]
  rw[if_pos k2];have c1:=Ea_ s.sto m h.sto x.blk hx.blk;have hI:=fun hz=>h.sto.block hx.blk hz
  generalize dB_ s.sto x.blk=T at *;obtain⟨T1,T2,T3⟩:=T;dsimp only at c1 hI ⊢;by_cases q:T3=0
  ·subst q;have hT:=(hI rfl).1.r;have hl:=(hI rfl).2;have c2:=xU_ (ev_ s T1) hT (by show s.reqs.length≤_;omega) (by show s.rets.length≤_;omega);have hd1:=(mg_ (ev_ s T1).sto.nodes (ev_ s T1).reqs).1;have hd3:(ev_ s T1).reqs.length=s.reqs.length:=rfl;have c3:=Fh_ (tE_ (ev_ s T1)) T2 hT (by show (io_ _ _).length+_≤_;omega);rw[if_pos rfl];repeat(first|refine aa_ ?_|simp only[go_sem,n1])
   refine ab_ ?_;repeat(first|refine aa_ ?_|simp only[go_sem,n2])
   refine PH_ ?_
   refine Qy_ c1 ?_
   refine PH_ ?_
   refine Qy_ c2 ?_
   refine Qy_ c3 ?_
   exact af_
  ·have e1:(T3==0)=false:=by simp[q]
   rw[if_neg q];repeat(first|refine aa_ ?_|simp only[go_sem,n1])
   refine ab_ ?_;repeat(first|refine aa_ ?_|simp only[go_sem,n2])
   refine PH_ ?_
   refine ah_ c1 ?_;repeat(first|refine aa_ ?_|simp only[go_sem,e1])
   refine PG_ ?_
   exact af_
 rw[if_neg k2];have n2:(x.kind==2)=false:=by simp[k2]
 by_cases k3:x.kind=3
 ·have n3:(x.kind==3)=true:=by simp[k3]
  rw[if_pos k3];have c1:=Kl_ s.sto m h.sto x.att (by have:=hx.att;omega);generalize qp_ s.sto x.att=T at *;obtain⟨T1,T2⟩:=T;dsimp only at c1 ⊢;repeat(first|refine aa_ ?_|simp only[go_sem,n1])
  refine ab_ ?_;repeat(first|refine aa_ ?_|simp only[go_sem,n2])
  refine ab_ ?_;repeat(first|refine aa_ ?_|simp only[go_sem,n3])
  refine PH_ ?_
  refine Qy_ c1 ?_
  exact af_
 rw[if_neg k3];have n3:(x.kind==3)=false:=by simp[k3]
 by_cases k4:x.kind=4
 ·have n4:(x.kind==4)=true:=by simp[k4]
  rw[if_pos k4];have c1:=FK_ s.sto m h.sto x.slg (by have:=hx.fst;omega) (by have:=hx.snd;omega);generalize iy_ s.sto x.slg=T at *;obtain⟨T1,T2⟩:=T;dsimp only at c1 ⊢;repeat(first|refine aa_ ?_|simp only[go_sem,n1])
  refine ab_ ?_;repeat(first|refine aa_ ?_|simp only[go_sem,n2])
  refine ab_ ?_;repeat(first|refine aa_ ?_|simp only[go_sem,n3])
  refine ab_ ?_;repeat(first|refine aa_ ?_|simp only[go_sem,n4])
  refine PH_ ?_
  refine Qy_ c1 ?_
  exact af_
 rw[if_neg k4];have n4:(x.kind==4)=false:=by simp[k4]
 by_cases k5:x.kind=5
 ·have n5:(x.kind==5)=true:=by simp[k5]
  rw[if_pos k5];have c1:=LP_ s.sto m h.sto x.tab (by have:=hx.tab;omega);generalize uU_ s.sto x.tab=T at *;obtain⟨T1,T2⟩:=T;dsimp only at c1 ⊢;repeat(first|refine aa_ ?_|simp only[go_sem,n1])
  refine ab_ ?_;repeat(first|refine aa_ ?_|simp only[go_sem,n2])
  refine ab_ ?_;repeat(first|refine aa_ ?_|simp only[go_sem,n3])
  refine ab_ ?_;repeat(first|refine aa_ ?_|simp only[go_sem,n4])
  refine ab_ ?_;repeat(first|refine aa_ ?_|simp only[go_sem,n5])
  refine PH_ ?_
  refine Qy_ c1 ?_
  exact af_
 rw[if_neg k5];have n5:(x.kind==5)=false:=by simp[k5]
 by_cases k6:x.kind=6
 ·have n6:(x.kind==6)=true:=by simp[k6]
  rw[if_pos k6];have c1:=JS_ s m h x.vdt;generalize qi_ s x.vdt=T at *;obtain⟨T1,T2⟩:=T;dsimp only at c1 ⊢;repeat(first|refine aa_ ?_|simp only[go_sem,n1])
  refine ab_ ?_;repeat(first|refine aa_ ?_|simp only[go_sem,n2])
  refine ab_ ?_;repeat(first|refine aa_ ?_|simp only[go_sem,n3])
  refine ab_ ?_;repeat(first|refine aa_ ?_|simp only[go_sem,n4])
  refine ab_ ?_;repeat(first|refine aa_ ?_|simp only[go_sem,n5])
  refine ab_ ?_;repeat(first|refine aa_ ?_|simp only[go_sem,n6])
  refine PH_ ?_
  refine Qy_ c1 ?_
  exact af_
 ·have n6:(x.kind==6)=false:=by simp[k6]
  rw[if_neg k6];repeat(first|refine aa_ ?_|simp only[go_sem,n1])
  refine ab_ ?_;repeat(first|refine aa_ ?_|simp only[go_sem,n2])
  refine ab_ ?_;repeat(first|refine aa_ ?_|simp only[go_sem,n3])
  refine ab_ ?_;repeat(first|refine aa_ ?_|simp only[go_sem,n4])
  refine ab_ ?_;repeat(first|refine aa_ ?_|simp only[go_sem,n5])
  refine ab_ ?_;repeat(first|refine aa_ ?_|simp only[go_sem,n6])
  refine PG_ ?_
  exact af_
theorem Jy_(s:aI_)(m:Nat)(h:dW_ s m)(hm:m<30)(x:VOp)(hx:OpR x)(hu:OpU (toV x)):PC Tryz.prog 105 [.agg (aD_ s.a),.agg (bq_ x.a)] (.tup [.agg (aD_ (qe_ s x).1.a),.sl 96 false (rows cH_ (qe_ s x).2.1),.int .i64 (qe_ s x).2.2]):=by
 refine PC.fact 12 zT_ (by simp) puA ⟨aI_.pul _,cT_ _,trivial,trivial⟩ ?_;unfold pq_;refine bd ?_;have c1:=Du_ (toV x) hu;have c2:=IL_ s m h x hx;unfold qe_
 have fin:∀ {fr:Fr} {σ:St} {l:List AV} {t:aI_} {n:Int},bV_ fr σ [.cell 4 true 252,.tmp 5,.tmp 6]=some l→fz σ (List.range σ.length) (ee_ l)=.tup [.agg (aD_ t.a),.sl 0 true [],.int .i64 n]→PQ [.cell 4 true 252,.tmp 5,.tmp 6] (.tup [.agg (aD_ t.a),.sl 96 false (rows cH_ []),.int .i64 n]) .ret fr σ:=
  fun {fr σ l t n} hl hv=>⟨l,hl,.inr ⟨_,hv,⟨aI_.pul _,trivial,trivial,trivial⟩,MK_ _ (Wk.refl _) (Wk.empty _ _ _)⟩⟩
 by_cases q0:s.halt=true
 ·rw[if_pos q0];repeat(first|refine aa_ ?_|simp only[go_sem,q0])
  refine PH_ ?_
  exact fin (by first|rfl|exact evd) (by first|rfl|exact evd)
 rw[if_neg q0];have n0:s.halt=false:=by simpa using q0
 by_cases q1:vOp (toV x)=0
 case neg=>
  have e1:(vOp (toV x) != 0)=true:=by simp[q1]
  rw[if_pos q1];generalize vOp (toV x)=V at *;repeat(first|refine aa_ ?_|simp only[go_sem,n0])
  refine PG_ ?_
  refine ah_ c1 ?_;repeat(first|refine aa_ ?_|simp only[go_sem,e1])
  refine PH_ ?_
  exact fin (by first|rfl|exact evd) (by first|rfl|exact evd)
 rw[if_neg (by simp[q1])];rw[q1]at c1;have hI:=fun hz=>h.perf hm hx (.inl hz)
 generalize iW_ s x=T at *;obtain⟨T1,T2⟩:=T;dsimp only at c2 hI ⊢;by_cases q2:T2=21
 ·have e2:(T2==21)=true:=by simp[q2]
  rw[if_pos q2];repeat(first|refine aa_ ?_|simp only[go_sem,n0])
  refine PG_ ?_
  refine Qy_ c1 ?_
  refine PG_ ?_
  refine ah_ c2 ?_;repeat(first|refine aa_ ?_|simp only[go_sem,e2])
  refine PH_ ?_
  subst q2;exact fin (by first|rfl|exact evd) (by first|rfl|exact evd)
 rw[if_neg q2];have e2:(T2==21)=false:=by simp[q2]
 by_cases q3:T2=0
 case neg=>
  have e3:(T2 != 0)=true:=by simp[q3]
  rw[if_pos q3];repeat(first|refine aa_ ?_|simp only[go_sem,n0])
  refine PG_ ?_
  refine Qy_ c1 ?_
  refine PG_ ?_
  refine ah_ c2 ?_;repeat(first|refine aa_ ?_|simp only[go_sem,e2])
  refine ab_ ?_;repeat(first|refine aa_ ?_|simp only[go_sem,e3])
  refine PH_ ?_
  exact fin (by first|rfl|exact evd) (by first|rfl|exact evd)
 rw[if_neg (by simp[q3])];subst q3;have c3:=xV_ T1 (hI rfl).sto.r;generalize lQ_ T1=E at *;obtain⟨E1,E2⟩:=E;dsimp only at c3 ⊢;repeat(first|refine aa_ ?_|simp only[go_sem,n0])
 refine PG_ ?_
 refine Qy_ c1 ?_
 refine PG_ ?_
 refine Qy_ c2 ?_
 refine PG_ ?_
 refine PG_ ?_
 refine Qy_ c3 ?_
 exact af_
end Go.Proofs.YtkgimpdgncakjaaGreat
