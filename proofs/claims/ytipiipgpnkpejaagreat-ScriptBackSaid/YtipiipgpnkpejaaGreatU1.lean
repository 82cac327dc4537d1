/-
 My texts Nf, Ng, joined.
-/
import Derived.Test.YtipiipgpnkpejaaGreatV9
import Derived.Test.YtipiipgpnkpejaaGreatV7
namespace Go.Proofs.YtipiipgpnkpejaaGreat
open Go Go.FH Go.RowKit
set_option linter.unusedVariables false
set_option linter.unusedSimpArgs false
set_option maxRecDepth 8000
set_option maxHeartbeats 4000000
theorem Op_{a b:AV}{c d:AV}(n:Int)(h1:Wk a b)(h2:Wk c d):Wk (.tup [a,c,.int .i64 n]) (.tup [b,d,.int .i64 n]):=Wk.tup ⟨h1,h2,Wk.refl _,trivial⟩
theorem Gg_(c:bV_)(hb:c.bals.length≤1000000)(hs:rf_ c=0→StR (pE_ c)):PC Tryz.prog 68 [.agg (bm_ c.a)] (.tup [.agg (aB_ (pd_ c).1.a),.sl 96 false (rows cL_ (pd_ c).2.1),.int .i64 (pd_ c).2.2]):=by
 refine PC.fact 9 yp_ (by simp) puA ⟨aN_.pul _,cX_ _,trivial,trivial⟩ ?_;unfold oI_;refine bd ?_;have c1:=MQ_ c hb;unfold pd_;unfold Kg_ at c1;by_cases q:rf_ c=0
 ·rw[if_pos q]at c1
  simp only[if_pos q]at *;have c2:=zW_ ⟨pE_ c,[],[],1,false,qt_,false,false⟩ (hs q);generalize pE_ c=S at *;generalize mH_ ⟨S,[],[],1,false,qt_,false,false⟩=E at *;obtain⟨E1,E2⟩:=E;dsimp only at c2 ⊢
  have hw:Wk (.agg (aB_ ⟨S.a,.sl 0 true [],.sl 0 true [],1,false,qt_,false,false⟩)) (.agg (aB_ (aN_.a ⟨S,[],[],1,false,qt_,false,false⟩))):=by
   refine Wk.agg ?_;unfold aN_.a aB_;dsimp only;exact(WkC.refl _).app (.cons (Wk.empty _ _ _) (fun h=>h) (.cons (Wk.empty _ _ _) (fun h=>h) (WkC.refl _)))
  have hp:PuL (aB_ ⟨S.a,.sl 0 true [],.sl 0 true [],1,false,qt_,false,false⟩):=by
   refine(Dx_ _).2 ?_;have:=S.pul;simp[Sta.Pure,Pu,dx_,(mi_ _).1 this]
  try refine aa_ ?_
  refine RV_ c1 ?_
  refine Re_ ?_
  refine jY_ c2 ⟨hw,trivial⟩ ⟨hp,trivial⟩ ?_;try refine aa_ ?_
  exact ah_
 ·rw[if_neg q]at c1;simp only[if_neg q]at *;have e1:(rf_ c != 0)=true:=by simp[q]
  try refine aa_ ?_
  refine ae_ c1 ?_;repeat(first|refine aa_ ?_|simp only[go_sem,e1])
  refine Rf_ ?_
  refine⟨_,(by first|rfl|exact evd),.inr ⟨.tup [.agg (aB_ dG_),.sl 0 true [],.int .i64 (rf_ c)],?_,⟨Dw_,trivial,trivial,trivial⟩,Op_ _ IM_ (Wk.empty _ _ _)⟩⟩;exact evd
theorem Lm_(s:aN_)(m:Nat)(h:ej_ s m)(v:Vdt):PC Tryz.prog 140 [.agg (aB_ s.a),.agg (bW_ v)] (.tup [.agg (aB_ (rI_ s v).1.a),.int .i64 (rI_ s v).2]):=by
 refine PC.fact 13 tR_ (by simp) puA ⟨aN_.pul _,trivial,trivial⟩ ?_;unfold lJ_;refine bd ?_;have hrq:=h.rq;have hii:=h.sto.ii;have c1:=Ha_ s v (by omega);unfold rI_;have hm2:(dk_ s v).2.2=0→ej_ (dk_ s v).2.1 m:=fun hz=>h.mat hz
 generalize dk_ s v=M at *;obtain⟨r,t,e⟩:=M;dsimp only at c1 hm2 ⊢;by_cases q1:e=0
 case neg=>
  have e1:(e != 0)=true:=by simp[q1]
  rw[if_pos q1];try refine aa_ ?_
  refine ae_ c1 ?_;repeat(first|refine aa_ ?_|simp only[go_sem,e1])
  refine Rf_ ?_
  exact ah_
 subst q1;rw[if_neg (by simp)];have ht:=hm2 rfl;have hy:=ht.yl;have hT:=ht.sto.r;have hbn:=hT.bn;by_cases q2:v.kind=3∨v.kind=4
 ·rw[if_pos q2]
  have c2:=GR_ t r hT (by omega);by_cases q3:v.kind=3
  ·have e3:(v.kind==3)=true:=by simp[q3]
   try refine aa_ ?_
   refine RV_ c1 ?_
   refine ab_ ?_;repeat(first|refine aa_ ?_|simp only[go_sem,e3])
   refine Rf_ ?_
   refine RV_ c2 ?_
   exact ah_
  ·have e3:(v.kind==3)=false:=by simp[q3]
   have e4:(v.kind==4)=true:=by simp[q2.resolve_left q3]
   try refine aa_ ?_
   refine RV_ c1 ?_
   refine ab_ ?_;repeat(first|refine aa_ ?_|simp only[go_sem,e3,e4])
   refine Rf_ ?_
   refine RV_ c2 ?_
   exact ah_
 rw[if_neg q2];have e3:(v.kind==3)=false:=by simp;exact fun h=>q2 (.inl h)
 have e4:(v.kind==4)=false:=by simp;exact fun h=>q2 (.inr h)
 have c2:=bJ_ t.sto.nodes t.sto.j.rt hbn;have c3:=bJ_ t.sto.nodes t.sto.f.rt hbn;have c4:=bJ_ t.sto.nodes r.block hbn;have c5:=GI_ t.sto.nodes hT.tree.ok (av_ t.sto.nodes r.block) v [av_ t.sto.nodes t.sto.j.rt,av_ t.sto.nodes t.sto.f.rt] hbn (by simp);have hj:Cm_ t.sto r.block v=gu_ t.sto.nodes (av_ t.sto.nodes r.block) v [av_ t.sto.nodes t.sto.j.rt,av_ t.sto.nodes t.sto.f.rt]:=rfl;have hup:=fun hz=>EC_ (t:=t.sto.nodes) (i:=av_ t.sto.nodes r.block) (v:=v) (keep:=[av_ t.sto.nodes t.sto.j.rt,av_ t.sto.nodes t.sto.f.rt]) hz
 rw[hj];clear hj;have hnums:∀a b:Int,[[AV.int .i64 a],[AV.int .i64 b]]=aq_ .i64 [a,b]:=fun _ _=>rfl
 generalize av_ t.sto.nodes t.sto.j.rt=J at *;generalize av_ t.sto.nodes t.sto.f.rt=F at *;generalize av_ t.sto.nodes r.block=B at *;generalize gu_ t.sto.nodes B v [J,F]=U at *;obtain⟨U1,U2⟩:=U;dsimp only at c5 hup ⊢;by_cases q3:U2=0
 case neg=>
  have e5:(U2 != 0)=true:=by simp[q3]
  rw[if_pos q3];try refine aa_ ?_
  refine RV_ c1 ?_
  refine ab_ ?_;repeat(first|refine aa_ ?_|simp only[go_sem,e3,e4])
  refine Re_ ?_
  refine ay_ (c2) ?_;try refine aa_ ?_
  refine ay_ (c3) ?_;repeat(first|refine aa_ ?_|simp only[go_sem,hnums])
  refine ay_ (c4) ?_;try refine aa_ ?_
  refine ay_ (c5) ?_;repeat(first|refine aa_ ?_|simp only[go_sem,e5])
  refine Rf_ ?_
  exact ah_
 subst q3;rw[if_neg (by simp)];have hlen:U1.length≤1000000:=by have:=(hup rfl).1;omega
 have c6:=bJ_ U1 t.sto.boost hlen;have b6:=dE_ U1 t.sto.boost;have hbv:boostV (dg_ t.sto U1)=if 0≤av_ U1 t.sto.boost∧(nod U1 (av_ U1 t.sto.boost).toNat).status=2 then withB (dg_ t.sto U1) rt0 else dg_ t.sto U1:=rfl
 rw[hbv];clear hbv;generalize av_ U1 t.sto.boost=I at *;by_cases q4:0≤I
 ·have e6:decide (0≤I)=true:=decide_eq_true q4
  have hg:=bQ_ (t:=U1) (i:=I.toNat) (by omega);by_cases q5:(nod U1 I.toNat).status=2
  ·have e7:((nod U1 I.toNat).status==2)=true:=by simp[q5]
   rw[if_pos ⟨q4,q5⟩];try refine aa_ ?_
   refine RV_ c1 ?_
   refine ab_ ?_;repeat(first|refine aa_ ?_|simp only[go_sem,e3,e4])
   refine Re_ ?_
   refine ay_ (c2) ?_;try refine aa_ ?_
   refine ay_ (c3) ?_;repeat(first|refine aa_ ?_|simp only[go_sem,hnums])
   refine ay_ (c4) ?_;try refine aa_ ?_
   refine ay_ (c5) ?_;try refine aa_ ?_
   refine Re_ ?_
   refine ae_ c6 ?_;repeat(first|refine aa_ ?_|simp only[go_sem,e6,hg,e7])
   refine Rf_ ?_
   exact ah_
  ·have e7:((nod U1 I.toNat).status==2)=false:=by simp[q5]
   rw[if_neg (fun h=>q5 h.2)];try refine aa_ ?_
   refine RV_ c1 ?_
   refine ab_ ?_;repeat(first|refine aa_ ?_|simp only[go_sem,e3,e4])
   refine Re_ ?_
   refine ay_ (c2) ?_;try refine aa_ ?_
   refine ay_ (c3) ?_;repeat(first|refine aa_ ?_|simp only[go_sem,hnums])
   refine ay_ (c4) ?_;try refine aa_ ?_
   refine ay_ (c5) ?_;try refine aa_ ?_
   refine Re_ ?_
   refine ae_ c6 ?_;repeat(first|refine aa_ ?_|simp only[go_sem,e6,hg,e7])
   refine Re_ ?_
   exact ah_
 ·have e6:decide (0≤I)=false:=decide_eq_false q4;rw[if_neg (fun h=>q4 h.1)];try refine aa_ ?_
  refine RV_ c1 ?_
  refine ab_ ?_;repeat(first|refine aa_ ?_|simp only[go_sem,e3,e4])
  refine Re_ ?_
  refine ay_ (c2) ?_;try refine aa_ ?_
  refine ay_ (c3) ?_;repeat(first|refine aa_ ?_|simp only[go_sem,hnums])
  refine ay_ (c4) ?_;try refine aa_ ?_
  refine ay_ (c5) ?_;try refine aa_ ?_
  refine Re_ ?_
  refine ae_ c6 ?_;repeat(first|refine aa_ ?_|simp only[go_sem,e6])
  refine Re_ ?_
  exact ah_
theorem Ko_(s:aN_)(m:Nat)(h:ej_ s m)(x:VOp)(hx:OpR x):PC Tryz.prog 114 [.agg (aB_ s.a),.agg (aI_ x.a)] (.tup [.agg (aB_ (jC_ s x).1.a),.int .i64 (jC_ s x).2]):=by
 refine PC.fact 9 tQ_ (by simp) puA ⟨aN_.pul _,trivial,trivial⟩ ?_;unfold lI_;refine bd ?_;have hrq:=h.rq;have hii:=h.sto.ii;have hyl:=h.yl;unfold jC_;by_cases k1:x.kind=1
 ·have n1:(x.kind==1)=true:=by simp[k1]
  rw[if_pos k1];have c1:=Lg_ s.sto m h.sto;have hI:=fun hz=>h.sto.tick (s:=s.sto) hz
  generalize jI_ s.sto=T at *;obtain⟨T1,T2⟩:=T;dsimp only at c1 hI ⊢;by_cases q:T2=0
  ·subst q;have hT:=(hI rfl).r;have c2:=zU_ (eE_ s T1) hT (by show s.reqs.length≤_;omega) (by show s.rets.length≤_;omega);have hd1:=(mW_ (eE_ s T1).sto.nodes (eE_ s T1).reqs).1;have hd2:=(mW_ (eE_ s T1).sto.nodes (eE_ s T1).rets).1;have hd3:(eE_ s T1).reqs.length=s.reqs.length:=rfl;have hd4:(eE_ s T1).rets.length=s.rets.length:=rfl;have c3:=Mg_ (vo_ (eE_ s T1)) hT (by show (iM_ _ _).length+(iM_ _ _).length≤_;omega);rw[if_pos rfl];repeat(first|refine aa_ ?_|simp only[go_sem,n1])
   refine Rf_ ?_
   refine RV_ c1 ?_
   refine Rf_ ?_
   refine RV_ c2 ?_
   refine RV_ c3 ?_
   exact ah_
  ·have e1:(T2==0)=false:=by simp[q]
   rw[if_neg q];repeat(first|refine aa_ ?_|simp only[go_sem,n1])
   refine Rf_ ?_
   refine ae_ c1 ?_;repeat(first|refine aa_ ?_|simp only[go_sem,e1])
   refine Re_ ?_
   exact ah_
 rw[if_neg k1];have n1:(x.kind==1)=false:=by simp[k1]
 by_cases k2:x.kind=2
 ·have n2:(x.kind==2)=true:=by simp[k2]
  rw[if_pos k2];have c1:=Gi_ s.sto m h.sto x.blk hx.blk;have hI:=fun hz=>h.sto.block hx.blk hz
  generalize dL_ s.sto x.blk=T at *;obtain⟨T1,T2,T3⟩:=T;dsimp only at c1 hI ⊢;by_cases q:T3=0
  ·subst q;have hT:=(hI rfl).1.r;have hl:=(hI rfl).2;have c2:=zU_ (eE_ s T1) hT (by show s.reqs.length≤_;omega) (by show s.rets.length≤_;omega);have hd1:=(mW_ (eE_ s T1).sto.nodes (eE_ s T1).reqs).1;have hd3:(eE_ s T1).reqs.length=s.reqs.length:=rfl;have c3:=Hg_ (vo_ (eE_ s T1)) T2 hT (by show (iM_ _ _).length+_≤_;omega);rw[if_pos rfl];repeat(first|refine aa_ ?_|simp only[go_sem,n1])
   refine ab_ ?_;repeat(first|refine aa_ ?_|simp only[go_sem,n2])
   refine Rf_ ?_
   refine RV_ c1 ?_
   refine Rf_ ?_
   refine RV_ c2 ?_
   refine RV_ c3 ?_
   exact ah_
  ·have e1:(T3==0)=false:=by simp[q]
   rw[if_neg q];repeat(first|refine aa_ ?_|simp only[go_sem,n1])
   refine ab_ ?_;repeat(first|refine aa_ ?_|simp only[go_sem,n2])
   refine Rf_ ?_
   refine ae_ c1 ?_;repeat(first|refine aa_ ?_|simp only[go_sem,e1])
   refine Re_ ?_
   exact ah_
 rw[if_neg k2];have n2:(x.kind==2)=false:=by simp[k2]
 by_cases k3:x.kind=3
 ·have n3:(x.kind==3)=true:=by simp[k3]
  rw[if_pos k3];have c1:=LF_ s.sto m h.sto x.att (by have:=hx.att;omega);generalize rO_ s.sto x.att=T at *;obtain⟨T1,T2⟩:=T;dsimp only at c1 ⊢;repeat(first|refine aa_ ?_|simp only[go_sem,n1])
  refine ab_ ?_;repeat(first|refine aa_ ?_|simp only[go_sem,n2])
  refine ab_ ?_;repeat(first|refine aa_ ?_|simp only[go_sem,n3])
  refine Rf_ ?_
  refine RV_ c1 ?_
  exact ah_
 rw[if_neg k3];have n3:(x.kind==3)=false:=by simp[k3]
 by_cases k4:x.kind=4
 ·have n4:(x.kind==4)=true:=by simp[k4]
  rw[if_pos k4];have c1:=HA_ s.sto m h.sto x.slg (by have:=hx.fst;omega) (by have:=hx.snd;omega);generalize iY_ s.sto x.slg=T at *;obtain⟨T1,T2⟩:=T;dsimp only at c1 ⊢;repeat(first|refine aa_ ?_|simp only[go_sem,n1])
  refine ab_ ?_;repeat(first|refine aa_ ?_|simp only[go_sem,n2])
  refine ab_ ?_;repeat(first|refine aa_ ?_|simp only[go_sem,n3])
  refine ab_ ?_;repeat(first|refine aa_ ?_|simp only[go_sem,n4])
  refine Rf_ ?_
  refine RV_ c1 ?_
  exact ah_
 rw[if_neg k4];have n4:(x.kind==4)=false:=by simp[k4]
 by_cases k5:x.kind=5
 ·have n5:(x.kind==5)=true:=by simp[k5]
  rw[if_pos k5];have c1:=Nq_ s.sto m h.sto x.tab (by have:=hx.tab;omega);generalize wH_ s.sto x.tab=T at *;obtain⟨T1,T2⟩:=T;dsimp only at c1 ⊢;repeat(first|refine aa_ ?_|simp only[go_sem,n1])
  refine ab_ ?_;repeat(first|refine aa_ ?_|simp only[go_sem,n2])
  refine ab_ ?_;repeat(first|refine aa_ ?_|simp only[go_sem,n3])
  refine ab_ ?_;repeat(first|refine aa_ ?_|simp only[go_sem,n4])
  refine ab_ ?_;repeat(first|refine aa_ ?_|simp only[go_sem,n5])
  refine Rf_ ?_
  refine RV_ c1 ?_
  exact ah_
 rw[if_neg k5];have n5:(x.kind==5)=false:=by simp[k5]
 by_cases k6:x.kind=6
 ·have n6:(x.kind==6)=true:=by simp[k6]
  rw[if_pos k6];have c1:=Lm_ s m h x.vdt;generalize rI_ s x.vdt=T at *;obtain⟨T1,T2⟩:=T;dsimp only at c1 ⊢;repeat(first|refine aa_ ?_|simp only[go_sem,n1])
  refine ab_ ?_;repeat(first|refine aa_ ?_|simp only[go_sem,n2])
  refine ab_ ?_;repeat(first|refine aa_ ?_|simp only[go_sem,n3])
  refine ab_ ?_;repeat(first|refine aa_ ?_|simp only[go_sem,n4])
  refine ab_ ?_;repeat(first|refine aa_ ?_|simp only[go_sem,n5])
  refine ab_ ?_;repeat(first|refine aa_ ?_|simp only[go_sem,n6])
  refine Rf_ ?_
  refine RV_ c1 ?_
  exact ah_
 ·have n6:(x.kind==6)=false:=by simp[k6]
  rw[if_neg k6];repeat(first|refine aa_ ?_|simp only[go_sem,n1])
  refine ab_ ?_;repeat(first|refine aa_ ?_|simp only[go_sem,n2])
  refine ab_ ?_;repeat(first|refine aa_ ?_|simp only[go_sem,n3])
  refine ab_ ?_;repeat(first|refine aa_ ?_|simp only[go_sem,n4])
  refine ab_ ?_;repeat(first|refine aa_ ?_|simp only[go_sem,n5])
  refine ab_ ?_;repeat(first|refine aa_ ?_|simp only[go_sem,n6])
  refine Re_ ?_
  exact ah_
theorem KX_(s:aN_)(m:Nat)(h:ej_ s m)(hm:m<30)(x:VOp)(hx:OpR x)(hu:OpU (toV x)):PC Tryz.prog 71 [.agg (aB_ s.a),.agg (aI_ x.a)] (.tup [.agg (aB_ (rB_ s x).1.a),.sl 96 false (rows cL_ (rB_ s x).2.1),.int .i64 (rB_ s x).2.2]):=by
 refine PC.fact 12 Cf_ (by simp) puA ⟨aN_.pul _,cX_ _,trivial,trivial⟩ ?_;unfold qn_;refine bd ?_;have c1:=ns_ (toV x) hu;have c2:=Ko_ s m h x hx;unfold rB_
 have fin:∀ {fr:Fr} {σ:St} {l:List AV} {t:aN_} {n:Int},cg_ fr σ [.cell 4 true 252,.tmp 5,.tmp 6]=some l→fz σ (List.range σ.length) (es_ l)=.tup [.agg (aB_ t.a),.sl 0 true [],.int .i64 n]→PQ [.cell 4 true 252,.tmp 5,.tmp 6] (.tup [.agg (aB_ t.a),.sl 96 false (rows cL_ []),.int .i64 n]) .ret fr σ:=
  fun {fr σ l t n} hl hv=>⟨l,hl,.inr ⟨_,hv,⟨aN_.pul _,trivial,trivial,trivial⟩,Op_ _ (Wk.refl _) (Wk.empty _ _ _)⟩⟩
 by_cases q0:s.halt=true
 ·rw[if_pos q0];repeat(first|refine aa_ ?_|simp only[go_sem,q0])
  refine Rf_ ?_
  exact fin (by first|rfl|exact evd) (by first|rfl|exact evd)
 rw[if_neg q0];have n0:s.halt=false:=by simpa using q0
 by_cases q1:vOp (toV x)=0
 case neg=>
  have e1:(vOp (toV x) != 0)=true:=by simp[q1]
  rw[if_pos q1];generalize vOp (toV x)=V at *;repeat(first|refine aa_ ?_|simp only[go_sem,n0])
  refine Re_ ?_
  refine ae_ c1 ?_;repeat(first|refine aa_ ?_|simp only[go_sem,e1])
  refine Rf_ ?_
  exact fin (by first|rfl|exact evd) (by first|rfl|exact evd)
 rw[if_neg (by simp[q1])];rw[q1]at c1;have hI:=fun hz=>h.perf hm hx (.inl hz)
 generalize jC_ s x=T at *;obtain⟨T1,T2⟩:=T;dsimp only at c2 hI ⊢;by_cases q2:T2=21
 ·have e2:(T2==21)=true:=by simp[q2]
  rw[if_pos q2];repeat(first|refine aa_ ?_|simp only[go_sem,n0])
  refine Re_ ?_
  refine RV_ c1 ?_
  refine Re_ ?_
  refine ae_ c2 ?_;repeat(first|refine aa_ ?_|simp only[go_sem,e2])
  refine Rf_ ?_
  subst q2;exact fin (by first|rfl|exact evd) (by first|rfl|exact evd)
 rw[if_neg q2];have e2:(T2==21)=false:=by simp[q2]
 by_cases q3:T2=0
 case neg=>
  have e3:(T2 != 0)=true:=by simp[q3]
  rw[if_pos q3];repeat(first|refine aa_ ?_|simp only[go_sem,n0])
  refine Re_ ?_
  refine RV_ c1 ?_
  refine Re_ ?_
  refine ae_ c2 ?_;repeat(first|refine aa_ ?_|simp only[go_sem,e2])
  refine ab_ ?_;repeat(first|refine aa_ ?_|simp only[go_sem,e3])
  refine Rf_ ?_
  exact fin (by first|rfl|exact evd) (by first|rfl|exact evd)
 rw[if_neg (by simp[q3])];subst q3;have c3:=zW_ T1 (hI rfl).sto.r;generalize mH_ T1=E at *;obtain⟨E1,E2⟩:=E;dsimp only at c3 ⊢;repeat(first|refine aa_ ?_|simp only[go_sem,n0])
 refine Re_ ?_
 refine RV_ c1 ?_
 refine Re_ ?_
 refine RV_ c2 ?_
 refine Re_ ?_
 refine Re_ ?_
 refine RV_ c3 ?_
 exact ah_
end Go.Proofs.YtipiipgpnkpejaaGreat
