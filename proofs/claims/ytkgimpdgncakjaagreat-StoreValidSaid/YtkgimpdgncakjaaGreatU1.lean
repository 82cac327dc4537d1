/-
 My texts Nf, Ng, joined.
-/
import Derived.Test.YtkgimpdgncakjaaGreatV9
import Derived.Test.YtkgimpdgncakjaaGreatV7
namespace Go.Proofs.YtkgimpdgncakjaaGreat
open Go Go.FH Go.RowKit
set_option linter.unusedVariables false
set_option linter.unusedSimpArgs false
set_option maxRecDepth 8000
set_option maxHeartbeats 4000000
theorem Of_{a b:AV}{c d:AV}(n:Int)(h1:Wk a b)(h2:Wk c d):Wk (.tup [a,c,.int .i64 n]) (.tup [b,d,.int .i64 n]):=Wk.tup ⟨h1,h2,Wk.refl _,trivial⟩
theorem Fw_(c:bu_)(hb:c.bals.length≤1000000)(hs:eR_ c=0→StR (dn_ c)):PC Tryz.prog 102 [.agg (bn_ c.a)] (.tup [.agg (aI_ (jK_ c).1.a),.sl 96 false (rows db_ (jK_ c).2.1),.int .i64 (jK_ c).2.2]):=by
 refine PC.fact 9 xH_ (by simp) puA ⟨aG_.pul _,dk_ _,trivial,trivial⟩ ?_;unfold oD_;refine bd ?_;have c1:=Ee_ c hb;unfold jK_;unfold qQ_ at c1;by_cases q:eR_ c=0
 ·rw[if_pos q]at c1
  simp only[if_pos q]at *;have c2:=zh_ ⟨dn_ c,[],[],1,false,rs_,false,false⟩ (hs q);generalize dn_ c=S at *;generalize hq_ ⟨S,[],[],1,false,rs_,false,false⟩=E at *;obtain⟨E1,E2⟩:=E;dsimp only at c2 ⊢
  have hw:Wk (.agg (aI_ ⟨S.a,.sl 0 true [],.sl 0 true [],1,false,rs_,false,false⟩)) (.agg (aI_ (aG_.a ⟨S,[],[],1,false,rs_,false,false⟩))):=by
   refine Wk.agg ?_;unfold aG_.a aI_;dsimp only;exact(WkC.refl _).app (.cons (Wk.empty _ _ _) (fun h=>h) (.cons (Wk.empty _ _ _) (fun h=>h) (WkC.refl _)))
  have hp:PuL (aI_ ⟨S.a,.sl 0 true [],.sl 0 true [],1,false,rs_,false,false⟩):=by
   refine(CM_ _).2 ?_;have:=S.pul;simp[Sta.Pure,Pu,dH_,(ha_ _).1 this]
  try refine aa_ ?_
  refine So_ c1 ?_
  refine Rh_ ?_
  refine iW_ c2 ⟨hw,trivial⟩ ⟨hp,trivial⟩ ?_;try refine aa_ ?_
  exact ae_
 ·rw[if_neg q]at c1;simp only[if_neg q]at *;have e1:(eR_ c != 0)=true:=by simp[q]
  try refine aa_ ?_
  refine aj_ c1 ?_;repeat(first|refine aa_ ?_|simp only[go_sem,e1])
  refine Ri_ ?_
  refine⟨_,(by first|rfl|exact evd),.inr ⟨.tup [.agg (aI_ lO_),.sl 0 true [],.int .i64 (eR_ c)],?_,⟨CL_,trivial,trivial,trivial⟩,Of_ _ ID_ (Wk.empty _ _ _)⟩⟩;exact evd
theorem Ls_(s:aG_)(m:Nat)(h:dT_ s m)(v:Vdt):PC Tryz.prog 218 [.agg (aI_ s.a),.agg (cG_ v)] (.tup [.agg (aI_ (jG_ s v).1.a),.int .i64 (jG_ s v).2]):=by
 refine PC.fact 13 tl_ (by simp) puA ⟨aG_.pul _,trivial,trivial⟩ ?_;unfold lt_;refine bd ?_;have hrq:=h.rq;have hii:=h.sto.ii;have c1:=Gz_ s v (by omega);unfold jG_;have hm2:(bX_ s v).2.2=0→dT_ (bX_ s v).2.1 m:=fun hz=>h.mat hz
 generalize bX_ s v=M at *;obtain⟨r,t,e⟩:=M;dsimp only at c1 hm2 ⊢;by_cases q1:e=0
 case neg=>
  have e1:(e != 0)=true:=by simp[q1]
  rw[if_pos q1];try refine aa_ ?_
  refine aj_ c1 ?_;repeat(first|refine aa_ ?_|simp only[go_sem,e1])
  refine Ri_ ?_
  exact ae_
 subst q1;rw[if_neg (by simp)];have ht:=hm2 rfl;have hy:=ht.yl;have hT:=ht.sto.r;have hbn:=hT.bn;by_cases q2:v.kind=3∨v.kind=4
 ·rw[if_pos q2]
  have c2:=Gt_ t r hT (by omega);by_cases q3:v.kind=3
  ·have e3:(v.kind==3)=true:=by simp[q3]
   try refine aa_ ?_
   refine So_ c1 ?_
   refine ab_ ?_;repeat(first|refine aa_ ?_|simp only[go_sem,e3])
   refine Ri_ ?_
   refine So_ c2 ?_
   exact ae_
  ·have e3:(v.kind==3)=false:=by simp[q3]
   have e4:(v.kind==4)=true:=by simp[q2.resolve_left q3]
   try refine aa_ ?_
   refine So_ c1 ?_
   refine ab_ ?_;repeat(first|refine aa_ ?_|simp only[go_sem,e3,e4])
   refine Ri_ ?_
   refine So_ c2 ?_
   exact ae_
 rw[if_neg q2];have e3:(v.kind==3)=false:=by simp;exact fun h=>q2 (.inl h)
 have e4:(v.kind==4)=false:=by simp;exact fun h=>q2 (.inr h)
 have c2:=bg_ t.sto.nodes t.sto.j.rt hbn;have c3:=bg_ t.sto.nodes t.sto.f.rt hbn;have c4:=bg_ t.sto.nodes r.block hbn;have c5:=Gl_ t.sto.nodes hT.tree.ok (af_ t.sto.nodes r.block) v [af_ t.sto.nodes t.sto.j.rt,af_ t.sto.nodes t.sto.f.rt] hbn (by simp);have hj:judgeV t.sto r.block v=fd_ t.sto.nodes (af_ t.sto.nodes r.block) v [af_ t.sto.nodes t.sto.j.rt,af_ t.sto.nodes t.sto.f.rt]:=rfl;have hup:=fun hz=>vy_ (t:=t.sto.nodes) (i:=af_ t.sto.nodes r.block) (v:=v) (keep:=[af_ t.sto.nodes t.sto.j.rt,af_ t.sto.nodes t.sto.f.rt]) hz
 rw[hj];clear hj;have hnums:∀a b:Int,[[AV.int .i64 a],[AV.int .i64 b]]=aq_ .i64 [a,b]:=fun _ _=>rfl
 generalize af_ t.sto.nodes t.sto.j.rt=J at *;generalize af_ t.sto.nodes t.sto.f.rt=F at *;generalize af_ t.sto.nodes r.block=B at *;generalize fd_ t.sto.nodes B v [J,F]=U at *;obtain⟨U1,U2⟩:=U;dsimp only at c5 hup ⊢;by_cases q3:U2=0
 case neg=>
  have e5:(U2 != 0)=true:=by simp[q3]
  rw[if_pos q3];try refine aa_ ?_
  refine So_ c1 ?_
  refine ab_ ?_;repeat(first|refine aa_ ?_|simp only[go_sem,e3,e4])
  refine Rh_ ?_
  refine ao_ (c2) ?_;try refine aa_ ?_
  refine ao_ (c3) ?_;repeat(first|refine aa_ ?_|simp only[go_sem,hnums])
  refine ao_ (c4) ?_;try refine aa_ ?_
  refine ao_ (c5) ?_;repeat(first|refine aa_ ?_|simp only[go_sem,e5])
  refine Ri_ ?_
  exact ae_
 subst q3;rw[if_neg (by simp)];have hlen:U1.length≤1000000:=by have:=(hup rfl).1;omega
 have c6:=bg_ U1 t.sto.boost hlen;have b6:=cH_ U1 t.sto.boost;have hbv:boostV (ck_ t.sto U1)=if 0≤af_ U1 t.sto.boost∧(nod U1 (af_ U1 t.sto.boost).toNat).status=2 then withB (ck_ t.sto U1) rt0 else ck_ t.sto U1:=rfl
 rw[hbv];clear hbv;generalize af_ U1 t.sto.boost=I at *;by_cases q4:0≤I
 ·have e6:decide (0≤I)=true:=decide_eq_true q4
  have hg:=bR_ (t:=U1) (i:=I.toNat) (by omega);by_cases q5:(nod U1 I.toNat).status=2
  ·have e7:((nod U1 I.toNat).status==2)=true:=by simp[q5]
   rw[if_pos ⟨q4,q5⟩];try refine aa_ ?_
   refine So_ c1 ?_
   refine ab_ ?_;repeat(first|refine aa_ ?_|simp only[go_sem,e3,e4])
   refine Rh_ ?_
   refine ao_ (c2) ?_;try refine aa_ ?_
   refine ao_ (c3) ?_;repeat(first|refine aa_ ?_|simp only[go_sem,hnums])
   refine ao_ (c4) ?_;try refine aa_ ?_
   refine ao_ (c5) ?_;try refine aa_ ?_
   refine Rh_ ?_
   refine aj_ c6 ?_;repeat(first|refine aa_ ?_|simp only[go_sem,e6,hg,e7])
   refine Ri_ ?_
   exact ae_
  ·have e7:((nod U1 I.toNat).status==2)=false:=by simp[q5]
   rw[if_neg (fun h=>q5 h.2)];try refine aa_ ?_
   refine So_ c1 ?_
   refine ab_ ?_;repeat(first|refine aa_ ?_|simp only[go_sem,e3,e4])
   refine Rh_ ?_
   refine ao_ (c2) ?_;try refine aa_ ?_
   refine ao_ (c3) ?_;repeat(first|refine aa_ ?_|simp only[go_sem,hnums])
   refine ao_ (c4) ?_;try refine aa_ ?_
   refine ao_ (c5) ?_;try refine aa_ ?_
   refine Rh_ ?_
   refine aj_ c6 ?_;repeat(first|refine aa_ ?_|simp only[go_sem,e6,hg,e7])
   refine Rh_ ?_
   exact ae_
 ·have e6:decide (0≤I)=false:=decide_eq_false q4;rw[if_neg (fun h=>q4 h.1)];try refine aa_ ?_
  refine So_ c1 ?_
  refine ab_ ?_;repeat(first|refine aa_ ?_|simp only[go_sem,e3,e4])
  refine Rh_ ?_
  refine ao_ (c2) ?_;try refine aa_ ?_
  refine ao_ (c3) ?_;repeat(first|refine aa_ ?_|simp only[go_sem,hnums])
  refine ao_ (c4) ?_;try refine aa_ ?_
  refine ao_ (c5) ?_;try refine aa_ ?_
  refine Rh_ ?_
  refine aj_ c6 ?_;repeat(first|refine aa_ ?_|simp only[go_sem,e6])
  refine Rh_ ?_
  exact ae_
theorem Ko_(s:aG_)(m:Nat)(h:dT_ s m)(x:VOp)(hx:OpR x):PC Tryz.prog 175 [.agg (aI_ s.a),.agg (bL_ x.a)] (.tup [.agg (aI_ (es_ s x).1.a),.int .i64 (es_ s x).2]):=by
 refine PC.fact 9 tk_ (by simp) puA ⟨aG_.pul _,trivial,trivial⟩ ?_;unfold ls_;refine bd ?_;have hrq:=h.rq;have hii:=h.sto.ii;have hyl:=h.yl;unfold es_;by_cases k1:x.kind=1
 ·have n1:(x.kind==1)=true:=by simp[k1]
  rw[if_pos k1];have c1:=Lj_ s.sto m h.sto;have hI:=fun hz=>h.sto.tick (s:=s.sto) hz
  generalize dF_ s.sto=T at *;obtain⟨T1,T2⟩:=T;dsimp only at c1 hI ⊢;by_cases q:T2=0
  ·subst q;have hT:=(hI rfl).r;have c2:=zg_ (dS_ s T1) hT (by show s.reqs.length≤_;omega) (by show s.rets.length≤_;omega);have hd1:=(mR_ (dS_ s T1).sto.nodes (dS_ s T1).reqs).1;have hd2:=(mR_ (dS_ s T1).sto.nodes (dS_ s T1).rets).1;have hd3:(dS_ s T1).reqs.length=s.reqs.length:=rfl;have hd4:(dS_ s T1).rets.length=s.rets.length:=rfl;have c3:=Mm_ (mz_ (dS_ s T1)) hT (by show (iS_ _ _).length+(iS_ _ _).length≤_;omega);rw[if_pos rfl];repeat(first|refine aa_ ?_|simp only[go_sem,n1])
   refine Ri_ ?_
   refine So_ c1 ?_
   refine Ri_ ?_
   refine So_ c2 ?_
   refine So_ c3 ?_
   exact ae_
  ·have e1:(T2==0)=false:=by simp[q]
   rw[if_neg q];repeat(first|refine aa_ ?_|simp only[go_sem,n1])
   refine Ri_ ?_
   refine aj_ c1 ?_;repeat(first|refine aa_ ?_|simp only[go_sem,e1])
   refine Rh_ ?_
   exact ae_
 rw[if_neg k1];have n1:(x.kind==1)=false:=by simp[k1]
 by_cases k2:x.kind=2
 ·have n2:(x.kind==2)=true:=by simp[k2]
  rw[if_pos k2];have c1:=Fy_ s.sto m h.sto x.blk (hx.blk.up (Nat.zero_le m));have hI:=fun hz=>h.sto.block (hx.blk.up (Nat.zero_le m)) hz
  generalize co_ s.sto x.blk=T at *;obtain⟨T1,T2,T3⟩:=T;dsimp only at c1 hI ⊢;by_cases q:T3=0
  ·subst q;have hT:=(hI rfl).1.r;have hl:=(hI rfl).2;have c2:=zg_ (dS_ s T1) hT (by show s.reqs.length≤_;omega) (by show s.rets.length≤_;omega);have hd1:=(mR_ (dS_ s T1).sto.nodes (dS_ s T1).reqs).1;have hd3:(dS_ s T1).reqs.length=s.reqs.length:=rfl;have c3:=GD_ (mz_ (dS_ s T1)) T2 hT (by show (iS_ _ _).length+_≤_;omega);rw[if_pos rfl];repeat(first|refine aa_ ?_|simp only[go_sem,n1])
   refine ab_ ?_;repeat(first|refine aa_ ?_|simp only[go_sem,n2])
   refine Ri_ ?_
   refine So_ c1 ?_
   refine Ri_ ?_
   refine So_ c2 ?_
   refine So_ c3 ?_
   exact ae_
  ·have e1:(T3==0)=false:=by simp[q]
   rw[if_neg q];repeat(first|refine aa_ ?_|simp only[go_sem,n1])
   refine ab_ ?_;repeat(first|refine aa_ ?_|simp only[go_sem,n2])
   refine Ri_ ?_
   refine aj_ c1 ?_;repeat(first|refine aa_ ?_|simp only[go_sem,e1])
   refine Rh_ ?_
   exact ae_
 rw[if_neg k2];have n2:(x.kind==2)=false:=by simp[k2]
 by_cases k3:x.kind=3
 ·have n3:(x.kind==3)=true:=by simp[k3]
  rw[if_pos k3];have c1:=LL_ s.sto m h.sto x.att (by have:=hx.att;omega);generalize kH_ s.sto x.att=T at *;obtain⟨T1,T2⟩:=T;dsimp only at c1 ⊢;repeat(first|refine aa_ ?_|simp only[go_sem,n1])
  refine ab_ ?_;repeat(first|refine aa_ ?_|simp only[go_sem,n2])
  refine ab_ ?_;repeat(first|refine aa_ ?_|simp only[go_sem,n3])
  refine Ri_ ?_
  refine So_ c1 ?_
  exact ae_
 rw[if_neg k3];have n3:(x.kind==3)=false:=by simp[k3]
 by_cases k4:x.kind=4
 ·have n4:(x.kind==4)=true:=by simp[k4]
  rw[if_pos k4];have c1:=Hj_ s.sto m h.sto x.slg (by have:=hx.fst;omega) (by have:=hx.snd;omega);generalize eI_ s.sto x.slg=T at *;obtain⟨T1,T2⟩:=T;dsimp only at c1 ⊢;repeat(first|refine aa_ ?_|simp only[go_sem,n1])
  refine ab_ ?_;repeat(first|refine aa_ ?_|simp only[go_sem,n2])
  refine ab_ ?_;repeat(first|refine aa_ ?_|simp only[go_sem,n3])
  refine ab_ ?_;repeat(first|refine aa_ ?_|simp only[go_sem,n4])
  refine Ri_ ?_
  refine So_ c1 ?_
  exact ae_
 rw[if_neg k4];have n4:(x.kind==4)=false:=by simp[k4]
 by_cases k5:x.kind=5
 ·have n5:(x.kind==5)=true:=by simp[k5]
  rw[if_pos k5];have c1:=Nj_ s.sto m h.sto x.tab (by have:=hx.tab;omega);generalize ne_ s.sto x.tab=T at *;obtain⟨T1,T2⟩:=T;dsimp only at c1 ⊢;repeat(first|refine aa_ ?_|simp only[go_sem,n1])
  refine ab_ ?_;repeat(first|refine aa_ ?_|simp only[go_sem,n2])
  refine ab_ ?_;repeat(first|refine aa_ ?_|simp only[go_sem,n3])
  refine ab_ ?_;repeat(first|refine aa_ ?_|simp only[go_sem,n4])
  refine ab_ ?_;repeat(first|refine aa_ ?_|simp only[go_sem,n5])
  refine Ri_ ?_
  refine So_ c1 ?_
  exact ae_
 rw[if_neg k5];have n5:(x.kind==5)=false:=by simp[k5]
 by_cases k6:x.kind=6
 ·have n6:(x.kind==6)=true:=by simp[k6]
  rw[if_pos k6];have c1:=Ls_ s m h x.vdt;generalize jG_ s x.vdt=T at *;obtain⟨T1,T2⟩:=T;dsimp only at c1 ⊢;repeat(first|refine aa_ ?_|simp only[go_sem,n1])
  refine ab_ ?_;repeat(first|refine aa_ ?_|simp only[go_sem,n2])
  refine ab_ ?_;repeat(first|refine aa_ ?_|simp only[go_sem,n3])
  refine ab_ ?_;repeat(first|refine aa_ ?_|simp only[go_sem,n4])
  refine ab_ ?_;repeat(first|refine aa_ ?_|simp only[go_sem,n5])
  refine ab_ ?_;repeat(first|refine aa_ ?_|simp only[go_sem,n6])
  refine Ri_ ?_
  refine So_ c1 ?_
  exact ae_
 ·have n6:(x.kind==6)=false:=by simp[k6]
  rw[if_neg k6];repeat(first|refine aa_ ?_|simp only[go_sem,n1])
  refine ab_ ?_;repeat(first|refine aa_ ?_|simp only[go_sem,n2])
  refine ab_ ?_;repeat(first|refine aa_ ?_|simp only[go_sem,n3])
  refine ab_ ?_;repeat(first|refine aa_ ?_|simp only[go_sem,n4])
  refine ab_ ?_;repeat(first|refine aa_ ?_|simp only[go_sem,n5])
  refine ab_ ?_;repeat(first|refine aa_ ?_|simp only[go_sem,n6])
  refine Rh_ ?_
  exact ae_
theorem KU_(s:aG_)(m:Nat)(h:dT_ s m)(hm:m<30)(x:VOp)(hx:OpR x)(hu:OpU (toV x)):PC Tryz.prog 105 [.agg (aI_ s.a),.agg (bL_ x.a)] (.tup [.agg (aI_ (jb_ s x).1.a),.sl 96 false (rows db_ (jb_ s x).2.1),.int .i64 (jb_ s x).2.2]):=by
 refine PC.fact 12 Bp_ (by simp) puA ⟨aG_.pul _,dk_ _,trivial,trivial⟩ ?_;unfold qk_;refine bd ?_;have c1:=EV_ (toV x) hu;have c2:=Ko_ s m h x hx;unfold jb_
 have fin:∀ {fr:Fr} {σ:St} {l:List AV} {t:aG_} {n:Int},cq_ fr σ [.cell 4 true 252,.tmp 5,.tmp 6]=some l→fz σ (List.range σ.length) (eH_ l)=.tup [.agg (aI_ t.a),.sl 0 true [],.int .i64 n]→PQ [.cell 4 true 252,.tmp 5,.tmp 6] (.tup [.agg (aI_ t.a),.sl 96 false (rows db_ []),.int .i64 n]) .ret fr σ:=
  fun {fr σ l t n} hl hv=>⟨l,hl,.inr ⟨_,hv,⟨aG_.pul _,trivial,trivial,trivial⟩,Of_ _ (Wk.refl _) (Wk.empty _ _ _)⟩⟩
 by_cases q0:s.halt=true
 ·rw[if_pos q0];repeat(first|refine aa_ ?_|simp only[go_sem,q0])
  refine Ri_ ?_
  exact fin (by first|rfl|exact evd) (by first|rfl|exact evd)
 rw[if_neg q0];have n0:s.halt=false:=by simpa using q0
 by_cases q1:vOp (toV x)=0
 case neg=>
  have e1:(vOp (toV x) != 0)=true:=by simp[q1]
  rw[if_pos q1];generalize vOp (toV x)=V at *;repeat(first|refine aa_ ?_|simp only[go_sem,n0])
  refine Rh_ ?_
  refine aj_ c1 ?_;repeat(first|refine aa_ ?_|simp only[go_sem,e1])
  refine Ri_ ?_
  exact fin (by first|rfl|exact evd) (by first|rfl|exact evd)
 rw[if_neg (by simp[q1])];rw[q1]at c1;have hI:=fun hz=>h.perf hm hx (.inl hz)
 generalize es_ s x=T at *;obtain⟨T1,T2⟩:=T;dsimp only at c2 hI ⊢;by_cases q2:T2=21
 ·have e2:(T2==21)=true:=by simp[q2]
  rw[if_pos q2];repeat(first|refine aa_ ?_|simp only[go_sem,n0])
  refine Rh_ ?_
  refine So_ c1 ?_
  refine Rh_ ?_
  refine aj_ c2 ?_;repeat(first|refine aa_ ?_|simp only[go_sem,e2])
  refine Ri_ ?_
  subst q2;exact fin (by first|rfl|exact evd) (by first|rfl|exact evd)
 rw[if_neg q2];have e2:(T2==21)=false:=by simp[q2]
 by_cases q3:T2=0
 case neg=>
  have e3:(T2 != 0)=true:=by simp[q3]
  rw[if_pos q3];repeat(first|refine aa_ ?_|simp only[go_sem,n0])
  refine Rh_ ?_
  refine So_ c1 ?_
  refine Rh_ ?_
  refine aj_ c2 ?_;repeat(first|refine aa_ ?_|simp only[go_sem,e2])
  refine ab_ ?_;repeat(first|refine aa_ ?_|simp only[go_sem,e3])
  refine Ri_ ?_
  exact fin (by first|rfl|exact evd) (by first|rfl|exact evd)
 rw[if_neg (by simp[q3])];subst q3;have c3:=zh_ T1 (hI rfl).sto.r;generalize hq_ T1=E at *;obtain⟨E1,E2⟩:=E;dsimp only at c3 ⊢;repeat(first|refine aa_ ?_|simp only[go_sem,n0])
 refine Rh_ ?_
 refine So_ c1 ?_
 refine Rh_ ?_
 refine So_ c2 ?_
 refine Rh_ ?_
 refine Rh_ ?_
 refine So_ c3 ?_
 exact ae_
end Go.Proofs.YtkgimpdgncakjaaGreat
