/-
 My texts Nf, Ng, joined.
-/
import Derived.Test.YtnjdpnfglgcjcaaGreatV9
import Derived.Test.YtnjdpnfglgcjcaaGreatV7
set_option linter.unusedVariables false
set_option linter.unusedSimpArgs false
set_option maxRecDepth 8000
set_option maxHeartbeats 4000000
namespace Go.Proofs.YtnjdpnfglgcjcaaGreat
open Go Go.FH Go.RowKit
theorem Zd{a b:AV}{c d:AV}(n:Int)(h1:Wk a b)(h2:Wk c d):Wk (.tup [a,c,.int .i64 n]) (.tup [b,d,.int .i64 n]):=Wk.tup ⟨h1,h2,Wk.refl _,trivial⟩
theorem P5(c:cU)(hb:c.bals.length<=1000000)(hs:iH c=0->StR (fm c)):PC Tryz.prog 78 [.agg (cD c.a)] (.tup [.agg (bk (mh c).1.a),.sl 96 false (rows eS (mh c).2.1),.int .i64 (mh c).2.2]):=by
 refine PC.fact 9 Ht (by simp) puA ⟨aX.pul _,fh _,trivial,trivial⟩ ?_;unfold vE;refine bd ?_;have c1:=OI c hb;unfold mh;unfold y9 at c1;by_cases q:iH c=0
 ·rw[if_pos q]at c1
  simp only[if_pos q]at *;have c2:=IV ⟨fm c,[],[],1,false,zM,false,false⟩ (hs q);generalize fm c=S at *;generalize jK ⟨S,[],[],1,false,zM,false,false⟩=E at *;obtain⟨E1,E2⟩:=E;dsimp only at c2 ⊢
  have hw:Wk (.agg (bk ⟨S.a,.sl 0 true [],.sl 0 true [],1,false,zM,false,false⟩)) (.agg (bk (aX.a ⟨S,[],[],1,false,zM,false,false⟩))):=by
   refine Wk.agg ?_;unfold aX.a bk;dsimp only;exact(WkC.refl _).app (.cons (Wk.empty _ _ _) (fun h=>h) (.cons (Wk.empty _ _ _) (fun h=>h) (WkC.refl _)))
  have hp:PuL (bk ⟨S.a,.sl 0 true [],.sl 0 true [],1,false,zM,false,false⟩):=by
   refine(Nn _).2 ?_;have:=S.pul;simp[Sta.Pure,Pu,fG,(rU _).1 this]
  refine gon ?_;refine ai c1 ?_;refine bh ?_;refine mm c2 ⟨hw,trivial⟩ ⟨hp,trivial⟩ ?_;refine gon ?_;exact af
 ·rw[if_neg q]at c1;simp only[if_neg q]at *;have e1:(iH c != 0)=true:=by simp[q]
  refine gon ?_;refine ai c1 ?_;refine aE e1 ?_;refine⟨_,(by first|rfl|exact evd),.inr ⟨.tup [.agg (bk rR),.sl 0 true [],.int .i64 (iH c)],?_,⟨Nm,trivial,trivial,trivial⟩,Zd _ TP (Wk.empty _ _ _)⟩⟩;exact evd
theorem WA(s:aX)(m:Nat)(h:fM s m)(v:Vdt):PC Tryz.prog 209 [.agg (bk s.a),.agg (en v)] (.tup [.agg (bk (ot s v).1.a),.int .i64 (ot s v).2]):=by
 refine PC.fact 13 CJ (by simp) puA ⟨aX.pul _,trivial,trivial⟩ ?_;unfold rp;refine bd ?_;have hrq:=h.rq;have hii:=h.sto.ii;have c1:=Rp s v (by omega);unfold ot;have hm2:(df s v).2.2=0->fM (df s v).2.1 m:=fun hz=>h.mat hz
 generalize df s v=M at *;obtain⟨r,t,e⟩:=M;dsimp only at c1 hm2 ⊢;by_cases q1:e=0
 case neg=>
  have e1:(e != 0)=true:=by simp[q1]
  rw[if_pos q1];refine gon ?_;refine ai c1 ?_;refine aE e1 ?_;exact af
 subst q1;rw[if_neg (by simp)];have ht:=hm2 rfl;have hy:=ht.yl;have hT:=ht.sto.r;have hbn:=hT.bn;by_cases q2:v.kind=3\/v.kind=4
 ·rw[if_pos q2]
  have c2:=Q9 t r hT (by omega);by_cases q3:v.kind=3
  ·have e3:(v.kind==3)=true:=by simp[q3]
   refine gon ?_;refine ai c1 ?_;refine dk ?_;refine aE e3 ?_;refine acT c2 ?_;exact af
  ·have e3:(v.kind==3)=false:=by simp[q3]
   have e4:(v.kind==4)=true:=by simp[q2.resolve_left q3]
   refine gon ?_;refine ai c1 ?_;refine dk ?_;refine cn e3 e4 ?_;refine acT c2 ?_;exact af
 rw[if_neg q2];have e3:(v.kind==3)=false:=by simp;exact fun h=>q2 (.inl h)
 have e4:(v.kind==4)=false:=by simp;exact fun h=>q2 (.inr h)
 have c2:=cm t.sto.nodes t.sto.j.rt hbn;have c3:=cm t.sto.nodes t.sto.f.rt hbn;have c4:=cm t.sto.nodes r.block hbn;have c5:=QZ t.sto.nodes hT.tree.ok (aj t.sto.nodes r.block) v [aj t.sto.nodes t.sto.j.rt,aj t.sto.nodes t.sto.f.rt] hbn (by simp);have hj:judgeV t.sto r.block v=iU t.sto.nodes (aj t.sto.nodes r.block) v [aj t.sto.nodes t.sto.j.rt,aj t.sto.nodes t.sto.f.rt]:=rfl;have hup:=fun hz=>Fc (t:=t.sto.nodes) (i:=aj t.sto.nodes r.block) (v:=v) (keep:=[aj t.sto.nodes t.sto.j.rt,aj t.sto.nodes t.sto.f.rt]) hz
 rw[hj];clear hj;have hnums:∀a b:Int,[[AV.int .i64 a],[AV.int .i64 b]]=ax .i64 [a,b]:=fun _ _=>rfl
 generalize aj t.sto.nodes t.sto.j.rt=J at *;generalize aj t.sto.nodes t.sto.f.rt=F at *;generalize aj t.sto.nodes r.block=B at *;generalize iU t.sto.nodes B v [J,F]=U at *;obtain⟨U1,U2⟩:=U;dsimp only at c5 hup ⊢;by_cases q3:U2=0
 case neg=>
  have e5:(U2 != 0)=true:=by simp[q3]
  rw[if_pos q3];refine gon ?_;refine ai c1 ?_;refine dk ?_;refine eC e3 e4 ?_;refine aC (c2) ?_;refine gon ?_;refine aC (c3) ?_;refine ap hnums ?_;refine aC (c4) ?_;refine gon ?_;refine aC (c5) ?_;refine aE e5 ?_;exact af
 subst q3;rw[if_neg (by simp)];have hlen:U1.length<=1000000:=by have:=(hup rfl).1;omega
 have c6:=cm U1 t.sto.boost hlen;have b6:=dX U1 t.sto.boost;have hbv:boostV (dh t.sto U1)=if 0<=aj U1 t.sto.boost/\(nod U1 (aj U1 t.sto.boost).toNat).status=2 then withB (dh t.sto U1) rt0 else dh t.sto U1:=rfl
 rw[hbv];clear hbv;generalize aj U1 t.sto.boost=I at *;by_cases q4:0<=I
 ·have e6:=ak q4
  have hg:=dy (t:=U1) (i:=I.toNat) (by omega);by_cases q5:(nod U1 I.toNat).status=2
  ·have e7:((nod U1 I.toNat).status==2)=true:=by simp[q5]
   rw[if_pos ⟨q4,q5⟩];refine gon ?_;refine ai c1 ?_;refine dk ?_;refine eC e3 e4 ?_;refine aC (c2) ?_;refine gon ?_;refine aC (c3) ?_;refine ap hnums ?_;refine aC (c4) ?_;refine gon ?_;refine aC (c5) ?_;refine bh ?_;refine ai c6 ?_;refine fK e6 hg e7 ?_;exact af
  ·have e7:((nod U1 I.toNat).status==2)=false:=by simp[q5]
   rw[if_neg (fun h=>q5 h.2)];refine gon ?_;refine ai c1 ?_;refine dk ?_;refine eC e3 e4 ?_;refine aC (c2) ?_;refine gon ?_;refine aC (c3) ?_;refine ap hnums ?_;refine aC (c4) ?_;refine gon ?_;refine aC (c5) ?_;refine bh ?_;refine ai c6 ?_;refine xt e6 hg e7 ?_;exact af
 ·have e6:=au q4;rw[if_neg (fun h=>q4 h.1)];refine gon ?_;refine ai c1 ?_;refine dk ?_;refine eC e3 e4 ?_;refine aC (c2) ?_;refine gon ?_;refine aC (c3) ?_;refine ap hnums ?_;refine aC (c4) ?_;refine gon ?_;refine aC (c5) ?_;refine bh ?_;refine ai c6 ?_;refine aD e6 ?_;exact af
theorem Vo(s:aX)(m:Nat)(h:fM s m)(x:VOp)(hx:OpR x):PC Tryz.prog 83 [.agg (bk s.a),.agg (dp x.a)] (.tup [.agg (bk (fS s x).1.a),.int .i64 (fS s x).2]):=by
 refine PC.fact 9 CI (by simp) puA ⟨aX.pul _,trivial,trivial⟩ ?_;unfold ro;refine bd ?_;have hrq:=h.rq;have hii:=h.sto.ii;have hyl:=h.yl;unfold fS;by_cases k1:x.kind=1
 ·have n1:(x.kind==1)=true:=by simp[k1]
  rw[if_pos k1];have c1:=Wr s.sto m h.sto;have hI:=fun hz=>h.sto.tick (s:=s.sto) hz
  generalize dH s.sto=T at *;obtain⟨T1,T2⟩:=T;dsimp only at c1 hI ⊢;by_cases q:T2=0
  ·subst q;have hT:=(hI rfl).r;have c2:=IU (fU s T1) hT (by show s.reqs.length<=_;omega) (by show s.rets.length<=_;omega);have hd1:=(tw (fU s T1).sto.nodes (fU s T1).reqs).1;have hd2:=(tw (fU s T1).sto.nodes (fU s T1).rets).1;have hd3:(fU s T1).reqs.length=s.reqs.length:=rfl;have hd4:(fU s T1).rets.length=s.rets.length:=rfl;have c3:=Xk (pZ (fU s T1)) hT (by show (nU _ _).length+(nU _ _).length<=_;omega);rw[if_pos rfl];refine aE n1 ?_;refine ai c1 ?_;refine aV ?_;refine acT c2 ?_;refine acT c3 ?_;exact af
  ·have e1:(T2==0)=false:=by simp[q]
   rw[if_neg q];refine aE n1 ?_;refine ai c1 ?_;refine aD e1 ?_;exact af
 rw[if_neg k1];have n1:(x.kind==1)=false:=by simp[k1]
 by_cases k2:x.kind=2
 ·have n2:(x.kind==2)=true:=by simp[k2]
  rw[if_pos k2];have c1:=P7 s.sto m h.sto x.blk (hx.blk.up (Nat.zero_le m));have hI:=fun hz=>h.sto.block (hx.blk.up (Nat.zero_le m)) hz
  generalize cq s.sto x.blk=T at *;obtain⟨T1,T2,T3⟩:=T;dsimp only at c1 hI ⊢;by_cases q:T3=0
  ·subst q;have hT:=(hI rfl).1.r;have hl:=(hI rfl).2;have c2:=IU (fU s T1) hT (by show s.reqs.length<=_;omega) (by show s.rets.length<=_;omega);have hd1:=(tw (fU s T1).sto.nodes (fU s T1).reqs).1;have hd3:(fU s T1).reqs.length=s.reqs.length:=rfl;have c3:=Ru (pZ (fU s T1)) T2 hT (by show (nU _ _).length+_<=_;omega);rw[if_pos rfl];refine aQ n1 ?_;refine aE n2 ?_;refine ai c1 ?_;refine aV ?_;refine acT c2 ?_;refine acT c3 ?_;exact af
  ·have e1:(T3==0)=false:=by simp[q]
   rw[if_neg q];refine aQ n1 ?_;refine aE n2 ?_;refine ai c1 ?_;refine aD e1 ?_;exact af
 rw[if_neg k2];have n2:(x.kind==2)=false:=by simp[k2]
 by_cases k3:x.kind=3
 ·have n3:(x.kind==3)=true:=by simp[k3]
  rw[if_pos k3];have c1:=Ny s.sto m h.sto x.att (by have:=hx.att;omega);generalize i9 s.sto x.att=T at *;obtain⟨T1,T2⟩:=T;dsimp only at c1 ⊢;refine aQ n1 ?_;refine aQ n2 ?_;refine aE n3 ?_;refine acT c1 ?_;exact af
 rw[if_neg k3];have n3:(x.kind==3)=false:=by simp[k3]
 by_cases k4:x.kind=4
 ·have n4:(x.kind==4)=true:=by simp[k4]
  rw[if_pos k4];have c1:=F4 s.sto m h.sto x.slg (by have:=hx.fst;omega) (by have:=hx.snd;omega);generalize di s.sto x.slg=T at *;obtain⟨T1,T2⟩:=T;dsimp only at c1 ⊢;refine aQ n1 ?_;refine aQ n2 ?_;refine aQ n3 ?_;refine aE n4 ?_;refine acT c1 ?_;exact af
 rw[if_neg k4];have n4:(x.kind==4)=false:=by simp[k4]
 by_cases k5:x.kind=5
 ·have n5:(x.kind==5)=true:=by simp[k5]
  rw[if_pos k5];have c1:=O2 s.sto m h.sto x.tab (by have:=hx.tab;omega);generalize iu s.sto x.tab=T at *;obtain⟨T1,T2⟩:=T;dsimp only at c1 ⊢;refine aQ n1 ?_;refine aQ n2 ?_;refine aQ n3 ?_;refine aQ n4 ?_;refine aE n5 ?_;refine acT c1 ?_;exact af
 rw[if_neg k5];have n5:(x.kind==5)=false:=by simp[k5]
 by_cases k6:x.kind=6
 ·have n6:(x.kind==6)=true:=by simp[k6]
  rw[if_pos k6];have c1:=WA s m h x.vdt;generalize ot s x.vdt=T at *;obtain⟨T1,T2⟩:=T;dsimp only at c1 ⊢;refine aQ n1 ?_;refine aQ n2 ?_;refine aQ n3 ?_;refine aQ n4 ?_;refine aQ n5 ?_;refine aE n6 ?_;refine acT c1 ?_;exact af
 ·have n6:(x.kind==6)=false:=by simp[k6]
  rw[if_neg k6];refine aQ n1 ?_;refine aQ n2 ?_;refine aQ n3 ?_;refine aQ n4 ?_;refine aQ n5 ?_;refine aD n6 ?_;exact af
theorem Wc(s:aX)(m:Nat)(h:fM s m)(hm:m<30)(x:VOp)(hx:OpR x)(hu:OpU (toV x)):PC Tryz.prog 23 [.agg (bk s.a),.agg (dp x.a)] (.tup [.agg (bk (kR s x).1.a),.sl 96 false (rows eS (kR s x).2.1),.int .i64 (kR s x).2.2]):=by
 refine PC.fact 12 LO (by simp) puA ⟨aX.pul _,fh _,trivial,trivial⟩ ?_;unfold yr;refine bd ?_;have c1:=PB (toV x) hu;have c2:=Vo s m h x hx;unfold kR
 have fin:∀ {fr:Fr} {σ:St} {l:List AV} {t:aX} {n:Int},dQ fr σ [.cell 4 true 252,.tmp 5,.tmp 6]=some l->fz σ (List.range σ.length) (gm l)=.tup [.agg (bk t.a),.sl 0 true [],.int .i64 n]->PQ [.cell 4 true 252,.tmp 5,.tmp 6] (.tup [.agg (bk t.a),.sl 96 false (rows eS []),.int .i64 n]) .ret fr σ:=
  fun {fr σ l t n} hl hv=>⟨l,hl,.inr ⟨_,hv,⟨aX.pul _,trivial,trivial,trivial⟩,Zd _ (Wk.refl _) (Wk.empty _ _ _)⟩⟩
 by_cases q0:s.halt=true
 ·rw[if_pos q0];refine aE q0 ?_;exact fin (by first|rfl|exact evd) (by first|rfl|exact evd)
 rw[if_neg q0];have n0:s.halt=false:=by simpa using q0
 by_cases q1:vOp (toV x)=0
 case neg=>
  have e1:(vOp (toV x) != 0)=true:=by simp[q1]
  rw[if_pos q1];generalize vOp (toV x)=V at *;refine aD n0 ?_;refine ai c1 ?_;refine aE e1 ?_;exact fin (by first|rfl|exact evd) (by first|rfl|exact evd)
 rw[if_neg (by simp[q1])];rw[q1]at c1;have hI:=fun hz=>h.perf hm hx (.inl hz)
 generalize fS s x=T at *;obtain⟨T1,T2⟩:=T;dsimp only at c2 hI ⊢;by_cases q2:T2=21
 ·have e2:(T2==21)=true:=by simp[q2]
  rw[if_pos q2];refine aD n0 ?_;refine ai c1 ?_;refine bh ?_;refine ai c2 ?_;refine aE e2 ?_;subst q2;exact fin (by first|rfl|exact evd) (by first|rfl|exact evd)
 rw[if_neg q2];have e2:(T2==21)=false:=by simp[q2]
 by_cases q3:T2=0
 case neg=>
  have e3:(T2 != 0)=true:=by simp[q3]
  rw[if_pos q3];refine aD n0 ?_;refine ai c1 ?_;refine bh ?_;refine ai c2 ?_;refine aQ e2 ?_;refine aE e3 ?_;exact fin (by first|rfl|exact evd) (by first|rfl|exact evd)
 rw[if_neg (by simp[q3])];subst q3;have c3:=IV T1 (hI rfl).sto.r;generalize jK T1=E at *;obtain⟨E1,E2⟩:=E;dsimp only at c3 ⊢;refine aD n0 ?_;refine ai c1 ?_;refine bh ?_;refine ai c2 ?_;refine bh ?_;refine abW ?_;refine acT c3 ?_;exact af
end Go.Proofs.YtnjdpnfglgcjcaaGreat
