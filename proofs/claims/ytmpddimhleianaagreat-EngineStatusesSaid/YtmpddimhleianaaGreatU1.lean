/- Joined. -/
import Derived.Test.YtmpddimhleianaaGreatW3
import Derived.Test.YtmpddimhleianaaGreatV9
import Derived.Test.YtmpddimhleianaaGreatV7
set_option linter.unusedVariables false
set_option linter.unusedSimpArgs false
set_option maxRecDepth 8000
set_option maxHeartbeats 4000000
namespace Go.Proofs.YtmpddimhleianaaGreat
open Go Go.FH Go.RowKit
theorem ada{a b:AV}{c d:AV}(n:Int)(h1:Wk a b)(h2:Wk c d):Wk (.tup [a,c,.int .i64 n]) (.tup [b,d,.int .i64 n]):=Wk.tup ⟨h1,h2,Wk.refl _,trivial⟩
theorem GZ(c:cU)(hb:c.bals.length<=2097152)(hs:ib c=0->StR (kO c)):PC Tryz.prog 14 [.agg (bW c.a)] (.tup [.agg (aV (iW c).1.a),.sl 96 false (rows AZ (iW c).2.1),.int .i64 (iW c).2.2]):=by
 refine PC.fact 9 Kz WM puA ⟨aI.pul _,fm _,trivial,trivial⟩ ?_;unfold yW;refine bd ?_;have c1:=RL c hb;unfold iW;unfold O0 at c1;by_cases q:ib c=0
 ·rw[al7 q]at c1
  simp only[al7 q]at *;have c2:=MB ⟨kO c,[],[],1,false,fS,false,false⟩ (hs q);generalize kO c=S at *;generalize io ⟨S,[],[],1,false,fS,false,false⟩=E at *;obtain⟨E1,E2⟩:=E;dsimp only at c2 ⊢
  have hw:Wk (.agg (aV ⟨S.a,.sl 0 true [],.sl 0 true [],1,false,fS,false,false⟩)) (.agg (aV (aI.a ⟨S,[],[],1,false,fS,false,false⟩))):=by
   refine Wk.agg ?_;unfold aI.a aV;dsimp only;exact(WkC.refl _).app (.cons (Wk.empty _ _ _) (fun h=>h) (.cons (Wk.empty _ _ _) (fun h=>h) (WkC.refl _)))
  have hp:PuL (aV ⟨S.a,.sl 0 true [],.sl 0 true [],1,false,fS,false,false⟩):=by
   refine(Qv _).2 ?_;have:=S.pul;simp[Sta.Pure,Pu,fy,(uH _).1 this]
  refine gon ?_;refine am c1 ?_;refine bk ?_;refine pG c2 ⟨hw,trivial⟩ ⟨hp,trivial⟩ ?_;refine gon ?_;exact ai
 ·rw[al5 q]at c1;simp only[al5 q]at *;have e1:(ib c != 0)=true:=by simp[q]
  refine gon ?_;refine am c1 ?_;refine aM e1 ?_;refine⟨_,(by first|rfl|exact evd),.inr ⟨.tup [.agg (aV rD),.sl 0 true [],.int .i64 (ib c)],?_,⟨uG,trivial,trivial,trivial⟩,ada _ C9 (Wk.empty _ _ _)⟩⟩;exact evd
theorem H0(s:aI)(m:Nat)(h:fQ s m)(v:Vdt):PC Tryz.prog 122 [.agg (aV s.a),.agg (cA v)] (.tup [.agg (aV (ky s v).1.a),.int .i64 (ky s v).2]):=by
 refine PC.fact 13 u9 WM puA ⟨aI.pul _,trivial,trivial⟩ ?_;unfold oa;refine bd ?_;have hrq:=h.rq;have hii:=h.sto.ii;have c1:=Eb s v WL;unfold ky;have hm2:(cz s v).2.2=0->fQ (cz s v).2.1 m:=fun hz=>h.mat hz
 generalize cz s v=M at *;obtain⟨r,t,e⟩:=M;dsimp only at c1 hm2 ⊢;by_cases q1:e=0
 case neg=>
  clear hm2;exact aw
 subst q1;rw[al5 WM];have ht:=hm2 rfl;have hy:=ht.yl;have hT:=ht.sto.r;have hbn:=hT.bn;have cl:=Q4 t r hT WL;have c2:=cC t.sto.nodes t.sto.j.rt hbn;have c3:=cC t.sto.nodes t.sto.f.rt hbn;have c4:=cC t.sto.nodes r.block hbn;have c5:=DX t.sto.nodes hT.tree.ok (aj t.sto.nodes r.block) v [aj t.sto.nodes t.sto.j.rt,aj t.sto.nodes t.sto.f.rt] hbn WM;have hup:=fun hz=>sN (t:=t.sto.nodes) (i:=aj t.sto.nodes r.block) (v:=v) (keep:=[aj t.sto.nodes t.sto.j.rt,aj t.sto.nodes t.sto.f.rt]) hz
 rw[show judgeV t.sto r.block v=iT t.sto.nodes (aj t.sto.nodes r.block) v [aj t.sto.nodes t.sto.j.rt,aj t.sto.nodes t.sto.f.rt]from rfl];have hnums:∀a b:Int,[[AV.int .i64 a],[AV.int .i64 b]]=aH .i64 [a,b]:=fun _ _=>rfl
 generalize aj t.sto.nodes t.sto.j.rt=J at *;generalize aj t.sto.nodes t.sto.f.rt=F at *;generalize aj t.sto.nodes r.block=B at *;generalize iT t.sto.nodes B v [J,F]=U at *;obtain⟨U1,U2⟩:=U;dsimp only at c5 hup ⊢;by_cases k3:v.kind=3
 ·rw[al7 (.inl k3)];clear hup hm2;exact aw
 by_cases k4:v.kind=4
 ·rw[al7 (.inr k4)];clear hup hm2;exact aw
 rw[al5 (by simp[k3,k4])];by_cases q3:U2=0
 case neg=>
  clear hup hm2;exact aw
 subst q3;rw[al5 WM];have hlen:U1.length<=2097152:=by have:=(hup rfl).1;omega
 have c6:=cC U1 t.sto.boost hlen;have b6:=fM U1 t.sto.boost;rw[show boostV (dD t.sto U1)=if 0<=aj U1 t.sto.boost/\(nod U1 (aj U1 t.sto.boost).toNat).status=2 then withB (dD t.sto U1) rt0 else dD t.sto U1 from rfl];generalize aj U1 t.sto.boost=I at *;clear hup hm2;by_cases q4:0<=I
 ·obtain⟨k,rfl⟩:=ajO q4
  have hg:=dy (t:=U1) (i:=k) WL;have hk:k<U1.length:=WL
  by_cases q5:(nod U1 k).status=2
  ·rw[al7 ⟨q4,q5⟩];unfold withB dD ij aI.a ap.a;exact aw
  ·rw[al5 (fun h=>q5 h.2)];exact aw
 ·rw[al5 (fun h=>q4 h.1)];exact aw
theorem Ho(s:aI)(m:Nat)(h:fQ s m)(x:VOp)(hx:OpR x):PC Tryz.prog 58 [.agg (aV s.a),.agg (dj x.a)] (.tup [.agg (aV (ia s x).1.a),.int .i64 (ia s x).2]):=by
 refine PC.fact 9 u7 WM puA ⟨aI.pul _,trivial,trivial⟩ ?_;unfold nR;refine bd ?_;have hrq:=h.rq;have hii:=h.sto.ii;have hyl:=h.yl;unfold ia;by_cases k1:x.kind=1
 ·rw[al7 k1]
  have c1:=HI s.sto m h.sto;have hI:=fun hz=>h.sto.tick (s:=s.sto) hz
  generalize gp s.sto=T at *;obtain⟨T1,T2⟩:=T;dsimp only at c1 hI ⊢;by_cases q:T2=0
  ·subst q;have hT:=(hI rfl).r;have c2:=yR (ij s T1) hT (by show s.reqs.length<=_;omega) (by show s.rets.length<=_;omega);have hd1:=(pW (ij s T1).sto.nodes (ij s T1).reqs).1;have hd2:=(pW (ij s T1).sto.nodes (ij s T1).rets).1;have c3:=IK (mE (ij s T1)) hT (by show (mm _ _).length+(mm _ _).length<=_;have:(ij s T1).reqs.length=s.reqs.length:=rfl;have:(ij s T1).rets.length=s.rets.length:=rfl;omega);rw[al7 rfl];clear hI hd1 hd2;generalize zQ _=D at *;exact aw
  ·clear hI;exact aw
 by_cases k2:x.kind=2
 ·rw[al5 k1,al7 k2]
  have c1:=Dy s.sto m h.sto x.blk (hx.blk.up (amc m));have hI:=fun hz=>h.sto.block (hx.blk.up (amc m)) hz
  generalize di s.sto x.blk=T at *;obtain⟨T1,T2,T3⟩:=T;dsimp only at c1 hI ⊢;by_cases q:T3=0
  ·subst q;have hT:=(hI rfl).1.r;have hl:=(hI rfl).2;have c2:=yR (ij s T1) hT (by show s.reqs.length<=_;omega) (by show s.rets.length<=_;omega);have hd1:=(pW (ij s T1).sto.nodes (ij s T1).reqs).1;have c3:=Ee (mE (ij s T1)) T2 hT (by show (mm _ _).length+_<=_;have:(ij s T1).reqs.length=s.reqs.length:=rfl;omega);rw[al7 rfl];clear hI hd1 hl;generalize nK _ _=D at *;exact aw
  ·clear hI;exact aw
 have c3:=Ir s.sto m h.sto x.att (by have:=hx.att.len;omega);have c4:=ER s.sto m h.sto x.slg (by have:=hx.fst;omega) (by have:=hx.snd;omega);have c5:=Kb s.sto m h.sto x.tab (by have:=hx.tab;omega);have c6:=H0 s m h x.vdt;generalize mA s.sto x.att=T3 at *;generalize ik s.sto x.slg=T4 at *;generalize kY s.sto x.tab=T5 at *;generalize ky s x.vdt=T6 at *;exact aw
theorem HF(s:aI)(m:Nat)(h:fQ s m)(hm:m<40)(x:VOp)(hx:OpR x)(hu:OpU (toV x)):PC Tryz.prog 21 [.agg (aV s.a),.agg (dj x.a)] (.tup [.agg (aV (kl s x).1.a),.sl 96 false (rows AZ (kl s x).2.1),.int .i64 (kl s x).2.2]):=by
 refine PC.fact 12 Ap WM puA ⟨aI.pul _,fm _,trivial,trivial⟩ ?_;unfold rF;refine bd ?_;have c1:=De (toV x) hu;have c2:=Ho s m h x hx;unfold kl
 have fin:∀ {fr:Fr} {σ:St} {l:List AV} {t:aI} {n:Int},dH fr σ [.cell 4 true 252,.tmp 5,.tmp 6]=some l->fz σ (List.range σ.length) (gk l)=.tup [.agg (aV t.a),.sl 0 true [],.int .i64 n]->PQ [.cell 4 true 252,.tmp 5,.tmp 6] (.tup [.agg (aV t.a),.sl 96 false (rows AZ []),.int .i64 n]) .ret fr σ:=
  fun {fr σ l t n} hl hv=>⟨l,hl,.inr ⟨_,hv,⟨aI.pul _,trivial,trivial,trivial⟩,ada _ (Wk.refl _) (Wk.empty _ _ _)⟩⟩
 by_cases q0:s.halt=true
 ·rw[al7 q0];refine aM q0 ?_;exact fin (by first|rfl|exact evd) (by first|rfl|exact evd)
 rw[al5 q0];have n0:s.halt=false:=by simpa using q0
 by_cases q1:vOp (toV x)=0
 case neg=>
  have e1:(vOp (toV x) != 0)=true:=by simp[q1]
  rw[al7 q1];generalize vOp (toV x)=V at *;refine aF n0 ?_;refine am c1 ?_;refine aM e1 ?_;exact fin (by first|rfl|exact evd) (by first|rfl|exact evd)
 rw[al5 (by simp[q1])];rw[q1]at c1;have hI:=fun hz=>h.perf hm hx (.inl hz)
 generalize ia s x=T at *;obtain⟨T1,T2⟩:=T;dsimp only at c2 hI ⊢;by_cases q2:T2=21
 ·have e2:(T2==21)=true:=by simp[q2]
  rw[al7 q2];refine aF n0 ?_;refine am c1 ?_;refine bk ?_;refine am c2 ?_;refine aM e2 ?_;subst q2;exact fin (by first|rfl|exact evd) (by first|rfl|exact evd)
 rw[al5 q2];have e2:(T2==21)=false:=by simp[q2]
 by_cases q3:T2=0
 case neg=>
  have e3:(T2 != 0)=true:=by simp[q3]
  rw[al7 q3];refine aF n0 ?_;refine am c1 ?_;refine bk ?_;refine am c2 ?_;refine bJ e2 ?_;refine aM e3 ?_;exact fin (by first|rfl|exact evd) (by first|rfl|exact evd)
 rw[al5 (by simp[q3])];subst q3;have c3:=MB T1 (hI rfl).sto.r;generalize io T1=E at *;obtain⟨E1,E2⟩:=E;dsimp only at c3 ⊢;refine aF n0 ?_;refine am c1 ?_;refine bk ?_;refine am c2 ?_;refine bk ?_;refine agE ?_;refine ahG c3 ?_;exact ai
end Go.Proofs.YtmpddimhleianaaGreat
