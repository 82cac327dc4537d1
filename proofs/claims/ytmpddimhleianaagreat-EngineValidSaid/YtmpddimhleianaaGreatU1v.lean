/- Joined. -/
import Derived.Test.YtmpddimhleianaaGreatW3v
import Derived.Test.YtmpddimhleianaaGreatV9v
import Derived.Test.YtmpddimhleianaaGreatV7v
set_option linter.unusedVariables false
set_option linter.unusedSimpArgs false
set_option maxRecDepth 8000
set_option maxHeartbeats 4000000
namespace Go.Proofs.YtmpddimhleianaaGreat
open Go Go.FH Go.RowKit
theorem N1{a b:AV}{c d:AV}(n:Int)(h1:Wk a b)(h2:Wk c d):Wk (.tup [a,c,.int .i64 n]) (.tup [b,d,.int .i64 n]):=Wk.tup ⟨h1,h2,Wk.refl _,trivial⟩
theorem LK(c:cI)(hb:c.bals.length<=2097152)(hs:gF c=0->StR (eG c)):PC Tryz.prog 14 [.agg (cV c.a)] (.tup [.agg (aG (eh c).1.a),.sl 96 false (rows bH (eh c).2.1),.int .i64 (eh c).2.2]):=by
 refine PC.fact 9 Eg af1 puA ⟨al.pul _,eT _,trivial,trivial⟩ ?_;unfold ul;refine bd ?_;have c1:=Kb c hb;unfold eh;unfold wu at c1;by_cases q:gF c=0
 ·rw[afA q]at c1
  simp only[afA q]at *;have c2:=FJ ⟨eG c,[],[],1,false,jB,false,false⟩ (hs q);generalize eG c=S at *;generalize dC ⟨S,[],[],1,false,jB,false,false⟩=E at *;obtain⟨E1,E2⟩:=E;dsimp only at c2 ⊢
  have hw:Wk (.agg (aG ⟨S.a,.sl 0 true [],.sl 0 true [],1,false,jB,false,false⟩)) (.agg (aG (al.a ⟨S,[],[],1,false,jB,false,false⟩))):=by
   refine Wk.agg ?_;unfold al.a aG;dsimp only;exact(WkC.refl _).app (.cons (Wk.empty _ _ _) (fun h=>h) (.cons (Wk.empty _ _ _) (fun h=>h) (WkC.refl _)))
  have hp:PuL (aG ⟨S.a,.sl 0 true [],.sl 0 true [],1,false,jB,false,false⟩):=by
   refine(I6 _).2 ?_;have:=S.pul;simp[Sta.Pure,Pu,fU,(rB _).1 this]
  refine gon ?_;refine ap c1 ?_;refine bY ?_;refine CD c2 ⟨hw,trivial⟩ ⟨hp,trivial⟩ ?_;refine gon ?_;exact aj
 ·rw[afx q]at c1;simp only[afx q]at *;have e1:(gF c != 0)=true:=by simp[q]
  refine gon ?_;refine ap c1 ?_;refine aW e1 ?_;refine⟨_,(by first|rfl|exact evd),.inr ⟨.tup [.agg (aG mB),.sl 0 true [],.int .i64 (gF c)],?_,⟨vu,trivial,trivial,trivial⟩,N1 _ AG (Wk.empty _ _ _)⟩⟩;exact evd
theorem Sp(s:al)(m:Nat)(h:fT s m)(v:Vdt):PC Tryz.prog 122 [.agg (aG s.a),.agg (dZ v)] (.tup [.agg (aG (eg s v).1.a),.int .i64 (eg s v).2]):=by
 refine PC.fact 13 zA af1 puA ⟨al.pul _,trivial,trivial⟩ ?_;unfold qU;refine bd ?_;have hrq:=h.rq;have hii:=h.sto.ii;have c1:=MH s v af0;unfold eg;have hm2:(aL s v).2.2=0->fT (aL s v).2.1 m:=fun hz=>h.mat hz
 generalize aL s v=M at *;obtain⟨r,t,e⟩:=M;dsimp only at c1 hm2 ⊢;by_cases q1:e=0
 case neg=>
  clear hm2;exact aw
 subst q1;rw[afx af1];have ht:=hm2 rfl;have hy:=ht.yl;have hT:=ht.sto.r;have hbn:=hT.bn;have cl:=Mz t r hT af0;have c2:=cj t.sto.nodes t.sto.j.rt hbn;have c3:=cj t.sto.nodes t.sto.f.rt hbn;have c4:=cj t.sto.nodes r.block hbn;have c5:=Mp t.sto.nodes hT.tree.ok (ab t.sto.nodes r.block) v [ab t.sto.nodes t.sto.j.rt,ab t.sto.nodes t.sto.f.rt] hbn af1;have hup:=fun hz=>pN (t:=t.sto.nodes) (i:=ab t.sto.nodes r.block) (v:=v) (keep:=[ab t.sto.nodes t.sto.j.rt,ab t.sto.nodes t.sto.f.rt]) hz
 rw[show judgeV t.sto r.block v=dR t.sto.nodes (ab t.sto.nodes r.block) v [ab t.sto.nodes t.sto.j.rt,ab t.sto.nodes t.sto.f.rt]from rfl];have hnums:∀a b:Int,[[AV.int .i64 a],[AV.int .i64 b]]=ah .i64 [a,b]:=fun _ _=>rfl
 generalize ab t.sto.nodes t.sto.j.rt=J at *;generalize ab t.sto.nodes t.sto.f.rt=F at *;generalize ab t.sto.nodes r.block=B at *;generalize dR t.sto.nodes B v [J,F]=U at *;obtain⟨U1,U2⟩:=U;dsimp only at c5 hup ⊢;by_cases k3:v.kind=3
 ·rw[afA (.inl k3)];clear hup hm2;exact aw
 by_cases k4:v.kind=4
 ·rw[afA (.inr k4)];clear hup hm2;exact aw
 rw[afx (by simp[k3,k4])];by_cases q3:U2=0
 case neg=>
  clear hup hm2;exact aw
 subst q3;rw[afx af1];have hlen:U1.length<=2097152:=by have:=(hup rfl).1;omega
 have c6:=cj U1 t.sto.boost hlen;have b6:=dl U1 t.sto.boost;rw[show boostV (bQ t.sto U1)=if 0<=ab U1 t.sto.boost/\(nod U1 (ab U1 t.sto.boost).toNat).status=2 then withB (bQ t.sto U1) rt0 else bQ t.sto U1 from rfl];generalize ab U1 t.sto.boost=I at *;clear hup hm2;by_cases q4:0<=I
 ·obtain⟨k,rfl⟩:=afF q4
  have hg:=dv (t:=U1) (i:=k) af0;have hk:k<U1.length:=af0
  by_cases q5:(nod U1 k).status=2
  ·rw[afA ⟨q4,q5⟩];unfold withB bQ cy al.a af.a;exact aw
  ·rw[afx (fun h=>q5 h.2)];exact aw
 ·rw[afx (fun h=>q4 h.1)];exact aw
theorem Q4(s:al)(m:Nat)(h:fT s m)(x:VOp)(hx:OpR x):PC Tryz.prog 58 [.agg (aG s.a),.agg (cG x.a)] (.tup [.agg (aG (de s x).1.a),.int .i64 (de s x).2]):=by
 refine PC.fact 9 zy af1 puA ⟨al.pul _,trivial,trivial⟩ ?_;unfold qT;refine bd ?_;have hrq:=h.rq;have hii:=h.sto.ii;have hyl:=h.yl;unfold de;by_cases k1:x.kind=1
 ·rw[afA k1]
  have c1:=Sf s.sto m h.sto;have hI:=fun hz=>h.sto.tick (s:=s.sto) hz
  generalize dF s.sto=T at *;obtain⟨T1,T2⟩:=T;dsimp only at c1 hI ⊢;by_cases q:T2=0
  ·subst q;have hT:=(hI rfl).r;have c2:=FI (cy s T1) hT (by show s.reqs.length<=_;omega) (by show s.rets.length<=_;omega);have hd1:=(nY (cy s T1).sto.nodes (cy s T1).reqs).1;have hd2:=(nY (cy s T1).sto.nodes (cy s T1).rets).1;have c3:=Ts (fE (cy s T1)) hT (by show (fZ _ _).length+(fZ _ _).length<=_;have:(cy s T1).reqs.length=s.reqs.length:=rfl;have:(cy s T1).rets.length=s.rets.length:=rfl;omega);rw[afA rfl];clear hI hd1 hd2;generalize tK _=D at *;exact aw
  ·clear hI;exact aw
 by_cases k2:x.kind=2
 ·rw[afx k1,afA k2]
  have c1:=LM s.sto m h.sto x.blk (hx.blk.up (afK m));have hI:=fun hz=>h.sto.block (hx.blk.up (afK m)) hz
  generalize bR s.sto x.blk=T at *;obtain⟨T1,T2,T3⟩:=T;dsimp only at c1 hI ⊢;by_cases q:T3=0
  ·subst q;have hT:=(hI rfl).1.r;have hl:=(hI rfl).2;have c2:=FI (cy s T1) hT (by show s.reqs.length<=_;omega) (by show s.rets.length<=_;omega);have hd1:=(nY (cy s T1).sto.nodes (cy s T1).reqs).1;have c3:=MM (fE (cy s T1)) T2 hT (by show (fZ _ _).length+_<=_;have:(cy s T1).reqs.length=s.reqs.length:=rfl;omega);rw[afA rfl];clear hI hd1 hl;generalize jT _ _=D at *;exact aw
  ·clear hI;exact aw
 have c3:=SY s.sto m h.sto x.att (by have:=hx.att.len;omega);have c4:=NF s.sto m h.sto x.slg (by have:=hx.fst;omega) (by have:=hx.snd;omega);have c5:=Vm s.sto m h.sto x.tab (by have:=hx.tab;omega);have c6:=Sp s m h x.vdt;generalize kH s.sto x.att=T3 at *;generalize d7 s.sto x.slg=T4 at *;generalize iL s.sto x.tab=T5 at *;generalize eg s x.vdt=T6 at *;exact aw
theorem GM(s:al)(m:Nat)(h:fT s m)(hm:m<40)(x:VOp)(hx:OpR x)(hu:OpU (toV x)):PC Tryz.prog 21 [.agg (aG s.a),.agg (cG x.a)] (.tup [.agg (aG (bV s x).1.a),.sl 96 false (rows bH (bV s x).2.1),.int .i64 (bV s x).2.2]):=by
 refine PC.fact 12 HK af1 puA ⟨al.pul _,eT _,trivial,trivial⟩ ?_;unfold vG;refine bd ?_;have c1:=Lc (toV x) hu;have c2:=Q4 s m h x hx;unfold bV
 have fin:∀ {fr:Fr} {σ:St} {l:List AV} {t:al} {n:Int},dy fr σ [.cell 4 true 252,.tmp 5,.tmp 6]=some l->fz σ (List.range σ.length) (fJ l)=.tup [.agg (aG t.a),.sl 0 true [],.int .i64 n]->PQ [.cell 4 true 252,.tmp 5,.tmp 6] (.tup [.agg (aG t.a),.sl 96 false (rows bH []),.int .i64 n]) .ret fr σ:=
  fun {fr σ l t n} hl hv=>⟨l,hl,.inr ⟨_,hv,⟨al.pul _,trivial,trivial,trivial⟩,N1 _ (Wk.refl _) (Wk.empty _ _ _)⟩⟩
 by_cases q0:s.halt=true
 ·rw[afA q0];refine aW q0 ?_;exact fin (by first|rfl|exact evd) (by first|rfl|exact evd)
 rw[afx q0];have n0:s.halt=false:=by simpa using q0
 by_cases q1:vOp (toV x)=0
 case neg=>
  have e1:(vOp (toV x) != 0)=true:=by simp[q1]
  rw[afA q1];generalize vOp (toV x)=V at *;refine aS n0 ?_;refine ap c1 ?_;refine aW e1 ?_;exact fin (by first|rfl|exact evd) (by first|rfl|exact evd)
 rw[afx (by simp[q1])];rw[q1]at c1;have hI:=fun hz=>h.perf hm hx (.inl hz)
 generalize de s x=T at *;obtain⟨T1,T2⟩:=T;dsimp only at c2 hI ⊢;by_cases q2:T2=21
 ·have e2:(T2==21)=true:=by simp[q2]
  rw[afA q2];refine aS n0 ?_;refine ap c1 ?_;refine bY ?_;refine ap c2 ?_;refine aW e2 ?_;subst q2;exact fin (by first|rfl|exact evd) (by first|rfl|exact evd)
 rw[afx q2];have e2:(T2==21)=false:=by simp[q2]
 by_cases q3:T2=0
 case neg=>
  have e3:(T2 != 0)=true:=by simp[q3]
  rw[afA q3];refine aS n0 ?_;refine ap c1 ?_;refine bY ?_;refine ap c2 ?_;refine da e2 ?_;refine aW e3 ?_;exact fin (by first|rfl|exact evd) (by first|rfl|exact evd)
 rw[afx (by simp[q3])];subst q3;have c3:=FJ T1 (hI rfl).sto.r;generalize dC T1=E at *;obtain⟨E1,E2⟩:=E;dsimp only at c3 ⊢;refine aS n0 ?_;refine ap c1 ?_;refine bY ?_;refine ap c2 ?_;refine bY ?_;refine aab ?_;refine abl c3 ?_;exact aj
end Go.Proofs.YtmpddimhleianaaGreat
