/- Joined. -/
import Derived.Test.YtnjdpnfglgcjcaaGreatO8
set_option linter.unusedVariables false
set_option linter.unusedSimpArgs false
set_option maxRecDepth 8000
set_option maxHeartbeats 4000000
namespace Go.Proofs.YtnjdpnfglgcjcaaGreat
open Go Go.FH Go.RowKit
theorem afD(X:Sta)(B:List UInt8)(V:Int)(o:PuL (aV X))(k:PC Tryz.prog 16 [.agg (aV X)] (.tup [.sl 1 false (bts B),.int .i64 V]))(h:PC Tryz.prog 17 [.agg (aV X)] (.tup [.sl 1 false (bts B),.int .i64 V])):Tri Tryz.prog 63 0 (AH.tl 3) (PQ [.tmp 4] (.bool true)) ⟨34,[.dead,.dead,.dead,.dead,.bool false,.ptr 0 0,.dead,.dead,.dead,.dead,.dead,.dead,.dead,.dead,.dead,.dead,.dead,.dead,.dead,.dead,.dead,.dead,.dead,.dead,.dead,.dead,.dead,.dead,.dead,.dead,.dead,.dead,.dead,.dead],[]⟩ [.var (aV X)]:=by
 unfold AH;refine bd ?_;simp only[ab.tl];have i:=N2;refine gon ?_;refine ahG k ?_;refine am h ?_;repeat(first|refine bY ?_|omega)
 refine ahG i ?_;exact ai
theorem aI.pulC(s:aI):PuL (aV s.a):=aI.pul s
theorem pc_ImageInvalid(l:List Int)(hl:l.length<=maxLen)(hwl:∀z∈l,(Lit.int .i64 z).wf=true)(which:Int)(hwh:(Lit.int .i64 which).wf=true):PC Tryz.prog 4 [.sl 1 false (aH .i64 l),.int .i64 which] (.bool true):=by
 have tl:=afD;obtain⟨s,hg,cs⟩:=E3 l;have T:=hg.ty;have r:=T.hr;have u0':U64 0:=⟨by simp,by simp⟩;refine PC.fact 34 KA (by simp) puA puA ?_;have hc:AH=.seq AH.hd (.seq (AH.tl 1).hd (.seq (AH.tl 2).hd (AH.tl 3))):=rfl;rw[hc];clear hc;generalize AH.tl 3=cT at *;unfold AH;refine bd ?_;simp only[ab.tl,ab.hd];generalize hW:lI .i64 which 7=W;refine gon ?_;refine am cs ?_;repeat(first|refine bY ?_|simp_all)
 by_cases q0:W=0
 ·have e:(W==0)=true:=by simp[q0]
  obtain⟨B,V,v1,v2⟩:=IN (⟨s.sto,s.reqs,s.rets,0,s.sent,s.last,s.over,s.halt⟩:aI) ⟨r,T.l6,T.c1,T.c2,T.c3,T.v1,T.j,T.a,T.o,T.n,T.w,T.t,T.ql,T.yl,T.q,T.y,u0'⟩;have t:=tl _ B V (aI.pulC _) v1 v2;refine aM e ?_;refine eg ?_ t;exact ais [] [0]
 have e:(W==0)=false:=by simp[q0]
 refine aF e ?_;clear e;by_cases q1:W=1
 ·have e:(W==1)=true:=by simp[q1]
  obtain⟨B,V,v1,v2⟩:=IN (⟨⟨s.sto.cfg,s.sto.latest,s.sto.eqv,s.sto.j,s.sto.f,s.sto.early,s.sto.orph,s.sto.nodes,s.sto.now,s.sto.boost,[]⟩,s.reqs,s.rets,s.tag,s.sent,s.last,s.over,s.halt⟩:aI) ⟨⟨r.bn,r.bl,r.be,(amc _),(fun t ht=>(by cases ht)),(fun t ht=>(by cases ht)),r.bo,r.ba,r.bv,r.bc,r.cu,r.uf⟩,T.l6,T.c1,T.c2,T.c3,T.v1,T.j,T.a,T.o,T.n,T.w,(fun t ht=>(by cases ht)),T.ql,T.yl,T.q,T.y,T.g⟩
  have wk:Wk (.agg (aV (⟨⟨s.sto.cfg.a,.sl 34 false (rows al s.sto.latest),.sl 1 false (aH .i64 s.sto.eqv),s.sto.j,s.sto.f,.sl 67 false (rows bp.c s.sto.early),.sl 238 false (rows aO s.sto.orph),.sl 240 false (rows bB s.sto.nodes),s.sto.now,s.sto.boost,.sl 0 true []⟩,.sl 35 false (rows aP s.reqs),.sl 35 false (rows aP s.rets),s.tag,s.sent,s.last,s.over,s.halt⟩:Sta))) (.agg (aV ((⟨⟨s.sto.cfg,s.sto.latest,s.sto.eqv,s.sto.j,s.sto.f,s.sto.early,s.sto.orph,s.sto.nodes,s.sto.now,s.sto.boost,[]⟩,s.reqs,s.rets,s.tag,s.sent,s.last,s.over,s.halt⟩:aI).a))):=by
   refine Wk.agg ?_;unfold aI.a aV ap.a aE;dsimp only;exact WkC.app ((WkC.refl _).app (.cons (Wk.refl _) (fun h=>h) (.cons (Wk.refl _) (fun h=>h) ((WkC.refl _).app ((WkC.refl _).app (.cons (Wk.refl _) (fun h=>h) (.cons (Wk.refl _) (fun h=>h) (.cons (Wk.refl _) (fun h=>h) (.same _ ((WkC.refl _).app (.one (Wk.empty _ _ _) fun h=>h))))))))))) (WkC.refl _)
  have pu:PuL (aV (⟨⟨s.sto.cfg.a,.sl 34 false (rows al s.sto.latest),.sl 1 false (aH .i64 s.sto.eqv),s.sto.j,s.sto.f,.sl 67 false (rows bp.c s.sto.early),.sl 238 false (rows aO s.sto.orph),.sl 240 false (rows bB s.sto.nodes),s.sto.now,s.sto.boost,.sl 0 true []⟩,.sl 35 false (rows aP s.reqs),.sl 35 false (rows aP s.rets),s.tag,s.sent,s.last,s.over,s.halt⟩:Sta)):=by
   have h:=(Qv _).1 (aI.pulC s);exact(Qv _).2 ⟨⟨h.1.1,h.1.2.1,h.1.2.2.1,h.1.2.2.2.1,h.1.2.2.2.2.1,h.1.2.2.2.2.2.1,trivial⟩,h.2⟩
  have t:=tl _ B V pu ⟨v1.call.wk ⟨wk,trivial⟩,⟨pu,trivial⟩,v1.pr⟩ ⟨v2.call.wk ⟨wk,trivial⟩,⟨pu,trivial⟩,v2.pr⟩;refine aM e ?_;refine eg ?_ t;exact ais [] [0]
 have e:(W==1)=false:=by simp[q1]
 refine aF e ?_;clear e;by_cases q2:W=2
 ·have e:(W==2)=true:=by simp[q2]
  obtain⟨B,V,v1,v2⟩:=IN (⟨⟨s.sto.cfg,s.sto.latest,s.sto.eqv,s.sto.j,s.sto.f,s.sto.early,s.sto.orph,s.sto.nodes,0,s.sto.boost,s.sto.tabs⟩,s.reqs,s.rets,s.tag,s.sent,s.last,s.over,s.halt⟩:aI) ⟨⟨r.bn,r.bl,r.be,r.bt,r.bb,r.bu,r.bo,r.ba,r.bv,r.bc,r.cu,r.uf⟩,T.l6,T.c1,T.c2,T.c3,T.v1,T.j,T.a,T.o,T.n,u0',T.t,T.ql,T.yl,T.q,T.y,T.g⟩;have t:=tl _ B V (aI.pulC _) v1 v2;refine aM e ?_;refine eg ?_ t;exact ais [] [0]
 have e:(W==2)=false:=by simp[q2]
 refine aF e ?_;clear e;by_cases q3:W=3
 ·have e:(W==3)=true:=by simp[q3]
  obtain⟨B,V,v1,v2⟩:=IN (⟨⟨s.sto.cfg,s.sto.latest,s.sto.eqv,s.sto.j,s.sto.f,s.sto.early,s.sto.orph,s.sto.nodes,s.sto.now,zk 3000,s.sto.tabs⟩,s.reqs,s.rets,s.tag,s.sent,s.last,s.over,s.halt⟩:aI) ⟨⟨r.bn,r.bl,r.be,r.bt,r.bb,r.bu,r.bo,r.ba,r.bv,r.bc,r.cu,r.uf⟩,T.l6,T.c1,T.c2,T.c3,T.v1,T.j,T.a,T.o,T.n,T.w,T.t,T.ql,T.yl,T.q,T.y,T.g⟩;have t:=tl _ B V (aI.pulC _) v1 v2;refine aM e ?_;refine ahG (ig _) ?_;refine eg ?_ t;exact ais [] [0]
 have e:(W==3)=false:=by simp[q3]
 refine aF e ?_;clear e;by_cases q4:W=4
 ·have e:(W==4)=true:=by simp[q4]
  obtain⟨B,V,v1,v2⟩:=IN (⟨s.sto,s.reqs,s.rets,s.tag,false,s.last,s.over,s.halt⟩:aI) ⟨r,T.l6,T.c1,T.c2,T.c3,T.v1,T.j,T.a,T.o,T.n,T.w,T.t,T.ql,T.yl,T.q,T.y,T.g⟩;have t:=tl _ B V (aI.pulC _) v1 v2;refine aM e ?_;refine eg ?_ t;exact ais [] [0]
 have e:(W==4)=false:=by simp[q4]
 refine aF e ?_;clear e;by_cases q5:W=5
 ·have e:(W==5)=true:=by simp[q5]
  obtain⟨B,V,v1,v2⟩:=IN (⟨⟨s.sto.cfg,s.sto.latest,s.sto.eqv,s.sto.j,⟨s.sto.f.ep,rt0⟩,s.sto.early,s.sto.orph,s.sto.nodes,s.sto.now,s.sto.boost,s.sto.tabs⟩,s.reqs,s.rets,s.tag,s.sent,s.last,s.over,s.halt⟩:aI) ⟨⟨r.bn,r.bl,r.be,r.bt,r.bb,r.bu,r.bo,r.ba,r.bv,r.bc,r.cu,r.uf⟩,T.l6,T.c1,T.c2,T.c3,T.v1,T.j,T.a,T.o,T.n,T.w,T.t,T.ql,T.yl,T.q,T.y,T.g⟩;have t:=tl _ B V (aI.pulC _) v1 v2;refine aM e ?_;refine eg ?_ t;exact ais [] [0]
 have e:(W==5)=false:=by simp[q5]
 refine aF e ?_;clear e;obtain⟨B,V,v1,v2⟩:=IN s T;have t:=tl _ B V (aI.pulC _) v1 v2;refine eg ?_ t;exact ais [] [0]
end Go.Proofs.YtnjdpnfglgcjcaaGreat
