/- Joined. -/
import Derived.Test.YtmpddimhleianaaGreatE7
import Derived.Test.YtmpddimhleianaaGreatE5
set_option linter.unusedVariables false
set_option linter.unusedSimpArgs false
set_option maxRecDepth 8000
set_option maxHeartbeats 4000000
namespace Go.Proofs.YtmpddimhleianaaGreat
open Go Go.FH Go.RowKit
theorem Pf{c:cU}(hb:c.bals.length<=6)(hu:∀x∈c.bals,0<=x/\x<40)(hbo:0<=c.boost):
 PC Tryz.prog 13 [.agg (bW c.a)] (.tup [.agg (aV (iW c).1.a),.sl 96 false (rows AZ (iW c).2.1),.int .i64 (iW c).2.2])/\
 PC Tryz.prog 14 [.agg (bW c.a)] (.tup [.agg (aV (iW c).1.a),.sl 96 false (rows AZ (iW c).2.1),.int .i64 (iW c).2.2])/\
 PC Tryz.prog 15 [.agg (aV (iW c).1.a),.agg (aV (iW c).1.a)] (.bool true)/\
 PC Tryz.prog 16 [.sl 96 false (rows AZ (iW c).2.1),.sl 96 false (rows AZ (iW c).2.1)] (.bool true):=by
 have hB:qP (kO c):=⟨fun t ht=>by rw[amn.1 ht];exact fun x hx=>by have:=hu x hx;omega,fun x hx=>by have:=hu x hx;omega⟩;have hcp:CpR (kO c):=⟨by simp[kO],by simp[kO];omega,by simp[kO],by simp[kO],fun t ht=>by simp[kO]at ht;subst ht;show c.bals.length<=_;omega,by simp[kO],by simp[kO],fun a ha=>by simp[kO]at ha,by show c.bals.length<=_;omega⟩;have hd:ib c=0->HdR (kO c):=fun h=>(StV.new h).hd (by show 1<=_;omega) (by show c.bals.length<=_;omega) (by show 0<=_;omega) hbo hB (by show 1<=_;omega)
 have hs:ib c=0->StR (kO c):=fun h=>by
  have h2:=hd h;obtain⟨⟨s1,s2⟩,_⟩:=Qb h;have hw:=(StV.new h).w;have:=hw.z1;refine⟨h2.tr,by show c.spe≠0;omega,h2.bn,h2.bl,h2.qb,h2.bt,hcp.bb,hcp.bo,by simp[kO],?_,hw.ll,h2.jr⟩;show c.lim.node<=4096
  unfold ib at h;by_cases q:wit c.lim.node 1 4096=false
  ·simp only[q,amt]at h;(repeat' split at h)<;>cases h
  ·unfold wit at q;simp at q;omega
 refine⟨D7 c Ua (fun x hx=>by have:=hu x hx;omega) fun h=>zg _ ⟨hcp,amc _,amc _⟩ (hd h),GZ c Ua hs,?_,?_⟩
 ·by_cases h:ib c=0
  ·have e:(iW c).1.sto=kO c/\(iW c).1.reqs=[]/\(iW c).1.rets=[]:=by
    unfold iW io;rw[al7 h];dsimp only;split<;>exact⟨rfl,rfl,rfl⟩
   have hS:afM (kO c):=⟨hcp.bn,hcp.bl,hcp.be,by have:=hcp.bt;omega,hcp.bb,hcp.bo,by have:=hcp.ba;omega,hcp.bv,hcp.bc⟩;exact Fq _ (by rw[e.1];exact hS) (by rw[e.2.1];exact amc _) (by rw[e.2.2];exact amc _)
  ·have e:(iW c).1=li:=by unfold iW;rw[al5 h]
   rw[e];exact Fq _ Kc (amc _) (amc _)
 ·refine rN _ ?_;unfold iW;split
  ·have:=C6 ⟨kO c,[],[],1,false,fS,false,false⟩;dsimp only;omega
  ·exact amc _
theorem pc_EngineBegins(l:List Int)(hl:l.length<=maxLen)(hwl:∀z∈l,(Lit.int .i64 z).wf=true)(which:Int)(hwh:(Lit.int .i64 which).wf=true):PC Tryz.prog 3 [.sl 1 false (aH .i64 l),.int .i64 which] (.bool true):=by
 have ca:=sM;refine ae 31 ?_;obtain⟨c,hc,cc⟩:=L9 l;have hb:=hc.r.b1;obtain⟨W,hW⟩:∃W,lI .i64 which 7=W:=⟨_,rfl⟩
 obtain⟨U,hU⟩:∃U,IntKind.u64.wrap (lI .i64 (fJ .i64 which 3) 127)=U:=⟨_,rfl⟩
 have B0:=Pf (c:=⟨c.lim,U,c.boost,c.ttd,c.gen,c.bals⟩) hb hc.bu hc.bo;have B1:=Pf (c:=⟨c.lim,c.spe,c.boost,c.ttd,rt0,c.bals⟩) hb hc.bu hc.bo;have B2:=Pf (c:=⟨c.lim,c.spe,c.boost,c.ttd,c.gen,[]⟩) (amc _) (fun x hx=>by cases hx) hc.bo;have B3:=Pf (c:=⟨⟨0,c.lim.orph,c.lim.early,c.lim.table,c.lim.retry,c.lim.backoff⟩,c.spe,c.boost,c.ttd,c.gen,c.bals⟩) hb hc.bu hc.bo;have B4:=Pf (c:=c) hb hc.bu hc.bo;clear hc hb;by_cases q0:W=0
 ·obtain⟨c1,c2,c3,c4⟩:=B0;clear B1 B2 B3 B4;generalize iW _=T at *;unfold cU.a at *;exact aw
 by_cases q1:W=1
 ·obtain⟨c1,c2,c3,c4⟩:=B1;clear B0 B2 B3 B4;generalize iW _=T at *;unfold cU.a at *;exact aw
 by_cases q2:W=2
 ·obtain⟨c1,c2,c3,c4⟩:=B2
  clear B0 B1 B3 B4;generalize iW _=T at *;unfold cU.a at *
  have hw:Wk (.agg (bW ⟨c.lim,c.spe,c.boost,c.ttd,c.gen,.sl 0 true []⟩)) (.agg (bW ⟨c.lim,c.spe,c.boost,c.ttd,c.gen,.sl 1 false (aH .u64 [])⟩)):=by
   refine Wk.agg ?_;unfold bW;dsimp only;exact(WkC.refl _).app (.same _ (.same _ ((WkC.refl _).app ((WkC.refl _).app (.one (Wk.empty _ _ _) fun h=>h)))))
  have hp:PuL (bW ⟨c.lim,c.spe,c.boost,c.ttd,c.gen,.sl 0 true []⟩):=by simp[bW,eJ,PuL,Pu,fy,mg,dI,ju]
  have d1:=pc_wk (args':=[.agg (bW ⟨c.lim,c.spe,c.boost,c.ttd,c.gen,.sl 0 true []⟩)]) c1 ⟨hw,trivial⟩ ⟨hp,trivial⟩;have d2:=pc_wk (args':=[.agg (bW ⟨c.lim,c.spe,c.boost,c.ttd,c.gen,.sl 0 true []⟩)]) c2 ⟨hw,trivial⟩ ⟨hp,trivial⟩;clear hw hp c1 c2;exact aw
 by_cases q3:W=3
 ·obtain⟨c1,c2,c3,c4⟩:=B3;clear B0 B1 B2 B4;generalize iW _=T at *;unfold cU.a at *;exact aw
 ·obtain⟨c1,c2,c3,c4⟩:=B4;clear B0 B1 B2 B3;generalize iW _=T at *;unfold cU.a at *;exact aw
theorem pc_EngineHalts(l:List Int)(hl:l.length<=maxLen)(hwl:∀z∈l,(Lit.int .i64 z).wf=true)(k:Int)(hk:(Lit.int .i64 k).wf=true):PC Tryz.prog 7 [.sl 1 false (aH .i64 l),.int .i64 k] (.bool true):=by
 have ca:=sM;refine ae 10 ?_;obtain⟨s,hg,cs⟩:=EW l;obtain⟨K,hK⟩:=Kw k;obtain⟨x,hx,co⟩:=Iv s 24 hg.a hg.a.sto.cfg.tt 99 K Ua Uc Uc Uc;have c1:=rQ hg Uc hx;have c3:=Fq s hg.ty.sam hg.ty.ql hg.ty.yl;by_cases h:s.halt=true
 ·rw[OP x h]at c1;clear hg hx;exact aw
 have hf:s.halt=false:=by simpa using h
 clear h;by_cases e1:(kl s x).2.2=21
 ·obtain⟨k6,e2⟩:=R3 e1;rw[e2]at c1;clear hg hx e1 e2;unfold aI.a at *;dsimp only at c1;simp only[hf]at cs co c1 c3;exact aw
 by_cases e0:(kl s x).2.2=0
 ·obtain⟨_,ht⟩:=R6 e0;rw[e0]at c1;generalize kl s x=T at *;clear hg hx e1 e0;unfold aI.a at *;simp only[hf]at cs co c1 c3;simp only[ht]at c1;exact aw
 ·obtain⟨a,b⟩:=R5 e0 e1;rw[a,b]at c1;generalize (kl s x).2.2=e at *;clear hg hx a b;exact aw
end Go.Proofs.YtmpddimhleianaaGreat
