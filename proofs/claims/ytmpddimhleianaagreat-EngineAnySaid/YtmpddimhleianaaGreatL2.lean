/- Joined. -/
import Derived.Test.YtmpddimhleianaaGreatE7
import Derived.Test.YtmpddimhleianaaGreatW3
set_option linter.unusedVariables false
set_option linter.unusedSimpArgs false
set_option maxRecDepth 8000
set_option maxHeartbeats 4000000
namespace Go.Proofs.YtmpddimhleianaaGreat
open Go Go.FH Go.RowKit
theorem S7{x:SOp}(h:x.Ok):∃v:VOp,x=v.a/\(v.att.vals.length<=50->v.slg.fst.vals.length<=50->v.slg.snd.vals.length<=50->v.tab.bals.length<=50->OpE v):=by
 obtain⟨kind,blk,⟨as_,ar,at_,av⟩,⟨⟨c1,c2,c3,c4⟩,⟨d1,d2,d3,d4⟩⟩,⟨tc,tb⟩,vdt,w,p⟩:=x;obtain⟨l,hv,hl,hw⟩:=h.att.vals;obtain⟨l1,hv1,hl1,hw1⟩:=h.slg.fst.vals;obtain⟨l2,hv2,hl2,hw2⟩:=h.slg.snd.vals;obtain⟨lt,hvt,hlt,hwt⟩:=h.tab.bals;dsimp only at hv hv1 hv2 hvt;subst hv hv1 hv2 hvt;refine⟨⟨kind,blk,⟨as_,ar,at_,l⟩,⟨⟨c1,c2,c3,l1⟩,⟨d1,d2,d3,l2⟩⟩,⟨tc,lt⟩,vdt,w,p⟩,rfl,fun b1 b2 b3 b4=>?_⟩;dsimp only at b1 b2 b3 b4;have bu:NQ blk:=⟨U64.of h.blk.slot,U64.of h.blk.just.ep,U64.of h.blk.fin.ep,U64.of h.blk.pul.j.ep,U64.of h.blk.pul.f.ep⟩
 exact⟨⟨⟨U64.of h.blk.slot,U64.of h.blk.just.ep,U64.of h.blk.fin.ep,U64.of h.blk.pul.j.ep,U64.of h.blk.pul.f.ep,fun n hn=>⟨(h.blk.diff n hn).1,(h.blk.diff n hn).2⟩,fun n hn=>⟨(h.blk.pdiff n hn).1,(h.blk.pdiff n hn).2⟩⟩,⟨by dsimp only;omega,U64.of h.att.slot,U64.of h.att.target.ep⟩,by dsimp only;omega,by dsimp only;omega,by dsimp only;omega,U64.of h.tab.cp.ep⟩,
  ⟨bu,U64.of h.att.slot,U64.of h.att.target.ep,by simp only[toV];omega,⟨U64.of h.slg.fst.src,U64.of h.slg.fst.tgt,rfl,by simp only[toV];omega⟩,⟨U64.of h.slg.snd.src,U64.of h.slg.snd.tgt,rfl,by simp only[toV];omega⟩,⟨U64.of h.tab.cp.ep,rfl,fun n hn=>U64.of (hwt n hn),by simp only[toV];omega⟩,U64.of h.vdt.tag⟩⟩
theorem pc_EngineAny(l:List Int)(hl:l.length<=maxLen)(hwl:∀z∈l,(Lit.int .i64 z).wf=true)(x:SOp)(hx:x.Ok):PC Tryz.prog 5 [.sl 1 false (aH .i64 l),.agg (dj x)] (.bool true):=by
 have ca:=sM;obtain⟨v,rfl,hv⟩:=S7 hx;refine ae 12 ?_;clear hx;by_cases b1:(50:Int)<v.att.vals.length
 ·exact aw
 by_cases b2:(50:Int)<v.slg.fst.vals.length
 ·exact aw
 by_cases b3:(50:Int)<v.slg.snd.vals.length
 ·exact aw
 by_cases b4:(50:Int)<v.tab.bals.length
 ·exact aw
 have he:=hv Ua Ua Ua Ua;obtain⟨s,hg,cs⟩:=EW l;have c1:=xB hg Uc he;have c2:=HF s 24 hg.a Uc v he.r he.u;have hg2:=hg.stepE Uc he;have c3:=Fq (kl s v).1 hg2.ty.sam hg2.ty.ql hg2.ty.yl;have c4:=rN (kl s v).2.1 (by have:=qD s v;omega);generalize kl s v=T at *;clear hg2 hv he;exact aw
end Go.Proofs.YtmpddimhleianaaGreat
