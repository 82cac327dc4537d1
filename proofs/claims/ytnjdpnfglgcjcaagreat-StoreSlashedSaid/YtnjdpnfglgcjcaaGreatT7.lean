/-
 My texts Qm, joined.
-/
import Derived.Test.YtnjdpnfglgcjcaaGreatT6
set_option linter.unusedVariables false
set_option linter.unusedSimpArgs false
set_option maxRecDepth 8000
set_option maxHeartbeats 4000000
namespace Go.Proofs.YtnjdpnfglgcjcaaGreat
open Go Go.FH Go.RowKit
def qS(t:List Nod):List Rt:=t.map (·.blk.root)
def eaE(s:am)(i:Nat):Int:=dr (fk s.early i).vals s.cfg.bals.length
def tI(s:am)(i:Nat):Int:=
 if (cF s.orph i).root=rt0 then 1 else if (cF s.orph i).root∈qS s.nodes then 1 else if (cF s.orph i).root∈(s.orph.take i).map (·.root)then 1 else if (cF s.orph i).parent∈qS s.nodes then 1
 else if (cF s.orph i).timely=true then 1 else if s.now<(cF s.orph i).slot then 1 else if (cF s.orph i).slot<=(bD s.f.ep s.cfg.spe).1 then 1 else 0
def CY(s:am):Bool:=decide (frE (eaE s) (s.early.length-0) 0=0)&&decide (frE (tI s) (s.orph.length-0) 0=0)
theorem Vt(s:am)(hn:s.nodes.length<=1000000)(he:s.early.length<=1000000)(ho:s.orph.length<=1000000)(hv:∀a∈s.early,a.vals.length<=1000000)(hf:U64 s.f.ep):PC Tryz.prog 235 [.agg (aw s.a)] (.bool (CY s)):=by
 refine PC.fact 61 uL (by simp) puA puA ?_;unfold mB;refine bd ?_;unfold CY;obtain⟨E,hE⟩:∃E,E=frE (eaE s) (s.early.length-0) 0:=⟨_,rfl⟩
 obtain⟨O,hO⟩:∃O,O=frE (tI s) (s.orph.length-0) 0:=⟨_,rfl⟩
 rw[<-hE,<-hO];refine gon ?_;refine ay (fun i:Nat=>[(17,.int .i64 i)]) (fun i=>[.var (aw s.a)]) (fun i=>s.early.length-i) (fun i=>i<=s.early.length/\E=frE (eaE s) (s.early.length-i) i) 0 ⟨Nat.zero_le _,hE⟩ ?_ ?_
 ·exact adk [] [0]
 clear hE;rintro i ⟨hi,hE⟩;refine dM ?_;by_cases h1:i<s.early.length
 ·have e1:=inT h1
  have hw:=ah h1 (by omega);have hgd:(rows aW.c s.early).getD i []=bZ (fk s.early i).a:=aM (f:=aW.c) default h1;have hm:fk s.early i∈s.early:=cG default h1;have c1:=ou (fk s.early i).vals false s.cfg.bals.length (by have:=hv _ hm;omega);have hf0:∀ {v:Int},eaE s i=v->v≠0->E=v:=fun h0 h2=>by rw[hE,vV h1 (by rw[h0];exact h2),h0]
  have hf1:eaE s i=0->E=frE (eaE s) (s.early.length-(i+1)) (i+1):=fun h0=>by rw[hE,vU h1 h0]
  clear hE;unfold eaE at hf0 hf1;generalize dr (fk s.early i).vals s.cfg.bals.length=V at *;refine bg e1 ?_;refine ap hgd ?_;refine ai c1 ?_;by_cases q:V=0
  ·have k:(V != 0)=false:=by simp[q]
   refine aQ k ?_;refine ap hw ?_;refine⟨i+1,⟨h1,hf1 q⟩,by omega,?_⟩;exact adk [] [0]
  ·have k:(V != 0)=true:=by simp[q]
   obtain rfl:=hf0 rfl q;rw[au q,Bool.false_and];refine aE k ?_;exact af
 ·obtain rfl:i=s.early.length:=by omega
  have e1:=inF (s.early.length);rw[vT]at hE;subst hE;rw[ak rfl,Bool.true_and];clear hi h1;have c2:=iw (e:=s.f.ep) (p:=s.cfg.spe) hf.1 hf.2;generalize hS:bD s.f.ep s.cfg.spe=S at *;obtain⟨S1,S2⟩:=S;dsimp only at c2;refine aD e1 ?_;refine acT c2 ?_;refine ay (fun x:Nat×List Rt=>[(46,.int .i64 x.1)]) (fun x=>[.var (aw s.a),.map (mrt x.2)]) (fun x=>s.nodes.length-x.1) (fun x=>x.1<=s.nodes.length/\∀r,r∈x.2↔r∈qS (s.nodes.take x.1)) (0,[]) ⟨Nat.zero_le _,fun r=>by simp[qS]⟩ ?_ ?_
  ·dsimp only;rw[show mrt []=[]from rfl];exact adk [] [0,1]
  clear e1;rintro⟨i,m⟩ ⟨hi,hm⟩;dsimp only at hi hm ⊢;refine dM ?_;by_cases h1:i<s.nodes.length
  ·have e1:=inT h1
   have hw:=ah h1 (by omega);have hgd:(rows aP s.nodes).getD i []=aP (nod s.nodes i):=aM (f:=aP) jm h1
   have hps:qS (s.nodes.take (i+1))=qS (s.nodes.take i)++[(nod s.nodes i).blk.root]:=by
    unfold qS;rw[List.take_add_one,List.getElem?_eq_getElem h1,List.map_append];unfold nod;rw[List.getD_eq_getElem?_getD,List.getElem?_eq_getElem h1];rfl
   generalize nod s.nodes i=x at *;refine bg e1 ?_;refine ap hgd ?_;by_cases q:x.blk.root∈m
   ·obtain⟨j,j1,j2,j3⟩:=uk q
    refine cZ j1 j3 hw ?_;refine⟨(i+1,m),⟨h1,fun r=>?_⟩,by dsimp only;omega,?_⟩
    ·dsimp only;rw[hps,List.mem_append,<-hm,List.mem_singleton];exact⟨.inl,fun h=>h.elim id fun h=>h▸q⟩
    ·exact adk [] [0,1]
   ·have j1:=AA q
    refine aO j1 hw ?_;refine⟨(i+1,m++[x.blk.root]),⟨h1,fun r=>?_⟩,by dsimp only;omega,?_⟩
    ·dsimp only;rw[hps,List.mem_append,List.mem_append,<-hm]
    ·exact adk [] [0,1]
  ·obtain rfl:i=s.nodes.length:=by omega
   have e1:=inF (s.nodes.length);rw[List.take_length]at hm;clear hi h1;refine aD e1 ?_;refine ay (fun i:Nat=>[(60,.int .i64 i)]) (fun i=>[.var (aw s.a),.map (mrt m),.map (mrt ((s.orph.take i).map (·.root)))]) (fun i=>s.orph.length-i) (fun i=>i<=s.orph.length/\O=frE (tI s) (s.orph.length-i) i) 0 ⟨Nat.zero_le _,hO⟩ ?_ ?_
   ·rw[List.take_zero,List.map_nil,show mrt []=[]from rfl];exact adk [] [0,1,2]
   clear hO e1;rintro i ⟨hi,hO⟩;refine dM ?_;by_cases h1:i<s.orph.length
   ·have e1:=inT h1
    have hw:=ah h1 (by omega);have hgd:(rows aA s.orph).getD i []=aA (cF s.orph i):=aM (f:=aA) dO h1
    have hps:(s.orph.take (i+1)).map (·.root)=(s.orph.take i).map (·.root)++[(cF s.orph i).root]:=by
     rw[List.take_add_one,List.getElem?_eq_getElem h1,List.map_append];unfold cF;rw[List.getD_eq_getElem?_getD,List.getElem?_eq_getElem h1];rfl
    have hf0:∀ {v:Int},tI s i=v->v≠0->O=v:=fun h0 h2=>by rw[hO,vV h1 (by rw[h0];exact h2),h0]
    have hf1:tI s i=0->O=frE (tI s) (s.orph.length-(i+1)) (i+1):=fun h0=>by rw[hO,vU h1 h0]
    clear hO;obtain⟨G,hG⟩:∃G,G=frE (tI s) (s.orph.length-(i+1)) (i+1):=⟨_,rfl⟩
    rw[<-hG]at hf1;unfold tI at hf0 hf1;rw[hS]at hf0 hf1;dsimp only at hf0 hf1;have c3:=jk (cF s.orph i).root;generalize cF s.orph i=x at *;generalize (s.orph.take i).map (·.root)=u at *;refine bg e1 ?_;refine ap hgd ?_;refine ai c3 ?_;by_cases q1:x.root=rt0
    ·have k1:=ak q1;obtain rfl:=hf0 (if_pos q1) (by decide);refine aE k1 ?_;exact af
    have k1:=au q1;rw[if_neg q1]at hf0 hf1;by_cases q2:x.root∈m
    ·obtain⟨j,j1,j2,j3⟩:=uk q2;obtain rfl:=hf0 (if_pos ((hm _).1 q2)) (by decide);refine fK k1 j1 j2 ?_;exact af
    have j1:=AA q2;rw[if_neg (fun h=>q2 ((hm _).2 h))]at hf0 hf1;by_cases q3:x.root∈u
    ·obtain⟨j,l1,l2,l3⟩:=uk q3;obtain rfl:=hf0 (if_pos q3) (by decide);refine qM k1 j1 l1 l2 ?_;exact af
    have l1:=AA q3;rw[if_neg q3]at hf0 hf1;by_cases q4:x.parent∈m
    ·obtain⟨j,n1,n2,n3⟩:=uk q4;obtain rfl:=hf0 (if_pos ((hm _).1 q4)) (by decide);refine eO k1 j1 l1 n1 n2 ?_;refine abX ?_;exact af
    have n1:=AA q4;rw[if_neg (fun h=>q4 ((hm _).2 h))]at hf0 hf1;by_cases q5:x.timely=true
    ·have k5:=q5;obtain rfl:=hf0 (if_pos q5) (by decide);refine eO k1 j1 l1 n1 k5 ?_;refine abX ?_;exact af
    have k5:x.timely=false:=by simpa using q5
    rw[if_neg q5]at hf0 hf1;by_cases q6:s.now<x.slot
    ·have k6:=ak q6;have k6':decide (x.slot > s.now)=true:=k6;obtain rfl:=hf0 (if_pos q6) (by decide);refine jN k1 j1 l1 n1 k5 k6 k6' ?_;refine abX ?_;exact af
    have k6:=au q6;have k6':decide (x.slot > s.now)=false:=k6;rw[if_neg q6]at hf0 hf1;by_cases q7:x.slot<=S1
    ·have k7:=ak q7;obtain rfl:=hf0 (if_pos q7) (by decide);refine th k1 j1 l1 n1 k5 k6 k6' k7 ?_;refine abX ?_;exact af
    have k7:=au q7;rw[if_neg q7]at hf0 hf1;refine th k1 j1 l1 n1 k5 k6 k6' k7 ?_;refine aB ?_;refine aO l1 hw ?_;refine⟨i+1,⟨h1,(hf1 rfl).trans hG⟩,by omega,?_⟩;rw[hps];exact adk [] [0,1,2]
   ·obtain rfl:i=s.orph.length:=by omega
    have e1:=inF (s.orph.length);rw[vT]at hO;subst hO;refine aD e1 ?_;exact af
def rS(s:am):Int:=
 if iH s.cfg≠0 then iH s.cfg else if statV s.nodes≠0 then statV s.nodes
 else if s.cfg.lim.node<s.nodes.length then 11 else if s.cfg.lim.orph<s.orph.length then 11 else if s.cfg.lim.early<s.early.length then 11 else if s.cfg.lim.table<s.tabs.length then 11
 else if CT s=false then 2 else if (decide (frE (kI s) (s.tabs.length-0) 0=0)&&orN (fun i=>decide ((tab s.tabs i).cp=s.j)) s.tabs.length)=false then 2
 else if pB s=false then 2 else if pv s=false then 2 else if CY s=false then 2 else 0
structure abl(s:am):Prop where
 bn:s.nodes.length<=1000000
 bl:s.latest.length<=1000000
 be:s.eqv.length<=1000000
 bt:s.tabs.length<=1000000
 bb:∀t∈s.tabs,t.bals.length<=1000000
 bu:∀t∈s.tabs,∀x∈t.bals,0<=x/\x<18446744073709551616
 bo:s.orph.length<=1000000
 ba:s.early.length<=1000000
 bv:∀a∈s.early,a.vals.length<=1000000
 bc:s.cfg.bals.length<=1000000
 cu:∀x∈s.cfg.bals,0<=x/\x<18446744073709551616
 uf:U64 s.f.ep
theorem Vw(s:am)(h:abl s):PC Tryz.prog 107 [.agg (aw s.a)] (.int .i64 (rS s)):=by
 refine PC.fact 5 Ag (by simp) puA puA ?_;unfold pW;refine bd ?_;obtain⟨R,hR⟩:∃R,R=rS s:=⟨_,rfl⟩
 rw[<-hR];unfold rS at hR;have c1:=JA s.cfg h.bc h.cu;have c2:=OZ s.nodes h.bn
 have hpos:statV s.nodes=0->0<s.nodes.length:=fun h0=>by
  unfold statV at h0;split at h0
  ·rename_i h1;exact absurd h0 h1
  ·rename_i h1;exact(zy (by simpa using h1)).1.pos
 have c3:=fun h0=>Vp s h.bn h0 h.uf
 have c4:=RO s h.bt h.bb h.bu;have c5:=O1 s h.bl h.be;have c6:=OX s h.bn;have c7:=Vt s h.bn h.ba h.bo h.bv h.uf;generalize iH s.cfg=V1 at *;generalize statV s.nodes=V2 at *;generalize CT s=V3 at *;generalize (decide (frE (kI s) (s.tabs.length-0) 0=0)&&orN (fun i=>decide ((tab s.tabs i).cp=s.j)) s.tabs.length)=V4 at *;generalize pB s=V5 at *;generalize pv s=V6 at *;generalize CY s=V7 at *;refine gon ?_;refine ai c1 ?_;by_cases q1:V1=0
 case neg=>
  have k:(V1 != 0)=true:=by simp[q1]
  rw[if_pos q1]at hR;subst hR;refine aE k ?_;exact af
 have k:(V1 != 0)=false:=by simp[q1]
 rw[if_neg (by simp[q1])]at hR;refine aD k ?_;refine ai c2 ?_;by_cases q2:V2=0
 case neg=>
  have k:(V2 != 0)=true:=by simp[q2]
  rw[if_pos q2]at hR;subst hR;refine aE k ?_;exact af
 have k:(V2 != 0)=false:=by simp[q2]
 rw[if_neg (by simp[q2])]at hR;have c3:=c3 (hpos q2);refine aQ k ?_;by_cases q3:s.cfg.lim.node<(s.nodes.length:Int)
 ·have k3:decide ((s.nodes.length:Int) > s.cfg.lim.node)=true:=ak q3;have k3':decide (s.cfg.lim.node<(s.nodes.length:Int))=true:=ak q3;rw[if_pos q3]at hR;subst hR;refine cn k3 k3' ?_;exact af
 have k3:decide ((s.nodes.length:Int) > s.cfg.lim.node)=false:=au q3;have k3':decide (s.cfg.lim.node<(s.nodes.length:Int))=false:=au q3;rw[if_neg q3]at hR;by_cases q4:s.cfg.lim.orph<(s.orph.length:Int)
 ·have k4:decide ((s.orph.length:Int) > s.cfg.lim.orph)=true:=ak q4;have k4':decide (s.cfg.lim.orph<(s.orph.length:Int))=true:=ak q4;rw[if_pos q4]at hR;subst hR;refine qM k3 k3' k4 k4' ?_;exact af
 have k4:decide ((s.orph.length:Int) > s.cfg.lim.orph)=false:=au q4;have k4':decide (s.cfg.lim.orph<(s.orph.length:Int))=false:=au q4;rw[if_neg q4]at hR;by_cases q5:s.cfg.lim.early<(s.early.length:Int)
 ·have k5:decide ((s.early.length:Int) > s.cfg.lim.early)=true:=ak q5;have k5':decide (s.cfg.lim.early<(s.early.length:Int))=true:=ak q5;rw[if_pos q5]at hR;subst hR;refine eI k3 k3' k4 k4' k5 k5' ?_;refine abX ?_;exact af
 have k5:decide ((s.early.length:Int) > s.cfg.lim.early)=false:=au q5;have k5':decide (s.cfg.lim.early<(s.early.length:Int))=false:=au q5;rw[if_neg q5]at hR;by_cases q6:s.cfg.lim.table<(s.tabs.length:Int)
 ·have k6:decide ((s.tabs.length:Int) > s.cfg.lim.table)=true:=ak q6;have k6':decide (s.cfg.lim.table<(s.tabs.length:Int))=true:=ak q6;rw[if_pos q6]at hR;subst hR;refine th k3 k3' k4 k4' k5 k5' k6 k6' ?_;refine abX ?_;exact af
 have k6:decide ((s.tabs.length:Int) > s.cfg.lim.table)=false:=au q6;have k6':decide (s.cfg.lim.table<(s.tabs.length:Int))=false:=au q6;rw[if_neg q6]at hR;refine th k3 k3' k4 k4' k5 k5' k6 k6' ?_;refine abW ?_;refine ai c3 ?_;cases V3 with
 | false =>
   rw[if_pos rfl]at hR;subst hR;refine aV ?_;exact af
 |true=>
 rw[if_neg (by simp)]at hR;refine gon ?_;refine ai c4 ?_;cases V4 with
 | false =>
   rw[if_pos rfl]at hR;subst hR;refine aV ?_;exact af
 |true=>
 rw[if_neg (by simp)]at hR;refine gon ?_;refine ai c5 ?_;cases V5 with
 | false =>
   rw[if_pos rfl]at hR;subst hR;refine aV ?_;exact af
 |true=>
 rw[if_neg (by simp)]at hR;refine gon ?_;refine ai c6 ?_;cases V6 with
 | false =>
   rw[if_pos rfl]at hR;subst hR;refine aV ?_;exact af
 |true=>
 rw[if_neg (by simp)]at hR;refine gon ?_;refine ai c7 ?_;cases V7 with
 | false =>
   rw[if_pos rfl]at hR;subst hR;refine aV ?_;exact af
 |true=>
 rw[if_neg (by simp)]at hR;refine bh ?_;subst hR;exact af
end Go.Proofs.YtnjdpnfglgcjcaaGreat
