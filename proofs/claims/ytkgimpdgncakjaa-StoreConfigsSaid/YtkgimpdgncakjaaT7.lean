/-
 My texts Qm, joined.
-/
import Derived.Test.YtkgimpdgncakjaaT6
namespace Go.Proofs.Ytkgimpdgncakjaa
open Go Go.FH Go.RowKit
set_option linter.unusedVariables false
set_option linter.unusedSimpArgs false
set_option maxRecDepth 8000
set_option maxHeartbeats 4000000
def jW_(t:List Nod):List Rt:=t.map (·.blk.root)
def eaE(s:ag_)(i:Nat):Int:=fV_ (dG_ s.early i).vals s.cfg.bals.length
def tK_(s:ag_)(i:Nat):Int:=
 if (gT_ s.orph i).root=rt0 then 1 else if (gT_ s.orph i).root∈jW_ s.nodes then 1 else if (gT_ s.orph i).root∈(s.orph.take i).map (·.root)then 1 else if (gT_ s.orph i).parent∈jW_ s.nodes then 1
 else if (gT_ s.orph i).timely=true then 1 else if s.now<(gT_ s.orph i).slot then 1 else if (gT_ s.orph i).slot≤(bL_ s.f.ep s.cfg.spe).1 then 1 else 0
def AS_(s:ag_):Bool:=decide (frE (eaE s) (s.early.length-0) 0=0)&&decide (frE (tK_ s) (s.orph.length-0) 0=0)
theorem yn_(s:ag_)(hn:s.nodes.length≤1000000)(he:s.early.length≤1000000)(ho:s.orph.length≤1000000)(hv:∀a∈s.early,a.vals.length≤1000000)(hf:U64 s.f.ep):PC Try.prog 37 [.agg (ak_ s.a)] (.bool (AS_ s)):=by
 refine PC.fact 61 iQ_ (by simp) puA puA ?_;unfold fb_;refine bd ?_;unfold AS_;obtain⟨E,hE⟩:∃E,E=frE (eaE s) (s.early.length-0) 0:=⟨_,rfl⟩
 obtain⟨O,hO⟩:∃O,O=frE (tK_ s) (s.orph.length-0) 0:=⟨_,rfl⟩
 rw[←hE,←hO];try refine aa_ ?_
 refine aE_ (fun i:Nat=>[(17,.int .i64 i)]) (fun i=>[.var (ak_ s.a)]) (fun i=>s.early.length-i) (fun i=>i≤s.early.length∧E=frE (eaE s) (s.early.length-i) i) 0 ⟨Nat.zero_le _,hE⟩ ?_ ?_
 ·exact GH_ [] [0]
 clear hE;rintro i ⟨hi,hE⟩;refine eP_ ?_;by_cases h1:i<s.early.length
 ·have e1:=inT h1
  have hw:=ai_ h1 (by omega);have hgd:(rows aB_.c s.early).getD i []=bg_ (dG_ s.early i).a:=aR_ (f:=aB_.c) default h1;have hm:dG_ s.early i∈s.early:=dy_ default h1;have c1:=kd_ (dG_ s.early i).vals false s.cfg.bals.length (by have:=hv _ hm;omega);have hf0:∀ {v:Int},eaE s i=v→v≠0→E=v:=fun h0 h2=>by rw[hE,tk_ h1 (by rw[h0];exact h2),h0]
  have hf1:eaE s i=0→E=frE (eaE s) (s.early.length-(i+1)) (i+1):=fun h0=>by rw[hE,tj_ h1 h0]
  clear hE;unfold eaE at hf0 hf1;generalize fV_ (dG_ s.early i).vals s.cfg.bals.length=V at *;repeat(first|refine aa_ ?_|simp only[go_sem,e1])
  refine ab_ ?_;repeat(first|refine aa_ ?_|simp only[go_sem,hgd])
  refine aA_ c1 ?_;by_cases q:V=0
  ·have k:(V != 0)=false:=by simp[q]
   repeat(first|refine aa_ ?_|simp only[go_sem,k])
   refine ac_ ?_;repeat(first|refine aa_ ?_|simp only[go_sem,hw])
   refine⟨i+1,⟨h1,hf1 q⟩,by omega,?_⟩;exact GH_ [] [0]
  ·have k:(V != 0)=true:=by simp[q]
   obtain rfl:=hf0 rfl q;rw[decide_eq_false q,Bool.false_and];repeat(first|refine aa_ ?_|simp only[go_sem,k])
   refine EB_ ?_
   exact am_
 ·obtain rfl:i=s.early.length:=by omega
  have e1:=inF (s.early.length);rw[ti_]at hE;subst hE;rw[decide_eq_true rfl,Bool.true_and];clear hi h1;have c2:=eU_ (e:=s.f.ep) (p:=s.cfg.spe) hf.1 hf.2;generalize hS:bL_ s.f.ep s.cfg.spe=S at *;obtain⟨S1,S2⟩:=S;dsimp only at c2;repeat(first|refine aa_ ?_|simp only[go_sem,e1])
  refine EA_ ?_
  refine FZ_ c2 ?_
  refine aE_ (fun x:Nat×List Rt=>[(46,.int .i64 x.1)]) (fun x=>[.var (ak_ s.a),.map (mrt x.2)]) (fun x=>s.nodes.length-x.1) (fun x=>x.1≤s.nodes.length∧∀r,r∈x.2↔r∈jW_ (s.nodes.take x.1)) (0,[]) ⟨Nat.zero_le _,fun r=>by simp[jW_]⟩ ?_ ?_
  ·dsimp only;rw[show mrt []=[]from rfl];exact GH_ [] [0,1]
  clear e1;rintro⟨i,m⟩ ⟨hi,hm⟩;dsimp only at hi hm ⊢;refine eP_ ?_;by_cases h1:i<s.nodes.length
  ·have e1:=inT h1
   have hw:=ai_ h1 (by omega);have hgd:(rows av_ s.nodes).getD i []=av_ (nod s.nodes i):=aR_ (f:=av_) fX_ h1
   have hps:jW_ (s.nodes.take (i+1))=jW_ (s.nodes.take i)++[(nod s.nodes i).blk.root]:=by
    unfold jW_;rw[List.take_add_one,List.getElem?_eq_getElem h1,List.map_append];unfold nod;rw[List.getD_eq_getElem?_getD,List.getElem?_eq_getElem h1];rfl
   generalize nod s.nodes i=x at *;repeat(first|refine aa_ ?_|simp only[go_sem,e1])
   refine ab_ ?_;repeat(first|refine aa_ ?_|simp only[go_sem,hgd])
   by_cases q:x.blk.root∈m
   ·obtain⟨j,j1,j2,j3⟩:=iI_ q
    repeat(first|refine aa_ ?_|simp only[go_sem,j1,j3,hw])
    refine⟨(i+1,m),⟨h1,fun r=>?_⟩,by dsimp only;omega,?_⟩
    ·dsimp only;rw[hps,List.mem_append,←hm,List.mem_singleton];exact⟨.inl,fun h=>h.elim id fun h=>h▸q⟩
    ·exact GH_ [] [0,1]
   ·have j1:=lm_ q
    repeat(first|refine aa_ ?_|simp only[go_sem,j1,hw])
    refine⟨(i+1,m++[x.blk.root]),⟨h1,fun r=>?_⟩,by dsimp only;omega,?_⟩
    ·dsimp only;rw[hps,List.mem_append,List.mem_append,←hm]
    ·exact GH_ [] [0,1]
  ·obtain rfl:i=s.nodes.length:=by omega
   have e1:=inF (s.nodes.length);rw[List.take_length]at hm;clear hi h1;repeat(first|refine aa_ ?_|simp only[go_sem,e1])
   refine EA_ ?_
   refine aE_ (fun i:Nat=>[(60,.int .i64 i)]) (fun i=>[.var (ak_ s.a),.map (mrt m),.map (mrt ((s.orph.take i).map (·.root)))]) (fun i=>s.orph.length-i) (fun i=>i≤s.orph.length∧O=frE (tK_ s) (s.orph.length-i) i) 0 ⟨Nat.zero_le _,hO⟩ ?_ ?_
   ·rw[List.take_zero,List.map_nil,show mrt []=[]from rfl];exact GH_ [] [0,1,2]
   clear hO e1;rintro i ⟨hi,hO⟩;refine eP_ ?_;by_cases h1:i<s.orph.length
   ·have e1:=inT h1
    have hw:=ai_ h1 (by omega);have hgd:(rows aw_ s.orph).getD i []=aw_ (gT_ s.orph i):=aR_ (f:=aw_) eW_ h1
    have hps:(s.orph.take (i+1)).map (·.root)=(s.orph.take i).map (·.root)++[(gT_ s.orph i).root]:=by
     rw[List.take_add_one,List.getElem?_eq_getElem h1,List.map_append];unfold gT_;rw[List.getD_eq_getElem?_getD,List.getElem?_eq_getElem h1];rfl
    have hf0:∀ {v:Int},tK_ s i=v→v≠0→O=v:=fun h0 h2=>by rw[hO,tk_ h1 (by rw[h0];exact h2),h0]
    have hf1:tK_ s i=0→O=frE (tK_ s) (s.orph.length-(i+1)) (i+1):=fun h0=>by rw[hO,tj_ h1 h0]
    clear hO;obtain⟨G,hG⟩:∃G,G=frE (tK_ s) (s.orph.length-(i+1)) (i+1):=⟨_,rfl⟩
    rw[←hG]at hf1;unfold tK_ at hf0 hf1;rw[hS]at hf0 hf1;dsimp only at hf0 hf1;have c3:=nB_ (gT_ s.orph i).root;generalize gT_ s.orph i=x at *;generalize (s.orph.take i).map (·.root)=u at *;repeat(first|refine aa_ ?_|simp only[go_sem,e1])
    refine ab_ ?_;repeat(first|refine aa_ ?_|simp only[go_sem,hgd])
    refine aA_ c3 ?_;by_cases q1:x.root=rt0
    ·have k1:=decide_eq_true q1;obtain rfl:=hf0 (if_pos q1) (by decide);repeat(first|refine aa_ ?_|simp only[go_sem,k1])
     refine EB_ ?_
     exact am_
    have k1:=decide_eq_false q1;rw[if_neg q1]at hf0 hf1;by_cases q2:x.root∈m
    ·obtain⟨j,j1,j2,j3⟩:=iI_ q2;obtain rfl:=hf0 (if_pos ((hm _).1 q2)) (by decide);repeat(first|refine aa_ ?_|simp only[go_sem,k1,j1,j2])
     refine EB_ ?_
     exact am_
    have j1:=lm_ q2;rw[if_neg (fun h=>q2 ((hm _).2 h))]at hf0 hf1;by_cases q3:x.root∈u
    ·obtain⟨j,l1,l2,l3⟩:=iI_ q3;obtain rfl:=hf0 (if_pos q3) (by decide);repeat(first|refine aa_ ?_|simp only[go_sem,k1,j1,l1,l2])
     refine EB_ ?_
     exact am_
    have l1:=lm_ q3;rw[if_neg q3]at hf0 hf1;by_cases q4:x.parent∈m
    ·obtain⟨j,n1,n2,n3⟩:=iI_ q4;obtain rfl:=hf0 (if_pos ((hm _).1 q4)) (by decide);repeat(first|refine aa_ ?_|simp only[go_sem,k1,j1,l1,n1,n2])
     refine EB_ ?_
     exact am_
    have n1:=lm_ q4;rw[if_neg (fun h=>q4 ((hm _).2 h))]at hf0 hf1;by_cases q5:x.timely=true
    ·have k5:=q5;obtain rfl:=hf0 (if_pos q5) (by decide);repeat(first|refine aa_ ?_|simp only[go_sem,k1,j1,l1,n1,k5])
     refine EB_ ?_
     exact am_
    have k5:x.timely=false:=by simpa using q5
    rw[if_neg q5]at hf0 hf1;by_cases q6:s.now<x.slot
    ·have k6:=decide_eq_true q6;have k6':decide (x.slot > s.now)=true:=k6;obtain rfl:=hf0 (if_pos q6) (by decide);repeat(first|refine aa_ ?_|simp only[go_sem,k1,j1,l1,n1,k5,k6,k6'])
     refine EB_ ?_
     exact am_
    have k6:=decide_eq_false q6;have k6':decide (x.slot > s.now)=false:=k6;rw[if_neg q6]at hf0 hf1;by_cases q7:x.slot≤S1
    ·have k7:=decide_eq_true q7;obtain rfl:=hf0 (if_pos q7) (by decide);repeat(first|refine aa_ ?_|simp only[go_sem,k1,j1,l1,n1,k5,k6,k6',k7])
     refine EB_ ?_
     exact am_
    have k7:=decide_eq_false q7;rw[if_neg q7]at hf0 hf1;repeat(first|refine aa_ ?_|simp only[go_sem,k1,j1,l1,n1,k5,k6,k6',k7])
    refine ac_ ?_;repeat(first|refine aa_ ?_|simp only[go_sem,l1,hw])
    refine⟨i+1,⟨h1,(hf1 rfl).trans hG⟩,by omega,?_⟩;rw[hps];exact GH_ [] [0,1,2]
   ·obtain rfl:i=s.orph.length:=by omega
    have e1:=inF (s.orph.length);rw[ti_]at hO;subst hO;repeat(first|refine aa_ ?_|simp only[go_sem,e1])
    refine EA_ ?_
    exact am_
def BI_(s:ag_):Int:=
 if hg_ s.cfg≠0 then hg_ s.cfg else if jD_ s.nodes≠0 then jD_ s.nodes
 else if s.cfg.lim.node<s.nodes.length then 11 else if s.cfg.lim.orph<s.orph.length then 11 else if s.cfg.lim.early<s.early.length then 11 else if s.cfg.lim.table<s.tabs.length then 11
 else if ve_ s=false then 2 else if (decide (frE (ow_ s) (s.tabs.length-0) 0=0)&&orN (fun i=>decide ((tab s.tabs i).cp=s.j)) s.tabs.length)=false then 2
 else if lD_ s=false then 2 else if ln_ s=false then 2 else if AS_ s=false then 2 else 0
structure Gc_(s:ag_):Prop where
 bn:s.nodes.length≤1000000
 bl:s.latest.length≤1000000
 be:s.eqv.length≤1000000
 bt:s.tabs.length≤1000000
 bb:∀t∈s.tabs,t.bals.length≤1000000
 bu:∀t∈s.tabs,∀x∈t.bals,0≤x∧x<18446744073709551616
 bo:s.orph.length≤1000000
 ba:s.early.length≤1000000
 bv:∀a∈s.early,a.vals.length≤1000000
 bc:s.cfg.bals.length≤1000000
 cu:∀x∈s.cfg.bals,0≤x∧x<18446744073709551616
 uf:U64 s.f.ep
theorem yr_(s:ag_)(h:Gc_ s):PC Try.prog 11 [.agg (ak_ s.a)] (.int .i64 (BI_ s)):=by
 refine PC.fact 5 lf_ (by simp) puA puA ?_;unfold gE_;refine bd ?_;obtain⟨R,hR⟩:∃R,R=BI_ s:=⟨_,rfl⟩
 rw[←hR];unfold BI_ at hR;have c1:=qz_ s.cfg h.bc h.cu;have c2:=tT_ s.nodes h.bn
 have hpos:jD_ s.nodes=0→0<s.nodes.length:=fun h0=>by
  unfold jD_ at h0;split at h0
  ·rename_i h1;exact absurd h0 h1
  ·rename_i h1;exact(up_ (by simpa using h1)).1.pos
 have c3:=fun h0=>ym_ s h.bn h0 h.uf
 have c4:=vL_ s h.bt h.bb h.bu;have c5:=tV_ s h.bl h.be;have c6:=tQ_ s h.bn;have c7:=yn_ s h.bn h.ba h.bo h.bv h.uf;generalize hg_ s.cfg=V1 at *;generalize jD_ s.nodes=V2 at *;generalize ve_ s=V3 at *;generalize (decide (frE (ow_ s) (s.tabs.length-0) 0=0)&&orN (fun i=>decide ((tab s.tabs i).cp=s.j)) s.tabs.length)=V4 at *;generalize lD_ s=V5 at *;generalize ln_ s=V6 at *;generalize AS_ s=V7 at *;try refine aa_ ?_
 refine aA_ c1 ?_;by_cases q1:V1=0
 case neg=>
  have k:(V1 != 0)=true:=by simp[q1]
  rw[if_pos q1]at hR;subst hR;repeat(first|refine aa_ ?_|simp only[go_sem,k])
  refine EB_ ?_
  exact am_
 have k:(V1 != 0)=false:=by simp[q1]
 rw[if_neg (by simp[q1])]at hR;repeat(first|refine aa_ ?_|simp only[go_sem,k])
 refine EA_ ?_
 refine aA_ c2 ?_;by_cases q2:V2=0
 case neg=>
  have k:(V2 != 0)=true:=by simp[q2]
  rw[if_pos q2]at hR;subst hR;repeat(first|refine aa_ ?_|simp only[go_sem,k])
  refine EB_ ?_
  exact am_
 have k:(V2 != 0)=false:=by simp[q2]
 rw[if_neg (by simp[q2])]at hR;have c3:=c3 (hpos q2);repeat(first|refine aa_ ?_|simp only[go_sem,k])
 refine ac_ ?_;by_cases q3:s.cfg.lim.node<(s.nodes.length:Int)
 ·have k3:decide ((s.nodes.length:Int) > s.cfg.lim.node)=true:=decide_eq_true q3;have k3':decide (s.cfg.lim.node<(s.nodes.length:Int))=true:=decide_eq_true q3;rw[if_pos q3]at hR;subst hR;repeat(first|refine aa_ ?_|simp only[go_sem,k3,k3'])
  refine EB_ ?_
  exact am_
 have k3:decide ((s.nodes.length:Int) > s.cfg.lim.node)=false:=decide_eq_false q3;have k3':decide (s.cfg.lim.node<(s.nodes.length:Int))=false:=decide_eq_false q3;rw[if_neg q3]at hR;by_cases q4:s.cfg.lim.orph<(s.orph.length:Int)
 ·have k4:decide ((s.orph.length:Int) > s.cfg.lim.orph)=true:=decide_eq_true q4;have k4':decide (s.cfg.lim.orph<(s.orph.length:Int))=true:=decide_eq_true q4;rw[if_pos q4]at hR;subst hR;repeat(first|refine aa_ ?_|simp only[go_sem,k3,k3',k4,k4'])
  refine EB_ ?_
  exact am_
 have k4:decide ((s.orph.length:Int) > s.cfg.lim.orph)=false:=decide_eq_false q4;have k4':decide (s.cfg.lim.orph<(s.orph.length:Int))=false:=decide_eq_false q4;rw[if_neg q4]at hR;by_cases q5:s.cfg.lim.early<(s.early.length:Int)
 ·have k5:decide ((s.early.length:Int) > s.cfg.lim.early)=true:=decide_eq_true q5;have k5':decide (s.cfg.lim.early<(s.early.length:Int))=true:=decide_eq_true q5;rw[if_pos q5]at hR;subst hR;repeat(first|refine aa_ ?_|simp only[go_sem,k3,k3',k4,k4',k5,k5'])
  refine EB_ ?_
  exact am_
 have k5:decide ((s.early.length:Int) > s.cfg.lim.early)=false:=decide_eq_false q5;have k5':decide (s.cfg.lim.early<(s.early.length:Int))=false:=decide_eq_false q5;rw[if_neg q5]at hR;by_cases q6:s.cfg.lim.table<(s.tabs.length:Int)
 ·have k6:decide ((s.tabs.length:Int) > s.cfg.lim.table)=true:=decide_eq_true q6;have k6':decide (s.cfg.lim.table<(s.tabs.length:Int))=true:=decide_eq_true q6;rw[if_pos q6]at hR;subst hR;repeat(first|refine aa_ ?_|simp only[go_sem,k3,k3',k4,k4',k5,k5',k6,k6'])
  refine EB_ ?_
  exact am_
 have k6:decide ((s.tabs.length:Int) > s.cfg.lim.table)=false:=decide_eq_false q6;have k6':decide (s.cfg.lim.table<(s.tabs.length:Int))=false:=decide_eq_false q6;rw[if_neg q6]at hR;repeat(first|refine aa_ ?_|simp only[go_sem,k3,k3',k4,k4',k5,k5',k6,k6'])
 refine EA_ ?_
 refine aA_ c3 ?_;cases V3 with
 | false =>
   rw[if_pos rfl]at hR;subst hR;try refine aa_ ?_
   refine EB_ ?_
   exact am_
 |true=>
 rw[if_neg (by simp)]at hR;try refine aa_ ?_
 refine aA_ c4 ?_;cases V4 with
 | false =>
   rw[if_pos rfl]at hR;subst hR;try refine aa_ ?_
   refine EB_ ?_
   exact am_
 |true=>
 rw[if_neg (by simp)]at hR;try refine aa_ ?_
 refine aA_ c5 ?_;cases V5 with
 | false =>
   rw[if_pos rfl]at hR;subst hR;try refine aa_ ?_
   refine EB_ ?_
   exact am_
 |true=>
 rw[if_neg (by simp)]at hR;try refine aa_ ?_
 refine aA_ c6 ?_;cases V6 with
 | false =>
   rw[if_pos rfl]at hR;subst hR;try refine aa_ ?_
   refine EB_ ?_
   exact am_
 |true=>
 rw[if_neg (by simp)]at hR;try refine aa_ ?_
 refine aA_ c7 ?_;cases V7 with
 | false =>
   rw[if_pos rfl]at hR;subst hR;try refine aa_ ?_
   refine EB_ ?_
   exact am_
 |true=>
 rw[if_neg (by simp)]at hR;try refine aa_ ?_
 refine EA_ ?_
 subst hR;exact am_
end Go.Proofs.Ytkgimpdgncakjaa
