/-
 My texts Ql, joined.
-/
import Derived.Test.YtkgimpdgncakjaaT5
namespace Go.FH
open Go Go.RowKit
def orN(p:Nat→Bool):Nat→Bool
 |0=>false
 |k+1=>orN p k || p k
end Go.FH
namespace Go.Proofs.Ytkgimpdgncakjaa
open Go Go.FH Go.RowKit
set_option linter.unusedVariables false
set_option linter.unusedSimpArgs false
set_option maxRecDepth 8000
set_option maxHeartbeats 4000000
theorem vL_(s:ag_)(hb:s.tabs.length≤1000000)(hbb:∀t∈s.tabs,t.bals.length≤1000000)(hu:∀t∈s.tabs,∀x∈t.bals,0≤x∧x<18446744073709551616):
 PC Try.prog 34 [.agg (ak_ s.a)] (.bool (decide (frE (ow_ s) (s.tabs.length-0) 0=0)&&orN (fun i=>decide ((tab s.tabs i).cp=s.j)) s.tabs.length)):=by
 refine PC.fact 10 iR_ (by simp) puA puA ?_;unfold fc_;refine bd ?_;obtain⟨F,hF⟩:∃F,F=frE (ow_ s) (s.tabs.length-0) 0:=⟨_,rfl⟩
 rw[←hF];try refine aa_ ?_
 refine aE_ (fun i:Nat=>[(9,.int .i64 i),(3,.bool (orN (fun i=>decide ((tab s.tabs i).cp=s.j)) i))]) (fun i=>[.var (ak_ s.a)]) (fun i=>s.tabs.length-i) (fun i=>i≤s.tabs.length∧F=frE (ow_ s) (s.tabs.length-i) i) 0 ⟨Nat.zero_le _,hF⟩ ?_ ?_
 ·exact GH_ [] [0]
 clear hF;rintro i ⟨hi,hn⟩;refine eP_ ?_;by_cases h1:i<s.tabs.length
 ·have e1:=inT h1
  have hw:=ai_ h1 (by omega);have hgd:(rows as_.c s.tabs).getD i []=bj_ (tab s.tabs i).a:=aR_ (f:=as_.c) default h1;have hm:tab s.tabs i∈s.tabs:=dy_ default h1;have hgp:(rows as_.c s.tabs).getD (i-1) []=bj_ (tab s.tabs (i-1)).a:=aR_ (f:=as_.c) default (by omega);have c1:=yj_ (tab s.tabs (i-1)) (tab s.tabs i);have c2:=mW_ (tab s.tabs i) s.cfg.bals.length (hbb _ hm) (hu _ hm);have hf0:∀ {v:Int},ow_ s i=v→v≠0→F=v:=fun h0 h2=>by rw[hn,tk_ h1 (by rw[h0];exact h2),h0]
  have hf:ow_ s i=0→F=frE (ow_ s) (s.tabs.length-(i+1)) (i+1):=fun h0=>by rw[hn,tj_ h1 h0]
  clear hn;unfold ow_ at hf0 hf;have hor:orN (fun i=>decide ((tab s.tabs i).cp=s.j)) (i+1)=(orN (fun i=>decide ((tab s.tabs i).cp=s.j)) i || decide ((tab s.tabs i).cp=s.j)):=rfl;generalize orN (fun i=>decide ((tab s.tabs i).cp=s.j)) i=W at *;generalize tab s.tabs (i-1)=y at *;generalize tab s.tabs i=x at *;generalize dD_ x s.cfg.bals.length=V at *;generalize uN_ y.cp x.cp=C at *;repeat(first|refine aa_ ?_|simp only[go_sem,e1])
  refine ab_ ?_;by_cases qi:i=0
  ·have ki:decide ((i:Int) > 0)=false:=decide_eq_false (by omega)
   have ki':decide ((0:Int)<(i:Int))=false:=decide_eq_false (by omega);rw[if_neg (fun h=>by omega)]at hf0 hf;repeat(first|refine aa_ ?_|simp only[go_sem,hgd,ki,ki'])
   refine co_ (c2) ?_;by_cases q3:V=0
   case neg=>
    have k3:(V != 0)=true:=by simp[q3]
    obtain rfl:=hf0 (if_pos q3) (by decide);repeat(first|refine aa_ ?_|simp only[go_sem,k3])
    refine EB_ ?_
    exact am_
   have k3:(V != 0)=false:=by simp[q3]
   repeat(first|refine aa_ ?_|simp only[go_sem,k3])
   refine ac_ ?_;cases W with
   | true =>
     repeat(first|refine aa_ ?_|simp only[go_sem,hw])
     refine⟨i+1,⟨h1,hf (if_neg (by simp[q3]))⟩,by omega,?_⟩;rw[hor];exact GH_ [] [0]
   | false =>
     repeat(first|refine aa_ ?_|simp only[go_sem,hw])
     refine⟨i+1,⟨h1,hf (if_neg (by simp[q3]))⟩,by omega,?_⟩;rw[hor];exact GH_ [] [0]
  ·have ki:decide ((i:Int) > 0)=true:=decide_eq_true (by omega)
   have ki':decide ((0:Int)<(i:Int))=true:=decide_eq_true (by omega);have kw:IntKind.i64.wrap ((i:Int)-1)=((i-1:Nat):Int):=by rw[be_ (by omega) (by omega)];omega
   have kb:decide (((i-1:Nat):Int)<((s.tabs.length:Nat):Int))=true:=decide_eq_true (by omega);repeat(first|refine aa_ ?_|simp only[go_sem,hgd,ki,ki',kw,kb,hgp])
   refine co_ (c1) ?_;by_cases q2:0≤C
   ·have k2:decide (C ≥ 0)=true:=decide_eq_true q2;have k2':decide (0≤C)=true:=decide_eq_true q2;obtain rfl:=hf0 (if_pos ⟨by omega,q2⟩) (by decide);repeat(first|refine aa_ ?_|simp only[go_sem,k2,k2'])
    refine EB_ ?_
    exact am_
   have k2:decide (C ≥ 0)=false:=decide_eq_false q2;have k2':decide (0≤C)=false:=decide_eq_false q2;rw[if_neg (fun h=>q2 h.2)]at hf0 hf;repeat(first|refine aa_ ?_|simp only[go_sem,k2,k2'])
   refine co_ (c2) ?_;by_cases q3:V=0
   case neg=>
    have k3:(V != 0)=true:=by simp[q3]
    obtain rfl:=hf0 (if_pos q3) (by decide);repeat(first|refine aa_ ?_|simp only[go_sem,k3])
    refine EB_ ?_
    exact am_
   have k3:(V != 0)=false:=by simp[q3]
   repeat(first|refine aa_ ?_|simp only[go_sem,k3])
   refine ac_ ?_;cases W with
   | true =>
     repeat(first|refine aa_ ?_|simp only[go_sem,hw])
     refine⟨i+1,⟨h1,hf (if_neg (by simp[q3]))⟩,by omega,?_⟩;rw[hor];exact GH_ [] [0]
   | false =>
     repeat(first|refine aa_ ?_|simp only[go_sem,hw])
     refine⟨i+1,⟨h1,hf (if_neg (by simp[q3]))⟩,by omega,?_⟩;rw[hor];exact GH_ [] [0]
 ·obtain rfl:i=s.tabs.length:=by omega
  have e1:=inF (s.tabs.length);rw[ti_]at hn;subst hn;generalize orN (fun i=>decide ((tab s.tabs i).cp=s.j)) s.tabs.length=W;repeat(first|refine aa_ ?_|simp only[go_sem,e1])
  refine EA_ ?_
  exact am_
theorem vS_(v:Vot):PC Try.prog 66 [.agg (aV_ v)] (.bool (!v.has&&decide (v≠eu_))):=by
 refine PC.fact 3 ib_ (by simp) puA puA ?_;unfold eH_;refine bd ?_;cases hh:v.has with
 | true =>
   repeat(first|refine aa_ ?_|simp only[go_sem,hh])
   exact am_
 | false =>
   by_cases q:v=eu_
   ·have e:decide (v=⟨false,0,rt0⟩)=true:=decide_eq_true q;rw[decide_eq_false (p:=v≠eu_) (fun h=>h q)];repeat(first|refine aa_ ?_|simp only[go_sem,hh,e])
    exact am_
   ·have e:decide (v=⟨false,0,rt0⟩)=false:=decide_eq_false q;rw[decide_eq_true (p:=v≠eu_) q];repeat(first|refine aa_ ?_|simp only[go_sem,hh,e])
    exact am_
theorem tV_(s:ag_)(hl:s.latest.length≤1000000)(he:s.eqv.length≤1000000):PC Try.prog 35 [.agg (ak_ s.a)] (.bool (lD_ s)):=by
 refine PC.fact 4 jP_ (by simp) puA puA ?_;unfold fF_;refine bd ?_;unfold lD_;have c1:=zT_ s.latest false 66 (fun i=>!(vot s.latest i).has&&decide (vot s.latest i≠eu_)) hl (fun i _=>vS_ _);have c2:=kd_ s.eqv false s.cfg.bals.length (by omega);generalize (cb_ (fun i=>!(vot s.latest i).has&&decide (vot s.latest i≠eu_)) s.latest.length).isSome=P at *;generalize fV_ s.eqv s.cfg.bals.length=V at *;try refine aa_ ?_
 refine aA_ c1 ?_;cases P with
 | true =>
   try refine aa_ ?_
   refine EB_ ?_
   exact am_
 | false =>
   try refine aa_ ?_
   refine ac_ ?_;by_cases q1:(s.latest.length:Int)=s.cfg.bals.length
   case neg=>
    have e1:((s.latest.length:Int)==(s.cfg.bals.length:Int))=false:=by simpa using q1
    rw[decide_eq_false q1];repeat(first|refine aa_ ?_|simp only[go_sem,e1])
    exact am_
   have e1:((s.latest.length:Int)==(s.cfg.bals.length:Int))=true:=by simpa using q1
   rw[decide_eq_true q1];by_cases q2:(s.eqv.length:Int)=0
   ·have e2:((s.eqv.length:Int)==0)=true:=by simpa using q2
    rw[decide_eq_true q2];repeat(first|refine aa_ ?_|simp only[go_sem,e1,e2])
    exact am_
   have e2:((s.eqv.length:Int)==0)=false:=by simpa using q2
   rw[decide_eq_false q2];repeat(first|refine aa_ ?_|simp only[go_sem,e1,e2])
   refine aA_ c2 ?_;have e3:(V==0)=decide (V=0):=by by_cases h:V=0<;>simp[h]
   repeat(first|refine aa_ ?_|simp only[go_sem,e3])
   exact am_
theorem vG_(s:ag_)(x:Nod):ao_ Try.prog 68 [.agg (av_ x),.ptr 0 0] [.var (ak_ s.a)] (.bool (decide (s.now<x.blk.slot) || !tJ_ s x.blk)) [.var (ak_ s.a)]:=by
 refine ao_.fact 7 ia_ (by simp) ?_ (by simp);unfold eG_;refine bd ?_;unfold tJ_;have c1:ao_ Try.prog 63 [.agg (ak_ s.a),.int .u64 x.blk.slot] [] (.int .u64 (cM_ x.blk.slot s.cfg.spe).1) []:=(ip_ s x.blk.slot).call;have c1:=ip_ s x.blk.slot;generalize (cM_ x.blk.slot s.cfg.spe).1=E at *;have gt:decide (x.blk.slot > s.now)=decide (s.now<x.blk.slot):=rfl;by_cases q0:s.now<x.blk.slot
 ·have e0:=decide_eq_true q0
  rw[e0];by_cases q0:x.blk.fin.ep≤x.blk.just.ep
  case neg=>
   have k0:=decide_eq_false q0;rw[k0];repeat(first|refine aa_ ?_|simp only[go_sem,gt,e0,k0])
   exact Gt_ [] [0]
  have k0:=decide_eq_true q0;rw[k0];by_cases q1:x.blk.just.ep≤x.blk.pul.j.ep
  case neg=>
   have k1:=decide_eq_false q1;rw[k1];repeat(first|refine aa_ ?_|simp only[go_sem,gt,e0,k0,k1])
   exact Gt_ [] [0]
  have k1:=decide_eq_true q1;rw[k1];by_cases q2:x.blk.fin.ep≤x.blk.pul.f.ep
  case neg=>
   have k2:=decide_eq_false q2;rw[k2];repeat(first|refine aa_ ?_|simp only[go_sem,gt,e0,k0,k1,k2])
   exact Gt_ [] [0]
  have k2:=decide_eq_true q2;rw[k2];by_cases q3:x.blk.pul.f.ep≤x.blk.pul.j.ep
  case neg=>
   have k3:=decide_eq_false q3;rw[k3];repeat(first|refine aa_ ?_|simp only[go_sem,gt,e0,k0,k1,k2,k3])
   exact Gt_ [] [0]
  have k3:=decide_eq_true q3;rw[k3];repeat(first|refine aa_ ?_|simp only[go_sem,gt,e0,k0,k1,k2,k3])
  refine co_ (c1) ?_;repeat(first|refine aa_ ?_|simp only[go_sem,gt,e0,k0,k1,k2,k3])
  exact Gt_ [] [0]
 ·have e0:=decide_eq_false q0
  rw[e0];by_cases q0:x.blk.fin.ep≤x.blk.just.ep
  case neg=>
   have k0:=decide_eq_false q0;rw[k0];repeat(first|refine aa_ ?_|simp only[go_sem,gt,e0,k0])
   exact Gt_ [] [0]
  have k0:=decide_eq_true q0;rw[k0];by_cases q1:x.blk.just.ep≤x.blk.pul.j.ep
  case neg=>
   have k1:=decide_eq_false q1;rw[k1];repeat(first|refine aa_ ?_|simp only[go_sem,gt,e0,k0,k1])
   exact Gt_ [] [0]
  have k1:=decide_eq_true q1;rw[k1];by_cases q2:x.blk.fin.ep≤x.blk.pul.f.ep
  case neg=>
   have k2:=decide_eq_false q2;rw[k2];repeat(first|refine aa_ ?_|simp only[go_sem,gt,e0,k0,k1,k2])
   exact Gt_ [] [0]
  have k2:=decide_eq_true q2;rw[k2];by_cases q3:x.blk.pul.f.ep≤x.blk.pul.j.ep
  case neg=>
   have k3:=decide_eq_false q3;rw[k3];repeat(first|refine aa_ ?_|simp only[go_sem,gt,e0,k0,k1,k2,k3])
   exact Gt_ [] [0]
  have k3:=decide_eq_true q3;rw[k3];repeat(first|refine aa_ ?_|simp only[go_sem,gt,e0,k0,k1,k2,k3])
  refine co_ (c1) ?_;repeat(first|refine aa_ ?_|simp only[go_sem,gt,e0,k0,k1,k2,k3])
  exact Gt_ [] [0]
theorem tQ_(s:ag_)(hb:s.nodes.length≤1000000):PC Try.prog 36 [.agg (ak_ s.a)] (.bool (ln_ s)):=by
 refine PC.fact 3 jO_ (by simp) puA puA ?_;unfold fE_;refine bd ?_;unfold ln_;have c1:=zR_ s.nodes false 68 ⟨ak_ s.a,s.pul⟩ (fun i=>decide (s.now<(nod s.nodes i).blk.slot) || !tJ_ s (nod s.nodes i).blk) hb (fun i _=>vG_ s _);generalize (cb_ (fun i=>decide (s.now<(nod s.nodes i).blk.slot) || !tJ_ s (nod s.nodes i).blk) s.nodes.length).isSome=P at *;try refine aa_ ?_
 refine bC_ [0] (c1) evd (bf_.mk' (by simp) evd) ?_;refine evg ?_;try refine aa_ ?_
 exact am_
end Go.Proofs.Ytkgimpdgncakjaa
