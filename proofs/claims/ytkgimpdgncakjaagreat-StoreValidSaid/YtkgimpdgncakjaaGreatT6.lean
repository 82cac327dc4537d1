/-
 My texts Ql, joined.
-/
import Derived.Test.YtkgimpdgncakjaaGreatT5
namespace Go.FH
open Go Go.RowKit
def orN(p:Nat→Bool):Nat→Bool
 |0=>false
 |k+1=>orN p k || p k
end Go.FH
namespace Go.Proofs.YtkgimpdgncakjaaGreat
open Go Go.FH Go.RowKit
set_option linter.unusedVariables false
set_option linter.unusedSimpArgs false
set_option maxRecDepth 8000
set_option maxHeartbeats 4000000
theorem GP_(s:ah_)(hb:s.tabs.length≤1000000)(hbb:∀t∈s.tabs,t.bals.length≤1000000)(hu:∀t∈s.tabs,∀x∈t.bals,0≤x∧x<18446744073709551616):
 PC Tryz.prog 59 [.agg (ak_ s.a)] (.bool (decide (frE (hL_ s) (s.tabs.length-0) 0=0)&&orN (fun i=>decide ((tab s.tabs i).cp=s.j)) s.tabs.length)):=by
 refine PC.fact 10 nS_ (by simp) puA puA ?_;unfold hT_;refine bd ?_;obtain⟨F,hF⟩:∃F,F=frE (hL_ s) (s.tabs.length-0) 0:=⟨_,rfl⟩
 rw[←hF];try refine aa_ ?_
 refine an_ (fun i:Nat=>[(9,.int .i64 i),(3,.bool (orN (fun i=>decide ((tab s.tabs i).cp=s.j)) i))]) (fun i=>[.var (ak_ s.a)]) (fun i=>s.tabs.length-i) (fun i=>i≤s.tabs.length∧F=frE (hL_ s) (s.tabs.length-i) i) 0 ⟨Nat.zero_le _,hF⟩ ?_ ?_
 ·exact SN_ [] [0]
 clear hF;rintro i ⟨hi,hn⟩;refine cJ_ ?_;by_cases h1:i<s.tabs.length
 ·have e1:=inT h1
  have hw:=ag_ h1 (by omega);have hgd:(rows au_.c s.tabs).getD i []=aY_ (tab s.tabs i).a:=aA_ (f:=au_.c) default h1;have hm:tab s.tabs i∈s.tabs:=bH_ default h1;have hgp:(rows au_.c s.tabs).getD (i-1) []=aY_ (tab s.tabs (i-1)).a:=aA_ (f:=au_.c) default (by omega);have c1:=Kk_ (tab s.tabs (i-1)) (tab s.tabs i);have c2:=us_ (tab s.tabs i) s.cfg.bals.length (hbb _ hm) (hu _ hm);have hf0:∀ {v:Int},hL_ s i=v→v≠0→F=v:=fun h0 h2=>by rw[hn,oS_ h1 (by rw[h0];exact h2),h0]
  have hf:hL_ s i=0→F=frE (hL_ s) (s.tabs.length-(i+1)) (i+1):=fun h0=>by rw[hn,oR_ h1 h0]
  clear hn;unfold hL_ at hf0 hf;have hor:orN (fun i=>decide ((tab s.tabs i).cp=s.j)) (i+1)=(orN (fun i=>decide ((tab s.tabs i).cp=s.j)) i || decide ((tab s.tabs i).cp=s.j)):=rfl;generalize orN (fun i=>decide ((tab s.tabs i).cp=s.j)) i=W at *;generalize tab s.tabs (i-1)=y at *;generalize tab s.tabs i=x at *;generalize dJ_ x s.cfg.bals.length=V at *;generalize gy_ y.cp x.cp=C at *;repeat(first|refine aa_ ?_|simp only[go_sem,e1])
  refine ac_ ?_;by_cases qi:i=0
  ·have ki:decide ((i:Int) > 0)=false:=decide_eq_false (by omega)
   have ki':decide ((0:Int)<(i:Int))=false:=decide_eq_false (by omega);rw[if_neg (fun h=>by omega)]at hf0 hf;repeat(first|refine aa_ ?_|simp only[go_sem,hgd,ki,ki'])
   refine ao_ (c2) ?_;by_cases q3:V=0
   case neg=>
    have k3:(V != 0)=true:=by simp[q3]
    obtain rfl:=hf0 (if_pos q3) (by decide);repeat(first|refine aa_ ?_|simp only[go_sem,k3])
    refine Ri_ ?_
    exact ae_
   have k3:(V != 0)=false:=by simp[q3]
   repeat(first|refine aa_ ?_|simp only[go_sem,k3])
   refine ab_ ?_;cases W with
   | true =>
     repeat(first|refine aa_ ?_|simp only[go_sem,hw])
     refine⟨i+1,⟨h1,hf (if_neg (by simp[q3]))⟩,by omega,?_⟩;rw[hor];exact SN_ [] [0]
   | false =>
     repeat(first|refine aa_ ?_|simp only[go_sem,hw])
     refine⟨i+1,⟨h1,hf (if_neg (by simp[q3]))⟩,by omega,?_⟩;rw[hor];exact SN_ [] [0]
  ·have ki:decide ((i:Int) > 0)=true:=decide_eq_true (by omega)
   have ki':decide ((0:Int)<(i:Int))=true:=decide_eq_true (by omega);have kw:IntKind.i64.wrap ((i:Int)-1)=((i-1:Nat):Int):=by rw[aC_ (by omega) (by omega)];omega
   have kb:decide (((i-1:Nat):Int)<((s.tabs.length:Nat):Int))=true:=decide_eq_true (by omega);repeat(first|refine aa_ ?_|simp only[go_sem,hgd,ki,ki',kw,kb,hgp])
   refine ao_ (c1) ?_;by_cases q2:0≤C
   ·have k2:decide (C ≥ 0)=true:=decide_eq_true q2;have k2':decide (0≤C)=true:=decide_eq_true q2;obtain rfl:=hf0 (if_pos ⟨by omega,q2⟩) (by decide);repeat(first|refine aa_ ?_|simp only[go_sem,k2,k2'])
    refine Ri_ ?_
    exact ae_
   have k2:decide (C ≥ 0)=false:=decide_eq_false q2;have k2':decide (0≤C)=false:=decide_eq_false q2;rw[if_neg (fun h=>q2 h.2)]at hf0 hf;repeat(first|refine aa_ ?_|simp only[go_sem,k2,k2'])
   refine ao_ (c2) ?_;by_cases q3:V=0
   case neg=>
    have k3:(V != 0)=true:=by simp[q3]
    obtain rfl:=hf0 (if_pos q3) (by decide);repeat(first|refine aa_ ?_|simp only[go_sem,k3])
    refine Ri_ ?_
    exact ae_
   have k3:(V != 0)=false:=by simp[q3]
   repeat(first|refine aa_ ?_|simp only[go_sem,k3])
   refine ab_ ?_;cases W with
   | true =>
     repeat(first|refine aa_ ?_|simp only[go_sem,hw])
     refine⟨i+1,⟨h1,hf (if_neg (by simp[q3]))⟩,by omega,?_⟩;rw[hor];exact SN_ [] [0]
   | false =>
     repeat(first|refine aa_ ?_|simp only[go_sem,hw])
     refine⟨i+1,⟨h1,hf (if_neg (by simp[q3]))⟩,by omega,?_⟩;rw[hor];exact SN_ [] [0]
 ·obtain rfl:i=s.tabs.length:=by omega
  have e1:=inF (s.tabs.length);rw[oQ_]at hn;subst hn;generalize orN (fun i=>decide ((tab s.tabs i).cp=s.j)) s.tabs.length=W;repeat(first|refine aa_ ?_|simp only[go_sem,e1])
  refine Rh_ ?_
  exact ae_
theorem GW_(v:Vot):PC Tryz.prog 136 [.agg (aV_ v)] (.bool (!v.has&&decide (v≠do_))):=by
 refine PC.fact 3 mK_ (by simp) puA puA ?_;unfold ho_;refine bd ?_;cases hh:v.has with
 | true =>
   repeat(first|refine aa_ ?_|simp only[go_sem,hh])
   exact ae_
 | false =>
   by_cases q:v=do_
   ·have e:decide (v=⟨false,0,rt0⟩)=true:=decide_eq_true q;rw[decide_eq_false (p:=v≠do_) (fun h=>h q)];repeat(first|refine aa_ ?_|simp only[go_sem,hh,e])
    exact ae_
   ·have e:decide (v=⟨false,0,rt0⟩)=false:=decide_eq_false q;rw[decide_eq_true (p:=v≠do_) q];repeat(first|refine aa_ ?_|simp only[go_sem,hh,e])
    exact ae_
theorem Et_(s:ah_)(hl:s.latest.length≤1000000)(he:s.eqv.length≤1000000):PC Tryz.prog 60 [.agg (ak_ s.a)] (.bool (jT_ s)):=by
 refine PC.fact 4 pv_ (by simp) puA puA ?_;unfold iL_;refine bd ?_;unfold jT_;have c1:=Mg_ s.latest false 136 (fun i=>!(vot s.latest i).has&&decide (vot s.latest i≠do_)) hl (fun i _=>GW_ _);have c2:=pM_ s.eqv false s.cfg.bals.length (by omega);generalize (bD_ (fun i=>!(vot s.latest i).has&&decide (vot s.latest i≠do_)) s.latest.length).isSome=P at *;generalize cd_ s.eqv s.cfg.bals.length=V at *;try refine aa_ ?_
 refine aj_ c1 ?_;cases P with
 | true =>
   try refine aa_ ?_
   refine Ri_ ?_
   exact ae_
 | false =>
   try refine aa_ ?_
   refine ab_ ?_;by_cases q1:(s.latest.length:Int)=s.cfg.bals.length
   case neg=>
    have e1:((s.latest.length:Int)==(s.cfg.bals.length:Int))=false:=by simpa using q1
    rw[decide_eq_false q1];repeat(first|refine aa_ ?_|simp only[go_sem,e1])
    exact ae_
   have e1:((s.latest.length:Int)==(s.cfg.bals.length:Int))=true:=by simpa using q1
   rw[decide_eq_true q1];by_cases q2:(s.eqv.length:Int)=0
   ·have e2:((s.eqv.length:Int)==0)=true:=by simpa using q2
    rw[decide_eq_true q2];repeat(first|refine aa_ ?_|simp only[go_sem,e1,e2])
    exact ae_
   have e2:((s.eqv.length:Int)==0)=false:=by simpa using q2
   rw[decide_eq_false q2];repeat(first|refine aa_ ?_|simp only[go_sem,e1,e2])
   refine aj_ c2 ?_;have e3:(V==0)=decide (V=0):=by by_cases h:V=0<;>simp[h]
   repeat(first|refine aa_ ?_|simp only[go_sem,e3])
   exact ae_
theorem GJ_(s:ah_)(x:Nod):ar_ Tryz.prog 138 [.agg (ax_ x),.ptr 0 0] [.var (ak_ s.a)] (.bool (decide (s.now<x.blk.slot) || !vT_ s x.blk)) [.var (ak_ s.a)]:=by
 refine ar_.fact 7 mJ_ (by simp) ?_ (by simp);unfold hn_;refine bd ?_;unfold vT_;have c1:ar_ Tryz.prog 134 [.agg (ak_ s.a),.int .u64 x.blk.slot] [] (.int .u64 (dO_ x.blk.slot s.cfg.spe).1) []:=(nc_ s x.blk.slot).call;have c1:=nc_ s x.blk.slot;generalize (dO_ x.blk.slot s.cfg.spe).1=E at *;have gt:decide (x.blk.slot > s.now)=decide (s.now<x.blk.slot):=rfl;by_cases q0:s.now<x.blk.slot
 ·have e0:=decide_eq_true q0
  rw[e0];by_cases q0:x.blk.fin.ep≤x.blk.just.ep
  case neg=>
   have k0:=decide_eq_false q0;rw[k0];repeat(first|refine aa_ ?_|simp only[go_sem,gt,e0,k0])
   exact SG_ [] [0]
  have k0:=decide_eq_true q0;rw[k0];by_cases q1:x.blk.just.ep≤x.blk.pul.j.ep
  case neg=>
   have k1:=decide_eq_false q1;rw[k1];repeat(first|refine aa_ ?_|simp only[go_sem,gt,e0,k0,k1])
   exact SG_ [] [0]
  have k1:=decide_eq_true q1;rw[k1];by_cases q2:x.blk.fin.ep≤x.blk.pul.f.ep
  case neg=>
   have k2:=decide_eq_false q2;rw[k2];repeat(first|refine aa_ ?_|simp only[go_sem,gt,e0,k0,k1,k2])
   exact SG_ [] [0]
  have k2:=decide_eq_true q2;rw[k2];by_cases q3:x.blk.pul.f.ep≤x.blk.pul.j.ep
  case neg=>
   have k3:=decide_eq_false q3;rw[k3];repeat(first|refine aa_ ?_|simp only[go_sem,gt,e0,k0,k1,k2,k3])
   exact SG_ [] [0]
  have k3:=decide_eq_true q3;rw[k3];repeat(first|refine aa_ ?_|simp only[go_sem,gt,e0,k0,k1,k2,k3])
  refine ao_ (c1) ?_;repeat(first|refine aa_ ?_|simp only[go_sem,gt,e0,k0,k1,k2,k3])
  exact SG_ [] [0]
 ·have e0:=decide_eq_false q0
  rw[e0];by_cases q0:x.blk.fin.ep≤x.blk.just.ep
  case neg=>
   have k0:=decide_eq_false q0;rw[k0];repeat(first|refine aa_ ?_|simp only[go_sem,gt,e0,k0])
   exact SG_ [] [0]
  have k0:=decide_eq_true q0;rw[k0];by_cases q1:x.blk.just.ep≤x.blk.pul.j.ep
  case neg=>
   have k1:=decide_eq_false q1;rw[k1];repeat(first|refine aa_ ?_|simp only[go_sem,gt,e0,k0,k1])
   exact SG_ [] [0]
  have k1:=decide_eq_true q1;rw[k1];by_cases q2:x.blk.fin.ep≤x.blk.pul.f.ep
  case neg=>
   have k2:=decide_eq_false q2;rw[k2];repeat(first|refine aa_ ?_|simp only[go_sem,gt,e0,k0,k1,k2])
   exact SG_ [] [0]
  have k2:=decide_eq_true q2;rw[k2];by_cases q3:x.blk.pul.f.ep≤x.blk.pul.j.ep
  case neg=>
   have k3:=decide_eq_false q3;rw[k3];repeat(first|refine aa_ ?_|simp only[go_sem,gt,e0,k0,k1,k2,k3])
   exact SG_ [] [0]
  have k3:=decide_eq_true q3;rw[k3];repeat(first|refine aa_ ?_|simp only[go_sem,gt,e0,k0,k1,k2,k3])
  refine ao_ (c1) ?_;repeat(first|refine aa_ ?_|simp only[go_sem,gt,e0,k0,k1,k2,k3])
  exact SG_ [] [0]
theorem Ep_(s:ah_)(hb:s.nodes.length≤1000000):PC Tryz.prog 61 [.agg (ak_ s.a)] (.bool (jO_ s)):=by
 refine PC.fact 3 pu_ (by simp) puA puA ?_;unfold iK_;refine bd ?_;unfold jO_;have c1:=Me_ s.nodes false 138 ⟨ak_ s.a,s.pul⟩ (fun i=>decide (s.now<(nod s.nodes i).blk.slot) || !vT_ s (nod s.nodes i).blk) hb (fun i _=>GJ_ s _);generalize (bD_ (fun i=>decide (s.now<(nod s.nodes i).blk.slot) || !vT_ s (nod s.nodes i).blk) s.nodes.length).isSome=P at *;try refine aa_ ?_
 refine cj_ [0] (c1) evd (br_.mk' (by simp) evd) ?_;refine evg ?_;try refine aa_ ?_
 exact ae_
end Go.Proofs.YtkgimpdgncakjaaGreat
