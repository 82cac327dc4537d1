/-
 My texts Ql, joined.
-/
import Derived.Test.YtnjdpnfglgcjcaaGreatT5
set_option linter.unusedVariables false
set_option linter.unusedSimpArgs false
set_option maxRecDepth 8000
set_option maxHeartbeats 4000000
namespace Go.FH
open Go Go.RowKit
def orN(p:Nat->Bool):Nat->Bool
 |0=>false
 |k+1=>orN p k || p k
end Go.FH
namespace Go.Proofs.YtnjdpnfglgcjcaaGreat
open Go Go.FH Go.RowKit
theorem RO(s:am)(hb:s.tabs.length<=1000000)(hbb:∀t∈s.tabs,t.bals.length<=1000000)(hu:∀t∈s.tabs,∀x∈t.bals,0<=x/\x<18446744073709551616):
 PC Tryz.prog 232 [.agg (aw s.a)] (.bool (decide (frE (kI s) (s.tabs.length-0) 0=0)&&orN (fun i=>decide ((tab s.tabs i).cp=s.j)) s.tabs.length)):=by
 refine PC.fact 10 uM (by simp) puA puA ?_;unfold mC;refine bd ?_;obtain⟨F,hF⟩:∃F,F=frE (kI s) (s.tabs.length-0) 0:=⟨_,rfl⟩
 rw[<-hF];refine gon ?_;refine ay (fun i:Nat=>[(9,.int .i64 i),(3,.bool (orN (fun i=>decide ((tab s.tabs i).cp=s.j)) i))]) (fun i=>[.var (aw s.a)]) (fun i=>s.tabs.length-i) (fun i=>i<=s.tabs.length/\F=frE (kI s) (s.tabs.length-i) i) 0 ⟨Nat.zero_le _,hF⟩ ?_ ?_
 ·exact adk [] [0]
 clear hF;rintro i ⟨hi,hn⟩;refine dM ?_;by_cases h1:i<s.tabs.length
 ·have e1:=inT h1
  have hw:=ah h1 (by omega);have hgd:(rows aH.c s.tabs).getD i []=bE (tab s.tabs i).a:=aM (f:=aH.c) default h1;have hm:tab s.tabs i∈s.tabs:=cG default h1;have hgp:(rows aH.c s.tabs).getD (i-1) []=bE (tab s.tabs (i-1)).a:=aM (f:=aH.c) default (by omega);have c1:=AF (tab s.tabs (i-1)) (tab s.tabs i);have c2:=wv (tab s.tabs i) s.cfg.bals.length (hbb _ hm) (hu _ hm);have hf0:∀ {v:Int},kI s i=v->v≠0->F=v:=fun h0 h2=>by rw[hn,vV h1 (by rw[h0];exact h2),h0]
  have hf:kI s i=0->F=frE (kI s) (s.tabs.length-(i+1)) (i+1):=fun h0=>by rw[hn,vU h1 h0]
  clear hn;unfold kI at hf0 hf;have hor:orN (fun i=>decide ((tab s.tabs i).cp=s.j)) (i+1)=(orN (fun i=>decide ((tab s.tabs i).cp=s.j)) i || decide ((tab s.tabs i).cp=s.j)):=rfl;generalize orN (fun i=>decide ((tab s.tabs i).cp=s.j)) i=W at *;generalize tab s.tabs (i-1)=y at *;generalize tab s.tabs i=x at *;generalize fJ x s.cfg.bals.length=V at *;generalize gh y.cp x.cp=C at *;refine bg e1 ?_;by_cases qi:i=0
  ·have ki:decide ((i:Int) > 0)=false:=au (by omega)
   have ki':decide ((0:Int)<(i:Int))=false:=au (by omega);rw[if_neg (fun h=>by omega)]at hf0 hf;refine cZ hgd ki ki' ?_;refine aC (c2) ?_;by_cases q3:V=0
   case neg=>
    have k3:(V != 0)=true:=by simp[q3]
    obtain rfl:=hf0 (if_pos q3) (by decide);refine aE k3 ?_;exact af
   have k3:(V != 0)=false:=by simp[q3]
   refine aQ k3 ?_;cases W with
   | true =>
     refine ap hw ?_;refine⟨i+1,⟨h1,hf (if_neg (by simp[q3]))⟩,by omega,?_⟩;rw[hor];exact adk [] [0]
   | false =>
     refine ap hw ?_;refine⟨i+1,⟨h1,hf (if_neg (by simp[q3]))⟩,by omega,?_⟩;rw[hor];exact adk [] [0]
  ·have ki:decide ((i:Int) > 0)=true:=ak (by omega)
   have ki':decide ((0:Int)<(i:Int))=true:=ak (by omega);have kw:IntKind.i64.wrap ((i:Int)-1)=((i-1:Nat):Int):=by rw[aK (by omega) (by omega)];omega
   have kb:decide (((i-1:Nat):Int)<((s.tabs.length:Nat):Int))=true:=ak (by omega);refine eI hgd ki ki' kw kb hgp ?_;refine aC (c1) ?_;by_cases q2:0<=C
   ·have k2:decide (C ≥ 0)=true:=ak q2;have k2':decide (0<=C)=true:=ak q2;obtain rfl:=hf0 (if_pos ⟨by omega,q2⟩) (by decide);refine cn k2 k2' ?_;exact af
   have k2:decide (C ≥ 0)=false:=au q2;have k2':decide (0<=C)=false:=au q2;rw[if_neg (fun h=>q2 h.2)]at hf0 hf;refine aO k2 k2' ?_;refine aC (c2) ?_;by_cases q3:V=0
   case neg=>
    have k3:(V != 0)=true:=by simp[q3]
    obtain rfl:=hf0 (if_pos q3) (by decide);refine aE k3 ?_;exact af
   have k3:(V != 0)=false:=by simp[q3]
   refine aQ k3 ?_;cases W with
   | true =>
     refine ap hw ?_;refine⟨i+1,⟨h1,hf (if_neg (by simp[q3]))⟩,by omega,?_⟩;rw[hor];exact adk [] [0]
   | false =>
     refine ap hw ?_;refine⟨i+1,⟨h1,hf (if_neg (by simp[q3]))⟩,by omega,?_⟩;rw[hor];exact adk [] [0]
 ·obtain rfl:i=s.tabs.length:=by omega
  have e1:=inF (s.tabs.length);rw[vT]at hn;subst hn;generalize orN (fun i=>decide ((tab s.tabs i).cp=s.j)) s.tabs.length=W;refine aD e1 ?_;exact af
theorem RU(v:Vot):PC Tryz.prog 326 [.agg (bM v)] (.bool (!v.has&&decide (v≠fg))):=by
 refine PC.fact 3 ta (by simp) puA puA ?_;unfold lO;refine bd ?_;cases hh:v.has with
 | true =>
   refine ap hh ?_;exact af
 | false =>
   by_cases q:v=fg
   ·have e:decide (v=⟨false,0,rt0⟩)=true:=ak q;rw[au (p:=v≠fg) (fun h=>h q)];refine aO hh e ?_;exact af
   ·have e:decide (v=⟨false,0,rt0⟩)=false:=au q;rw[ak (p:=v≠fg) q];refine aO hh e ?_;exact af
theorem O1(s:am)(hl:s.latest.length<=1000000)(he:s.eqv.length<=1000000):PC Tryz.prog 233 [.agg (aw s.a)] (.bool (pB s)):=by
 refine PC.fact 4 xp (by simp) puA puA ?_;unfold nL;refine bd ?_;unfold pB;have c1:=Xd s.latest false 326 (fun i=>!(vot s.latest i).has&&decide (vot s.latest i≠fg)) hl (fun i _=>RU _);have c2:=ou s.eqv false s.cfg.bals.length (by omega);generalize (cE (fun i=>!(vot s.latest i).has&&decide (vot s.latest i≠fg)) s.latest.length).isSome=P at *;generalize dr s.eqv s.cfg.bals.length=V at *;refine gon ?_;refine ai c1 ?_;cases P with
 | true =>
   refine aV ?_;exact af
 | false =>
   refine dk ?_;by_cases q1:(s.latest.length:Int)=s.cfg.bals.length
   case neg=>
    have e1:((s.latest.length:Int)==(s.cfg.bals.length:Int))=false:=by simpa using q1
    rw[au q1];refine ap e1 ?_;exact af
   have e1:((s.latest.length:Int)==(s.cfg.bals.length:Int))=true:=by simpa using q1
   rw[ak q1];by_cases q2:(s.eqv.length:Int)=0
   ·have e2:((s.eqv.length:Int)==0)=true:=by simpa using q2
    rw[ak q2];refine aO e1 e2 ?_;exact af
   have e2:((s.eqv.length:Int)==0)=false:=by simpa using q2
   rw[au q2];refine aO e1 e2 ?_;refine ai c2 ?_;have e3:(V==0)=decide (V=0):=by by_cases h:V=0<;>simp[h]
   refine ap e3 ?_;exact af
theorem RH(s:am)(x:Nod):aI Tryz.prog 328 [.agg (aP x),.ptr 0 0] [.var (aw s.a)] (.bool (decide (s.now<x.blk.slot) || !tH s x.blk)) [.var (aw s.a)]:=by
 refine aI.fact 7 s9 (by simp) ?_ (by simp);unfold lM;refine bd ?_;unfold tH;have c1:aI Tryz.prog 324 [.agg (aw s.a),.int .u64 x.blk.slot] [] (.int .u64 (fC x.blk.slot s.cfg.spe).1) []:=(tL s x.blk.slot).call;have c1:=tL s x.blk.slot;generalize (fC x.blk.slot s.cfg.spe).1=E at *;have gt:decide (x.blk.slot > s.now)=decide (s.now<x.blk.slot):=rfl;by_cases q0:s.now<x.blk.slot
 ·have e0:=ak q0
  rw[e0];by_cases q0:x.blk.fin.ep<=x.blk.just.ep
  case neg=>
   have k0:=au q0;rw[k0];refine cZ gt e0 k0 ?_;exact adb [] [0]
  have k0:=ak q0;rw[k0];by_cases q1:x.blk.just.ep<=x.blk.pul.j.ep
  case neg=>
   have k1:=au q1;rw[k1];refine eW gt e0 k0 k1 ?_;exact adb [] [0]
  have k1:=ak q1;rw[k1];by_cases q2:x.blk.fin.ep<=x.blk.pul.f.ep
  case neg=>
   have k2:=au q2;rw[k2];refine eO gt e0 k0 k1 k2 ?_;exact adb [] [0]
  have k2:=ak q2;rw[k2];by_cases q3:x.blk.pul.f.ep<=x.blk.pul.j.ep
  case neg=>
   have k3:=au q3;rw[k3];refine eI gt e0 k0 k1 k2 k3 ?_;exact adb [] [0]
  have k3:=ak q3;rw[k3];refine eI gt e0 k0 k1 k2 k3 ?_;refine aC (c1) ?_;refine eI gt e0 k0 k1 k2 k3 ?_;exact adb [] [0]
 ·have e0:=au q0
  rw[e0];by_cases q0:x.blk.fin.ep<=x.blk.just.ep
  case neg=>
   have k0:=au q0;rw[k0];refine cZ gt e0 k0 ?_;exact adb [] [0]
  have k0:=ak q0;rw[k0];by_cases q1:x.blk.just.ep<=x.blk.pul.j.ep
  case neg=>
   have k1:=au q1;rw[k1];refine eW gt e0 k0 k1 ?_;exact adb [] [0]
  have k1:=ak q1;rw[k1];by_cases q2:x.blk.fin.ep<=x.blk.pul.f.ep
  case neg=>
   have k2:=au q2;rw[k2];refine eO gt e0 k0 k1 k2 ?_;exact adb [] [0]
  have k2:=ak q2;rw[k2];by_cases q3:x.blk.pul.f.ep<=x.blk.pul.j.ep
  case neg=>
   have k3:=au q3;rw[k3];refine eI gt e0 k0 k1 k2 k3 ?_;exact adb [] [0]
  have k3:=ak q3;rw[k3];refine eI gt e0 k0 k1 k2 k3 ?_;refine aC (c1) ?_;refine eI gt e0 k0 k1 k2 k3 ?_;exact adb [] [0]
theorem OX(s:am)(hb:s.nodes.length<=1000000):PC Tryz.prog 234 [.agg (aw s.a)] (.bool (pv s)):=by
 refine PC.fact 3 xo (by simp) puA puA ?_;unfold nK;refine bd ?_;unfold pv;have c1:=Xb s.nodes false 328 ⟨aw s.a,s.pul⟩ (fun i=>decide (s.now<(nod s.nodes i).blk.slot) || !tH s (nod s.nodes i).blk) hb (fun i _=>RH s _);generalize (cE (fun i=>decide (s.now<(nod s.nodes i).blk.slot) || !tH s (nod s.nodes i).blk) s.nodes.length).isSome=P at *;refine gon ?_;refine bP [0] (c1) evd (bx.mk' (by simp) evd) ?_;refine evg ?_;refine gon ?_;exact af
end Go.Proofs.YtnjdpnfglgcjcaaGreat
