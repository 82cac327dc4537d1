/- Joined. -/
import Derived.Test.YtnjdpnfglgcjcaaGreatT5
set_option linter.unusedVariables false
set_option linter.unusedSimpArgs false
set_option maxRecDepth 8000
set_option maxHeartbeats 4000000
namespace Go.FH
open Go Go.RowKit
def orN(p:Nat->Bool):Nat->Bool
 |0=>false
 |k+1=>orN p k || p k
end Go.FH
namespace Go.Proofs.YtnjdpnfglgcjcaaGreat
open Go Go.FH Go.RowKit
theorem UR(s:ap)(hb:s.tabs.length<=2097152)(hbb:∀t∈s.tabs,t.bals.length<=2097152)(hu:∀t∈s.tabs,∀x∈t.bals,0<=x/\x<18446744073709551616):
 PC Tryz.prog 232 [.agg (aE s.a)] (.bool (decide (frE (pR s) (s.tabs.length-0) 0=0)&&orN (fun i=>decide ((tab s.tabs i).cp=s.j)) s.tabs.length)):=by
 refine PC.fact 10 yh (by simp) puA puA ?_;unfold nP;refine bd ?_;obtain⟨F,hF⟩:∃F,F=frE (pR s) (s.tabs.length-0) 0:=⟨_,rfl⟩
 rw[<-hF];refine gon ?_;refine az (fun i:Nat=>[(9,.int .i64 i),(3,.bool (orN (fun i=>decide ((tab s.tabs i).cp=s.j)) i))]) (fun i=>[.var (aE s.a)]) (fun i=>s.tabs.length-i) (fun i=>i<=s.tabs.length/\F=frE (pR s) (s.tabs.length-i) i) 0 ⟨amc _,hF⟩ ?_ ?_
 ·exact ais [] [0]
 clear hF;rintro i ⟨hi,hn⟩;refine dp ?_;by_cases h1:i<s.tabs.length
 ·have e1:=inT h1
  have hw:=af h1 (by omega);have hgd:(rows aW.c s.tabs).getD i []=bS (tab s.tabs i).a:=aS (f:=aW.c) default h1;have hm:tab s.tabs i∈s.tabs:=bK default h1;have hgp:(rows aW.c s.tabs).getD (i-1) []=bS (tab s.tabs (i-1)).a:=aS (f:=aW.c) default (by omega);have c1:=YO (tab s.tabs (i-1)) (tab s.tabs i);have c2:=G3 (tab s.tabs i) s.cfg.bals.length (hbb _ hm) (hu _ hm);have hf0:∀ {v:Int},pR s i=v->v≠0->F=v:=fun h0 h2=>by rw[hn,zg h1 (by rw[h0];exact h2),h0]
  have hf:pR s i=0->F=frE (pR s) (s.tabs.length-(i+1)) (i+1):=fun h0=>by rw[hn,zf h1 h0]
  clear hn;unfold pR at hf0 hf;have hor:orN (fun i=>decide ((tab s.tabs i).cp=s.j)) (i+1)=(orN (fun i=>decide ((tab s.tabs i).cp=s.j)) i || decide ((tab s.tabs i).cp=s.j)):=rfl;generalize orN (fun i=>decide ((tab s.tabs i).cp=s.j)) i=W at *;generalize tab s.tabs (i-1)=y at *;generalize tab s.tabs i=x at *;generalize gh x s.cfg.bals.length=V at *;generalize kW y.cp x.cp=C at *;refine bw e1 ?_;by_cases qi:i=0
  ·have ki:decide ((i:Int) > 0)=false:=aA (by omega)
   have ki':decide ((0:Int)<(i:Int))=false:=aA (by omega);rw[al5 (fun h=>by omega)]at hf0 hf;refine dC hgd ki ki' ?_;refine aK (c2) ?_;by_cases q3:V=0
   case neg=>
    have k3:(V != 0)=true:=by simp[q3]
    obtain rfl:=hf0 (al7 q3) (by decide);refine aM k3 ?_;exact ai
   have k3:(V != 0)=false:=by simp[q3]
   refine bJ k3 ?_;cases W with
   | true =>
     refine ah hw ?_;refine⟨i+1,⟨h1,hf (al5 (by simp[q3]))⟩,by omega,?_⟩;rw[hor];exact ais [] [0]
   | false =>
     refine ah hw ?_;refine⟨i+1,⟨h1,hf (al5 (by simp[q3]))⟩,by omega,?_⟩;rw[hor];exact ais [] [0]
  ·have ki:decide ((i:Int) > 0)=true:=au (by omega)
   have ki':decide ((0:Int)<(i:Int))=true:=au (by omega);have kw:IntKind.i64.wrap ((i:Int)-1)=((i-1:Nat):Int):=by rw[aL (by omega) (by omega)];omega
   have kb:decide (((i-1:Nat):Int)<((s.tabs.length:Nat):Int))=true:=au (by omega);refine eV hgd ki ki' kw kb hgp ?_;refine aK (c1) ?_;by_cases q2:0<=C
   ·have k2:decide (C ≥ 0)=true:=au q2;have k2':decide (0<=C)=true:=au q2;obtain rfl:=hf0 (al7 ⟨by omega,q2⟩) (by decide);refine cH k2 k2' ?_;exact ai
   have k2:decide (C ≥ 0)=false:=aA q2;have k2':decide (0<=C)=false:=aA q2;rw[al5 (fun h=>q2 h.2)]at hf0 hf;refine aZ k2 k2' ?_;refine aK (c2) ?_;by_cases q3:V=0
   case neg=>
    have k3:(V != 0)=true:=by simp[q3]
    obtain rfl:=hf0 (al7 q3) (by decide);refine aM k3 ?_;exact ai
   have k3:(V != 0)=false:=by simp[q3]
   refine bJ k3 ?_;cases W with
   | true =>
     refine ah hw ?_;refine⟨i+1,⟨h1,hf (al5 (by simp[q3]))⟩,by omega,?_⟩;rw[hor];exact ais [] [0]
   | false =>
     refine ah hw ?_;refine⟨i+1,⟨h1,hf (al5 (by simp[q3]))⟩,by omega,?_⟩;rw[hor];exact ais [] [0]
 ·obtain rfl:i=s.tabs.length:=by omega
  have e1:=inF (s.tabs.length);rw[ze]at hn;subst hn;generalize orN (fun i=>decide ((tab s.tabs i).cp=s.j)) s.tabs.length=W;refine aF e1 ?_;exact ai
theorem UY(v:Vot):PC Tryz.prog 326 [.agg (al v)] (.bool (!v.has&&decide (v≠dL))):=by
 refine PC.fact 3 vV (by simp) puA puA ?_;unfold mL;refine bd ?_;cases hh:v.has with
 | true =>
   refine ah hh ?_;exact ai
 | false =>
   by_cases q:v=dL
   ·have e:decide (v=⟨false,0,rt0⟩)=true:=au q;rw[aA (p:=v≠dL) (fun h=>h q)];refine aZ hh e ?_;exact ai
   ·have e:decide (v=⟨false,0,rt0⟩)=false:=aA q;rw[au (p:=v≠dL) q];refine aZ hh e ?_;exact ai
theorem R6(s:ap)(hl:s.latest.length<=2097152)(he:s.eqv.length<=2097152):PC Tryz.prog 233 [.agg (aE s.a)] (.bool (nF s)):=by
 refine PC.fact 4 zQ (by simp) puA puA ?_;unfold pl;refine bd ?_;unfold nF;have c1:=aaO s.latest false 326 (fun i=>!(vot s.latest i).has&&decide (vot s.latest i≠dL)) hl (fun i _=>UY _);have c2:=tq s.eqv false s.cfg.bals.length (by omega);generalize (dW (fun i=>!(vot s.latest i).has&&decide (vot s.latest i≠dL)) s.latest.length).isSome=P at *;generalize cE s.eqv s.cfg.bals.length=V at *;refine gon ?_;refine am c1 ?_;cases P with
 | true =>
   refine aX ?_;exact ai
 | false =>
   refine dQ ?_;by_cases q1:(s.latest.length:Int)=s.cfg.bals.length
   case neg=>
    have e1:((s.latest.length:Int)==(s.cfg.bals.length:Int))=false:=by simpa using q1
    rw[aA q1];refine ah e1 ?_;exact ai
   have e1:((s.latest.length:Int)==(s.cfg.bals.length:Int))=true:=by simpa using q1
   rw[au q1];by_cases q2:(s.eqv.length:Int)=0
   ·have e2:((s.eqv.length:Int)==0)=true:=by simpa using q2
    rw[au q2];refine aZ e1 e2 ?_;exact ai
   have e2:((s.eqv.length:Int)==0)=false:=by simpa using q2
   rw[aA q2];refine aZ e1 e2 ?_;refine am c2 ?_;have e3:(V==0)=decide (V=0):=by by_cases h:V=0<;>simp[h]
   refine ah e3 ?_;exact ai
theorem UN(s:ap)(x:Nod):ay Tryz.prog 328 [.agg (bB x),.ptr 0 0] [.var (aE s.a)] (.bool (decide (s.now<x.blk.slot) || !RU s x.blk)) [.var (aE s.a)]:=by
 refine ay.fact 7 vU (by simp) ?_ (by simp);unfold mK;refine bd ?_;unfold RU;have c1:ay Tryz.prog 324 [.agg (aE s.a),.int .u64 x.blk.slot] [] (.int .u64 (kJ x.blk.slot s.cfg.spe).1) []:=(qu s x.blk.slot).call;have c1:=qu s x.blk.slot;generalize (kJ x.blk.slot s.cfg.spe).1=E at *;have gt:decide (x.blk.slot > s.now)=decide (s.now<x.blk.slot):=rfl;by_cases q0:s.now<x.blk.slot
 ·have e0:=au q0
  rw[e0];by_cases q0:x.blk.fin.ep<=x.blk.just.ep
  case neg=>
   have k0:=aA q0;rw[k0];refine dC gt e0 k0 ?_;exact ahY [] [0]
  have k0:=au q0;rw[k0];by_cases q1:x.blk.just.ep<=x.blk.pul.j.ep
  case neg=>
   have k1:=aA q1;rw[k1];refine pz gt e0 k0 k1 ?_;exact ahY [] [0]
  have k1:=au q1;rw[k1];by_cases q2:x.blk.fin.ep<=x.blk.pul.f.ep
  case neg=>
   have k2:=aA q2;rw[k2];refine eU gt e0 k0 k1 k2 ?_;exact ahY [] [0]
  have k2:=au q2;rw[k2];by_cases q3:x.blk.pul.f.ep<=x.blk.pul.j.ep
  case neg=>
   have k3:=aA q3;rw[k3];refine eV gt e0 k0 k1 k2 k3 ?_;exact ahY [] [0]
  have k3:=au q3;rw[k3];refine eV gt e0 k0 k1 k2 k3 ?_;refine aK (c1) ?_;refine eV gt e0 k0 k1 k2 k3 ?_;exact ahY [] [0]
 ·have e0:=aA q0
  rw[e0];by_cases q0:x.blk.fin.ep<=x.blk.just.ep
  case neg=>
   have k0:=aA q0;rw[k0];refine dC gt e0 k0 ?_;exact ahY [] [0]
  have k0:=au q0;rw[k0];by_cases q1:x.blk.just.ep<=x.blk.pul.j.ep
  case neg=>
   have k1:=aA q1;rw[k1];refine pz gt e0 k0 k1 ?_;exact ahY [] [0]
  have k1:=au q1;rw[k1];by_cases q2:x.blk.fin.ep<=x.blk.pul.f.ep
  case neg=>
   have k2:=aA q2;rw[k2];refine eU gt e0 k0 k1 k2 ?_;exact ahY [] [0]
  have k2:=au q2;rw[k2];by_cases q3:x.blk.pul.f.ep<=x.blk.pul.j.ep
  case neg=>
   have k3:=aA q3;rw[k3];refine eV gt e0 k0 k1 k2 k3 ?_;exact ahY [] [0]
  have k3:=au q3;rw[k3];refine eV gt e0 k0 k1 k2 k3 ?_;refine aK (c1) ?_;refine eV gt e0 k0 k1 k2 k3 ?_;exact ahY [] [0]
theorem RZ(s:ap)(hb:s.nodes.length<=2097152):PC Tryz.prog 234 [.agg (aE s.a)] (.bool (wy s)):=by
 refine PC.fact 3 zP (by simp) puA puA ?_;unfold pi;refine bd ?_;unfold wy;have c1:=aaN s.nodes false 328 ⟨aE s.a,s.pul⟩ (fun i=>decide (s.now<(nod s.nodes i).blk.slot) || !RU s (nod s.nodes i).blk) hb (fun i _=>UN s _);generalize (dW (fun i=>decide (s.now<(nod s.nodes i).blk.slot) || !RU s (nod s.nodes i).blk) s.nodes.length).isSome=P at *;refine gon ?_;refine aG [0] (c1) evd (aq.mk' (by simp) evd) ?_;refine evg ?_;refine gon ?_;exact ai
end Go.Proofs.YtnjdpnfglgcjcaaGreat
