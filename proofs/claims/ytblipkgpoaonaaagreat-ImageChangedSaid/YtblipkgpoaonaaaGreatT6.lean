/- Joined. -/
import Derived.Test.YtblipkgpoaonaaaGreatT4
import Derived.Test.YtblipkgpoaonaaaGreatU2
set_option linter.unusedVariables false
set_option linter.unusedSimpArgs false
set_option maxRecDepth 8000
set_option maxHeartbeats 4000000
namespace Go.FH
open Go Go.RowKit
def orN(p:Nat->Bool):Nat->Bool
 |0=>false
 |k+1=>orN p k || p k
end Go.FH
namespace Go.Proofs.YtblipkgpoaonaaaGreat
open Go Go.FH Go.RowKit
theorem UR(s:ap)(hb:s.tabs.length<=2097152)(hbb:∀t∈s.tabs,t.bals.length<=2097152)(hu:∀t∈s.tabs,∀x∈t.bals,0<=x/\x<18446744073709551616):
 PC Tryz.prog 291 [.agg (aE s.a)] (.bool (decide (frE (pR s) (s.tabs.length-0) 0=0)&&orN (fun i=>decide ((tab s.tabs i).cp=s.j)) s.tabs.length)):=by
 refine pfn 10 yh ?_;unfold nP;refine bd ?_;obtain⟨F,hF⟩:∃F,F=frE (pR s) (s.tabs.length-0) 0:=⟨_,rfl⟩
 rw[<-hF];refine gon ?_;refine az (fun i:Nat=>[(9,.int .i64 i),(3,.bool (orN (fun i=>decide ((tab s.tabs i).cp=s.j)) i))]) (fun i=>[.var (aE s.a)]) (fun i=>s.tabs.length-i) (fun i=>i<=s.tabs.length/\F=frE (pR s) (s.tabs.length-i) i) 0 ⟨amc _,hF⟩ ?_ ?_
 ·exact ais [] [0]
 clear hF;rintro i ⟨hi,hn⟩;refine dp ?_;by_cases h1:i<s.tabs.length
 ·have e1:=inT h1
  have hw:=af h1 NB;have hgd:(rows aW.c s.tabs).getD i []=cx (tab s.tabs i).a:=aS (f:=aW.c) default h1;have hm:tab s.tabs i∈s.tabs:=bK default h1;have hgp:(rows aW.c s.tabs).getD (i-1) []=cx (tab s.tabs (i-1)).a:=aS (f:=aW.c) default NB;have c1:=YO (tab s.tabs (i-1)) (tab s.tabs i);have c2:=G3 (tab s.tabs i) s.cfg.bals.length (hbb _ hm) (hu _ hm);have hf0:∀ {v:Int},pR s i=v->v≠0->F=v:=fun h0 h2=>by rw[hn,zg h1 (by rw[h0];exact h2),h0]
  have hf:pR s i=0->F=frE (pR s) (s.tabs.length-(i+1)) (i+1):=fun h0=>by rw[hn,zf h1 h0]
  clear hn;unfold pR at hf0 hf;have hor:orN (fun i=>decide ((tab s.tabs i).cp=s.j)) (i+1)=(orN (fun i=>decide ((tab s.tabs i).cp=s.j)) i || decide ((tab s.tabs i).cp=s.j)):=rfl;generalize orN (fun i=>decide ((tab s.tabs i).cp=s.j)) i=W at *;generalize tab s.tabs (i-1)=y at *;generalize tab s.tabs i=x at *;generalize gh x s.cfg.bals.length=V at *;generalize kW y.cp x.cp=C at *;refine bw e1 ?_;by_cases qi:i=0
  ·have ki:decide ((i:Int) > 0)=false:=aA NB
   have ki':decide ((0:Int)<(i:Int))=false:=aA NB;rw[al5 (fun h=>NB)]at hf0 hf;refine dC hgd ki ki' ?_;refine aK (c2) ?_;by_cases q3:V=0
   case neg=>
    have k3:(V != 0)=true:=by simp[q3]
    obtain rfl:=hf0 (al7 q3) NE;refine aM k3 ?_;exact ai
   have k3:(V != 0)=false:=by simp[q3]
   refine bJ k3 ?_;cases W with
   | true =>
     refine ah hw ?_;refine⟨i+1,⟨h1,hf (al5 (by simp[q3]))⟩,NB,?_⟩;rw[hor];exact ais [] [0]
   | false =>
     refine ah hw ?_;refine⟨i+1,⟨h1,hf (al5 (by simp[q3]))⟩,NB,?_⟩;rw[hor];exact ais [] [0]
  ·have ki:decide ((i:Int) > 0)=true:=au NB
   have ki':decide ((0:Int)<(i:Int))=true:=au NB;have kw:IntKind.i64.wrap ((i:Int)-1)=((i-1:Nat):Int):=by rw[aL NB NB];omega
   have kb:decide (((i-1:Nat):Int)<((s.tabs.length:Nat):Int))=true:=au NB;refine eV hgd ki ki' kw kb hgp ?_;refine aK (c1) ?_;by_cases q2:0<=C
   ·have k2:decide (C ≥ 0)=true:=au q2;have k2':decide (0<=C)=true:=au q2;obtain rfl:=hf0 (al7 ⟨NB,q2⟩) NE;refine cH k2 k2' ?_;exact ai
   have k2:decide (C ≥ 0)=false:=aA q2;have k2':decide (0<=C)=false:=aA q2;rw[al5 (fun h=>q2 h.2)]at hf0 hf;refine aZ k2 k2' ?_;refine aK (c2) ?_;by_cases q3:V=0
   case neg=>
    have k3:(V != 0)=true:=by simp[q3]
    obtain rfl:=hf0 (al7 q3) NE;refine aM k3 ?_;exact ai
   have k3:(V != 0)=false:=by simp[q3]
   refine bJ k3 ?_;cases W with
   | true =>
     refine ah hw ?_;refine⟨i+1,⟨h1,hf (al5 (by simp[q3]))⟩,NB,?_⟩;rw[hor];exact ais [] [0]
   | false =>
     refine ah hw ?_;refine⟨i+1,⟨h1,hf (al5 (by simp[q3]))⟩,NB,?_⟩;rw[hor];exact ais [] [0]
 ·obtain rfl:i=s.tabs.length:=NB
  have e1:=inF (s.tabs.length);rw[ze]at hn;subst hn;generalize orN (fun i=>decide ((tab s.tabs i).cp=s.j)) s.tabs.length=W;refine aF e1 ?_;exact ai
theorem UY(v:Vot):PC Tryz.prog 387 [.agg (al v)] (.bool (!v.has&&decide (v≠dL))):=by
 refine pfn 3 vV ?_;unfold mL;refine bd ?_;cases hh:v.has with
 | true =>
   refine ah hh ?_;exact ai
 | false =>
   by_cases q:v=dL
   ·have e:decide (v=⟨false,0,rt0⟩)=true:=au q;rw[aA (p:=v≠dL) (fun h=>h q)];refine aZ hh e ?_;exact ai
   ·have e:decide (v=⟨false,0,rt0⟩)=false:=aA q;rw[au (p:=v≠dL) q];refine aZ hh e ?_;exact ai
theorem R6(s:ap)(hl:s.latest.length<=2097152)(he:s.eqv.length<=2097152):PC Tryz.prog 292 [.agg (aE s.a)] (.bool (nF s)):=by
 refine cD 4 ?_;unfold nF;have c1:=aaO s.latest false 387 (fun i=>!(vot s.latest i).has&&decide (vot s.latest i≠dL)) hl (fun i _=>UY _);have c2:=tq s.eqv false s.cfg.bals.length NB;generalize (dW (fun i=>!(vot s.latest i).has&&decide (vot s.latest i≠dL)) s.latest.length).isSome=P at *;generalize cE s.eqv s.cfg.bals.length=V at *;refine gon ?_;refine am c1 ?_;cases P with
 | true =>
   refine aX ?_;exact ai
 | false =>
   refine dQ ?_;by_cases q1:(s.latest.length:Int)=s.cfg.bals.length
   case neg=>
    have e1:((s.latest.length:Int)==(s.cfg.bals.length:Int))=false:=by simpa using q1
    rw[aA q1];refine ah e1 ?_;exact ai
   have e1:((s.latest.length:Int)==(s.cfg.bals.length:Int))=true:=by simpa using q1
   rw[au q1];by_cases q2:(s.eqv.length:Int)=0
   ·have e2:((s.eqv.length:Int)==0)=true:=by simpa using q2
    rw[au q2];refine aZ e1 e2 ?_;exact ai
   have e2:((s.eqv.length:Int)==0)=false:=by simpa using q2
   rw[aA q2];refine aZ e1 e2 ?_;refine am c2 ?_;have e3:(V==0)=decide (V=0):=by by_cases h:V=0<;>simp[h]
   refine ah e3 ?_;exact ai
theorem UN(s:ap)(x:Nod):ay Tryz.prog 389 [.agg (bB x),.ptr 0 0] [.var (aE s.a)] (.bool (decide (s.now<x.blk.slot) || !RU s x.blk)) [.var (aE s.a)]:=by
 refine dS 7 ?_;unfold RU;have c1:ay Tryz.prog 385 [.agg (aE s.a),.int .u64 x.blk.slot] [] (.int .u64 (kJ x.blk.slot s.cfg.spe).1) []:=(qu s x.blk.slot).call;have c1:=qu s x.blk.slot;generalize (kJ x.blk.slot s.cfg.spe).1=E at *;have gt:decide (x.blk.slot > s.now)=decide (s.now<x.blk.slot):=rfl;by_cases q0:s.now<x.blk.slot
 ·have e0:=au q0
  rw[e0];by_cases q0:x.blk.fin.ep<=x.blk.just.ep
  case neg=>
   have k0:=aA q0;rw[k0];refine dC gt e0 k0 ?_;exact ahY [] [0]
  have k0:=au q0;rw[k0];by_cases q1:x.blk.just.ep<=x.blk.pul.j.ep
  case neg=>
   have k1:=aA q1;rw[k1];refine pz gt e0 k0 k1 ?_;exact ahY [] [0]
  have k1:=au q1;rw[k1];by_cases q2:x.blk.fin.ep<=x.blk.pul.f.ep
  case neg=>
   have k2:=aA q2;rw[k2];refine eU gt e0 k0 k1 k2 ?_;exact ahY [] [0]
  have k2:=au q2;rw[k2];by_cases q3:x.blk.pul.f.ep<=x.blk.pul.j.ep
  case neg=>
   have k3:=aA q3;rw[k3];refine eV gt e0 k0 k1 k2 k3 ?_;exact ahY [] [0]
  have k3:=au q3;rw[k3];refine eV gt e0 k0 k1 k2 k3 ?_;refine aK (c1) ?_;refine eV gt e0 k0 k1 k2 k3 ?_;exact ahY [] [0]
 ·have e0:=aA q0
  rw[e0];by_cases q0:x.blk.fin.ep<=x.blk.just.ep
  case neg=>
   have k0:=aA q0;rw[k0];refine dC gt e0 k0 ?_;exact ahY [] [0]
  have k0:=au q0;rw[k0];by_cases q1:x.blk.just.ep<=x.blk.pul.j.ep
  case neg=>
   have k1:=aA q1;rw[k1];refine pz gt e0 k0 k1 ?_;exact ahY [] [0]
  have k1:=au q1;rw[k1];by_cases q2:x.blk.fin.ep<=x.blk.pul.f.ep
  case neg=>
   have k2:=aA q2;rw[k2];refine eU gt e0 k0 k1 k2 ?_;exact ahY [] [0]
  have k2:=au q2;rw[k2];by_cases q3:x.blk.pul.f.ep<=x.blk.pul.j.ep
  case neg=>
   have k3:=aA q3;rw[k3];refine eV gt e0 k0 k1 k2 k3 ?_;exact ahY [] [0]
  have k3:=au q3;rw[k3];refine eV gt e0 k0 k1 k2 k3 ?_;refine aK (c1) ?_;refine eV gt e0 k0 k1 k2 k3 ?_;exact ahY [] [0]
theorem RZ(s:ap)(hb:s.nodes.length<=2097152):PC Tryz.prog 293 [.agg (aE s.a)] (.bool (wy s)):=by
 refine cD 3 ?_;unfold wy;have c1:=aaN s.nodes false 389 ⟨aE s.a,s.pul⟩ (fun i=>decide (s.now<(nod s.nodes i).blk.slot) || !RU s (nod s.nodes i).blk) hb (fun i _=>UN s _);generalize (dW (fun i=>decide (s.now<(nod s.nodes i).blk.slot) || !RU s (nod s.nodes i).blk) s.nodes.length).isSome=P at *;refine gon ?_;refine ocg [0] c1 ?_;exact ai
end Go.Proofs.YtblipkgpoaonaaaGreat
namespace Go.Proofs.YtblipkgpoaonaaaGreat
open Go Go.FH Go.RowKit
def tn(t:List Nod):List Rt:=t.map (·.blk.root)
def eaE(s:ap)(i:Nat):Int:=cE (gO s.early i).vals s.cfg.bals.length
def qt(s:ap)(i:Nat):Int:=
 if (dn s.orph i).root=rt0 then 1 else if (dn s.orph i).root∈tn s.nodes then 1 else if (dn s.orph i).root∈(s.orph.take i).map (·.root)then 1 else if (dn s.orph i).parent∈tn s.nodes then 1
 else if (dn s.orph i).timely=true then 1 else if s.now<(dn s.orph i).slot then 1 else if (dn s.orph i).slot<=(dk s.f.ep s.cfg.spe).1 then 1 else 0
def zV(s:ap):Bool:=decide (frE (eaE s) (s.early.length-0) 0=0)&&decide (frE (qt s) (s.orph.length-0) 0=0)
theorem YU(s:ap)(hn:s.nodes.length<=2097152)(he:s.early.length<=2097152)(ho:s.orph.length<=2097152)(hv:∀a∈s.early,a.vals.length<=2097152)(hf:U64 s.f.ep):PC Tryz.prog 294 [.agg (aE s.a)] (.bool (zV s)):=by
 refine cD 61 ?_;unfold zV;obtain⟨E,hE⟩:∃E,E=frE (eaE s) (s.early.length-0) 0:=⟨_,rfl⟩
 obtain⟨O,hO⟩:∃O,O=frE (qt s) (s.orph.length-0) 0:=⟨_,rfl⟩
 rw[<-hE,<-hO];refine gon ?_;refine az (fun i:Nat=>[(17,.int .i64 i)]) (fun i=>[.var (aE s.a)]) (fun i=>s.early.length-i) (fun i=>i<=s.early.length/\E=frE (eaE s) (s.early.length-i) i) 0 ⟨amc _,hE⟩ ?_ ?_
 ·exact ais [] [0]
 clear hE;rintro i ⟨hi,hE⟩;refine dp ?_;by_cases h1:i<s.early.length
 ·have e1:=inT h1
  have hw:=af h1 NB;have hgd:(rows bp.c s.early).getD i []=cy (gO s.early i).a:=aS (f:=bp.c) default h1;have hm:gO s.early i∈s.early:=bK default h1;have c1:=tq (gO s.early i).vals false s.cfg.bals.length (by have:=hv _ hm;omega);have hf0:∀ {v:Int},eaE s i=v->v≠0->E=v:=fun h0 h2=>by rw[hE,zg h1 (by rw[h0];exact h2),h0]
  have hf1:eaE s i=0->E=frE (eaE s) (s.early.length-(i+1)) (i+1):=fun h0=>by rw[hE,zf h1 h0]
  clear hE;unfold eaE at hf0 hf1;generalize cE (gO s.early i).vals s.cfg.bals.length=V at *;refine bw e1 ?_;refine ah hgd ?_;refine am c1 ?_;by_cases q:V=0
  ·have k:(V != 0)=false:=by simp[q]
   refine bJ k ?_;refine ah hw ?_;refine⟨i+1,⟨h1,hf1 q⟩,NB,?_⟩;exact ais [] [0]
  ·have k:(V != 0)=true:=by simp[q]
   obtain rfl:=hf0 rfl q;rw[aA q,ajq];refine aM k ?_;exact ai
 ·obtain rfl:i=s.early.length:=NB
  have e1:=inF (s.early.length);rw[ze]at hE;subst hE;rw[au rfl,am2];clear hi h1;have c2:=Fv (e:=s.f.ep) (p:=s.cfg.spe) hf.1 hf.2;generalize hS:dk s.f.ep s.cfg.spe=S at *;obtain⟨S1,S2⟩:=S;dsimp only at c2;refine aF e1 ?_;refine ahG c2 ?_;refine az (fun x:Nat×List Rt=>[(46,.int .i64 x.1)]) (fun x=>[.var (aE s.a),.map (mrt x.2)]) (fun x=>s.nodes.length-x.1) (fun x=>x.1<=s.nodes.length/\∀r,r∈x.2↔r∈tn (s.nodes.take x.1)) (0,[]) ⟨amc _,fun r=>by simp[tn]⟩ ?_ ?_
  ·dsimp only;rw[show mrt []=[]from rfl];exact ais [] [0,1]
  clear e1;rintro⟨i,m⟩ ⟨hi,hm⟩;dsimp only at hi hm ⊢;refine dp ?_;by_cases h1:i<s.nodes.length
  ·have e1:=inT h1
   have hw:=af h1 NB;have hgd:(rows bB s.nodes).getD i []=bB (nod s.nodes i):=aS (f:=bB) gr h1
   have hps:tn (s.nodes.take (i+1))=tn (s.nodes.take i)++[(nod s.nodes i).blk.root]:=by
    unfold tn;rw[amY,al6 h1,amN];unfold nod;rw[alt,al6 h1];rfl
   generalize nod s.nodes i=x at *;refine bw e1 ?_;refine ah hgd ?_;by_cases q:x.blk.root∈m
   ·obtain⟨j,j1,j2,j3⟩:=xI q
    refine dC j1 j3 hw ?_;refine⟨(i+1,m),⟨h1,fun r=>?_⟩,by dsimp only;omega,?_⟩
    ·dsimp only;rw[hps,amm,<-hm,amn];exact⟨.inl,fun h=>h.elim id fun h=>h▸q⟩
    ·exact ais [] [0,1]
   ·have j1:=D3 q
    refine aZ j1 hw ?_;refine⟨(i+1,m++[x.blk.root]),⟨h1,fun r=>?_⟩,by dsimp only;omega,?_⟩
    ·dsimp only;rw[hps,amm,amm,<-hm]
    ·exact ais [] [0,1]
  ·obtain rfl:i=s.nodes.length:=NB
   have e1:=inF (s.nodes.length);rw[ajp]at hm;clear hi h1;refine aF e1 ?_;refine az (fun i:Nat=>[(60,.int .i64 i)]) (fun i=>[.var (aE s.a),.map (mrt m),.map (mrt ((s.orph.take i).map (·.root)))]) (fun i=>s.orph.length-i) (fun i=>i<=s.orph.length/\O=frE (qt s) (s.orph.length-i) i) 0 ⟨amc _,hO⟩ ?_ ?_
   ·rw[akk,amR,show mrt []=[]from rfl];exact ais [] [0,1,2]
   clear hO e1;rintro i ⟨hi,hO⟩;refine dp ?_;by_cases h1:i<s.orph.length
   ·have e1:=inT h1
    have hw:=af h1 NB;have hgd:(rows aO s.orph).getD i []=aO (dn s.orph i):=aS (f:=aO) cw h1
    have hps:(s.orph.take (i+1)).map (·.root)=(s.orph.take i).map (·.root)++[(dn s.orph i).root]:=by
     rw[amY,al6 h1,amN];unfold dn;rw[alt,al6 h1];rfl
    have hf0:∀ {v:Int},qt s i=v->v≠0->O=v:=fun h0 h2=>by rw[hO,zg h1 (by rw[h0];exact h2),h0]
    have hf1:qt s i=0->O=frE (qt s) (s.orph.length-(i+1)) (i+1):=fun h0=>by rw[hO,zf h1 h0]
    clear hO;obtain⟨G,hG⟩:∃G,G=frE (qt s) (s.orph.length-(i+1)) (i+1):=⟨_,rfl⟩
    rw[<-hG]at hf1;unfold qt at hf0 hf1;rw[hS]at hf0 hf1;dsimp only at hf0 hf1;have c3:=H1 (dn s.orph i).root;generalize dn s.orph i=x at *;generalize (s.orph.take i).map (·.root)=u at *;refine bw e1 ?_;refine ah hgd ?_;refine am c3 ?_;by_cases q1:x.root=rt0
    ·have k1:=au q1;obtain rfl:=hf0 (al7 q1) NE;refine aM k1 ?_;exact ai
    have k1:=aA q1;rw[al5 q1]at hf0 hf1;by_cases q2:x.root∈m
    ·obtain⟨j,j1,j2,j3⟩:=xI q2;obtain rfl:=hf0 (al7 ((hm _).1 q2)) NE;refine fI k1 j1 j2 ?_;exact ai
    have j1:=D3 q2;rw[al5 (fun h=>q2 ((hm _).2 h))]at hf0 hf1;by_cases q3:x.root∈u
    ·obtain⟨j,l1,l2,l3⟩:=xI q3;obtain rfl:=hf0 (al7 q3) NE;refine nC k1 j1 l1 l2 ?_;exact ai
    have l1:=D3 q3;rw[al5 q3]at hf0 hf1;by_cases q4:x.parent∈m
    ·obtain⟨j,n1,n2,n3⟩:=xI q4;obtain rfl:=hf0 (al7 ((hm _).1 q4)) NE;refine eU k1 j1 l1 n1 n2 ?_;refine agF ?_;exact ai
    have n1:=D3 q4;rw[al5 (fun h=>q4 ((hm _).2 h))]at hf0 hf1;by_cases q5:x.timely=true
    ·have k5:=q5;obtain rfl:=hf0 (al7 q5) NE;refine eU k1 j1 l1 n1 k5 ?_;refine agF ?_;exact ai
    have k5:x.timely=false:=by simpa using q5
    rw[al5 q5]at hf0 hf1;by_cases q6:s.now<x.slot
    ·have k6:=au q6;have k6':decide (x.slot > s.now)=true:=k6;obtain rfl:=hf0 (al7 q6) NE;refine jj k1 j1 l1 n1 k5 k6 k6' ?_;refine agF ?_;exact ai
    have k6:=aA q6;have k6':decide (x.slot > s.now)=false:=k6;rw[al5 q6]at hf0 hf1;by_cases q7:x.slot<=S1
    ·have k7:=au q7;obtain rfl:=hf0 (al7 q7) NE;refine mP k1 j1 l1 n1 k5 k6 k6' k7 ?_;refine agF ?_;exact ai
    have k7:=aA q7;rw[al5 q7]at hf0 hf1;refine mP k1 j1 l1 n1 k5 k6 k6' k7 ?_;refine aB ?_;refine aZ l1 hw ?_;refine⟨i+1,⟨h1,(hf1 rfl).trans hG⟩,NB,?_⟩;rw[hps];exact ais [] [0,1,2]
   ·obtain rfl:i=s.orph.length:=NB
    have e1:=inF (s.orph.length);rw[ze]at hO;subst hO;refine aF e1 ?_;exact ai
def oL(s:ap):Int:=
 if ib s.cfg≠0 then ib s.cfg else if statV s.nodes≠0 then statV s.nodes
 else if s.cfg.lim.node<s.nodes.length then 11 else if s.cfg.lim.orph<s.orph.length then 11 else if s.cfg.lim.early<s.early.length then 11 else if s.cfg.lim.table<s.tabs.length then 11
 else if KK s=false then 2 else if (decide (frE (pR s) (s.tabs.length-0) 0=0)&&orN (fun i=>decide ((tab s.tabs i).cp=s.j)) s.tabs.length)=false then 2
 else if nF s=false then 2 else if wy s=false then 2 else if zV s=false then 2 else 0
structure Qw(s:ap):Prop where
 bn:s.nodes.length<=2097152
 bl:s.latest.length<=2097152
 be:s.eqv.length<=2097152
 bt:s.tabs.length<=2097152
 bb:∀t∈s.tabs,t.bals.length<=2097152
 bu:∀t∈s.tabs,∀x∈t.bals,0<=x/\x<18446744073709551616
 bo:s.orph.length<=2097152
 ba:s.early.length<=2097152
 bv:∀a∈s.early,a.vals.length<=2097152
 bc:s.cfg.bals.length<=2097152
 cu:∀x∈s.cfg.bals,0<=x/\x<18446744073709551616
 uf:U64 s.f.ep
theorem YY(s:ap)(h:Qw s):PC Tryz.prog 168 [.agg (aE s.a)] (.int .i64 (oL s)):=by
 refine cD 5 ?_;obtain⟨R,hR⟩:∃R,R=oL s:=⟨_,rfl⟩
 rw[<-hR];unfold oL at hR;have c1:=YQ s.cfg h.bc h.cu;have c2:=R0 s.nodes h.bn
 have hpos:statV s.nodes=0->0<s.nodes.length:=fun h0=>by
  unfold statV at h0;split at h0
  ·rename_i h1;exact absurd h0 h1
  ·rename_i h1;exact(xu (by simpa using h1)).1.pos
 have c3:=fun h0=>YT s h.bn h0 h.uf
 have c4:=UR s h.bt h.bb h.bu;have c5:=R6 s h.bl h.be;have c6:=RZ s h.bn;have c7:=YU s h.bn h.ba h.bo h.bv h.uf;generalize ib s.cfg=V1 at *;generalize statV s.nodes=V2 at *;generalize KK s=V3 at *;generalize (decide (frE (pR s) (s.tabs.length-0) 0=0)&&orN (fun i=>decide ((tab s.tabs i).cp=s.j)) s.tabs.length)=V4 at *;generalize nF s=V5 at *;generalize wy s=V6 at *;generalize zV s=V7 at *;refine gon ?_;refine am c1 ?_;by_cases q1:V1=0
 case neg=>
  have k:(V1 != 0)=true:=by simp[q1]
  rw[al7 q1]at hR;subst hR;refine aM k ?_;exact ai
 have k:(V1 != 0)=false:=by simp[q1]
 rw[al5 (by simp[q1])]at hR;refine aF k ?_;refine am c2 ?_;by_cases q2:V2=0
 case neg=>
  have k:(V2 != 0)=true:=by simp[q2]
  rw[al7 q2]at hR;subst hR;refine aM k ?_;exact ai
 have k:(V2 != 0)=false:=by simp[q2]
 rw[al5 (by simp[q2])]at hR;have c3:=c3 (hpos q2);refine bJ k ?_;by_cases q3:s.cfg.lim.node<(s.nodes.length:Int)
 ·have k3:decide ((s.nodes.length:Int) > s.cfg.lim.node)=true:=au q3;have k3':decide (s.cfg.lim.node<(s.nodes.length:Int))=true:=au q3;rw[al7 q3]at hR;subst hR;refine cH k3 k3' ?_;exact ai
 have k3:decide ((s.nodes.length:Int) > s.cfg.lim.node)=false:=aA q3;have k3':decide (s.cfg.lim.node<(s.nodes.length:Int))=false:=aA q3;rw[al5 q3]at hR;by_cases q4:s.cfg.lim.orph<(s.orph.length:Int)
 ·have k4:decide ((s.orph.length:Int) > s.cfg.lim.orph)=true:=au q4;have k4':decide (s.cfg.lim.orph<(s.orph.length:Int))=true:=au q4;rw[al7 q4]at hR;subst hR;refine nC k3 k3' k4 k4' ?_;exact ai
 have k4:decide ((s.orph.length:Int) > s.cfg.lim.orph)=false:=aA q4;have k4':decide (s.cfg.lim.orph<(s.orph.length:Int))=false:=aA q4;rw[al5 q4]at hR;by_cases q5:s.cfg.lim.early<(s.early.length:Int)
 ·have k5:decide ((s.early.length:Int) > s.cfg.lim.early)=true:=au q5;have k5':decide (s.cfg.lim.early<(s.early.length:Int))=true:=au q5;rw[al7 q5]at hR;subst hR;refine eV k3 k3' k4 k4' k5 k5' ?_;refine agF ?_;exact ai
 have k5:decide ((s.early.length:Int) > s.cfg.lim.early)=false:=aA q5;have k5':decide (s.cfg.lim.early<(s.early.length:Int))=false:=aA q5;rw[al5 q5]at hR;by_cases q6:s.cfg.lim.table<(s.tabs.length:Int)
 ·have k6:decide ((s.tabs.length:Int) > s.cfg.lim.table)=true:=au q6;have k6':decide (s.cfg.lim.table<(s.tabs.length:Int))=true:=au q6;rw[al7 q6]at hR;subst hR;refine mP k3 k3' k4 k4' k5 k5' k6 k6' ?_;refine agF ?_;exact ai
 have k6:decide ((s.tabs.length:Int) > s.cfg.lim.table)=false:=aA q6;have k6':decide (s.cfg.lim.table<(s.tabs.length:Int))=false:=aA q6;rw[al5 q6]at hR;refine mP k3 k3' k4 k4' k5 k5' k6 k6' ?_;refine agE ?_;refine am c3 ?_;cases V3 with
 | false =>
   rw[al7 rfl]at hR;subst hR;refine aX ?_;exact ai
 |true=>
 rw[al5 NC]at hR;refine gon ?_;refine am c4 ?_;cases V4 with
 | false =>
   rw[al7 rfl]at hR;subst hR;refine aX ?_;exact ai
 |true=>
 rw[al5 NC]at hR;refine gon ?_;refine am c5 ?_;cases V5 with
 | false =>
   rw[al7 rfl]at hR;subst hR;refine aX ?_;exact ai
 |true=>
 rw[al5 NC]at hR;refine gon ?_;refine am c6 ?_;cases V6 with
 | false =>
   rw[al7 rfl]at hR;subst hR;refine aX ?_;exact ai
 |true=>
 rw[al5 NC]at hR;refine gon ?_;refine am c7 ?_;cases V7 with
 | false =>
   rw[al7 rfl]at hR;subst hR;refine aX ?_;exact ai
 |true=>
 rw[al5 NC]at hR;refine bk ?_;subst hR;exact ai
def tk(c:cU):ap:=⟨c,List.replicate c.bals.length dL,[],⟨0,c.gen⟩,⟨0,c.gen⟩,[],[],[⟨adM c.gen,-1,1⟩],1,rt0,[⟨⟨0,c.gen⟩,c.bals⟩]⟩
theorem Jg:CpR jX:=⟨by simp[jX],by simp[jX],by simp[jX],by simp[jX],fun t ht=>by simp[jX]at ht,by simp[jX],by simp[jX],fun t ht=>by simp[jX]at ht,by simp[jX]⟩
end Go.Proofs.YtblipkgpoaonaaaGreat
