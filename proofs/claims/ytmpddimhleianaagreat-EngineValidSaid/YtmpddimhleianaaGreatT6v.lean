/- Joined. -/
import Derived.Test.YtmpddimhleianaaGreatW3v
import Derived.Test.YtmpddimhleianaaGreatT4v
import Derived.Test.YtmpddimhleianaaGreatU2v
set_option linter.unusedVariables false
set_option linter.unusedSimpArgs false
set_option maxRecDepth 8000
set_option maxHeartbeats 4000000
namespace Go.FH
open Go Go.RowKit
def orN(p:Nat->Bool):Nat->Bool
 |0=>false
 |k+1=>orN p k || p k
end Go.FH
namespace Go.Proofs.YtmpddimhleianaaGreat
open Go Go.FH Go.RowKit
theorem Ni(s:af)(hb:s.tabs.length<=2097152)(hbb:∀t∈s.tabs,t.bals.length<=2097152)(hu:∀t∈s.tabs,∀x∈t.bals,0<=x/\x<18446744073709551616):
 PC Tryz.prog 139 [.agg (ak s.a)] (.bool (decide (frE (mO s) (s.tabs.length-0) 0=0)&&orN (fun i=>decide ((tab s.tabs i).cp=s.j)) s.tabs.length)):=by
 refine pfn 10 tO ?_;unfold mT;refine bd ?_;obtain⟨F,hF⟩:∃F,frE (mO s) (s.tabs.length-0) 0=F:=⟨_,rfl⟩
 rw[hF];have hz:orN (fun i=>decide ((tab s.tabs i).cp=s.j)) 0=false:=rfl;refine nx fun _=>?_
 refine oU s.tabs.length (fun i=>F=frE (mO s) (s.tabs.length-i) i) (fun i=>[(9,.int .i64 i),(3,.bool (orN (fun i=>decide ((tab s.tabs i).cp=s.j)) i))]) (fun i=>[.var (ak s.a)]) hF.symm (fun i h1 hn hw h2=>?_) (fun hn _=>?_)
 ·have hgd:(rows aB.c s.tabs).getD i []=bE (tab s.tabs i).a:=aK (f:=aB.c) default h1
  have hm:tab s.tabs i∈s.tabs:=cR default h1;have hgp:(rows aB.c s.tabs).getD (i-1) []=bE (tab s.tabs (i-1)).a:=aK (f:=aB.c) default af0;have c1:=yj (tab s.tabs (i-1)) (tab s.tabs i);have c2:=ab0 (tab s.tabs i) s.cfg.bals.length (hbb _ hm) (hu _ hm);have hf0:∀ {v:Int},mO s i=v->v≠0->F=v:=fun h0 h2=>by rw[hn,uz h1 (by rw[h0];exact h2),h0]
  have hf:mO s i=0->F=frE (mO s) (s.tabs.length-(i+1)) (i+1):=fun h0=>by rw[hn,uy h1 h0]
  have hor:orN (fun i=>decide ((tab s.tabs i).cp=s.j)) (i+1)=(orN (fun i=>decide ((tab s.tabs i).cp=s.j)) i || decide ((tab s.tabs i).cp=s.j)):=rfl;clear hn hF hz hm;generalize frE (mO s) (s.tabs.length-(i+1)) (i+1)=G at *;unfold mO at hf0 hf;generalize orN (fun i=>decide ((tab s.tabs i).cp=s.j)) (i+1)=Y at *;generalize orN (fun i=>decide ((tab s.tabs i).cp=s.j)) i=W at *;generalize tab s.tabs (i-1)=y at *;generalize tab s.tabs i=x at *;generalize fY x s.cfg.bals.length=V at *;generalize gT y.cp x.cp=C at *;by_cases qi:i=0
  ·have e0:¬ (i:Int) > 0:=af0
   rw[afx (fun h=>af0)]at hf0 hf;clear qi;by_cases q3:V=0
   case neg=>
    obtain rfl:=hf0 (afA q3) af2;clear hf0 hf;exact aw
   have hf:=hf (afx (fun h=>h q3));clear hf0;subst q3 hor;cases W<;>simp only[ac9,aeh]<;>exact aw
  ·have e0:(i:Int) > 0:=af0
   have kw:IntKind.i64.wrap ((i:Int)-1)=((i-1:Nat):Int):=by rw[ar af0 af0];omega
   have kb:((i-1:Nat):Int)<((s.tabs.length:Nat):Int):=af0
   have kb2:i-1<s.tabs.length:=af0
   by_cases q2:0<=C
   ·obtain rfl:=hf0 (afA ⟨af0,q2⟩) af2;clear hf0 hf;exact aw
   rw[afx (fun h=>q2 h.2)]at hf0 hf;by_cases q3:V=0
   case neg=>
    obtain rfl:=hf0 (afA q3) af2;clear hf0 hf;exact aw
   have hf:=hf (afx (fun h=>h q3));clear hf0;subst q3 hor;cases W<;>simp only[ac9,aeh]<;>exact aw
 ·rw[ux]at hn;clear hF hz;subst hn;generalize orN (fun i=>decide ((tab s.tabs i).cp=s.j)) s.tabs.length=W;exact aw
theorem Nq(v:Vot):PC Tryz.prog 233 [.agg (bJ v)] (.bool (!v.has&&decide (v≠eY))):=by
 refine pfn 3 rY ?_;unfold mj;refine bd ?_;cases hh:v.has with
 | true =>
   refine aA hh ?_;exact aj
 | false =>
   by_cases q:v=eY
   ·have e:decide (v=⟨false,0,rt0⟩)=true:=ax q;rw[aD (p:=v≠eY) (fun h=>h q)];refine bm hh e ?_;exact aj
   ·have e:decide (v=⟨false,0,rt0⟩)=false:=aD q;rw[ax (p:=v≠eY) q];refine bm hh e ?_;exact aj
theorem KG(s:af)(hl:s.latest.length<=2097152)(he:s.eqv.length<=2097152):PC Tryz.prog 140 [.agg (ak s.a)] (.bool (mP s)):=by
 refine aQ 4 ?_;unfold mP;have c1:=Tk s.latest false 233 (fun i=>!(vot s.latest i).has&&decide (vot s.latest i≠eY)) hl (fun i _=>Nq _);have c2:=jV s.eqv false s.cfg.bals.length af0;generalize (cm (fun i=>!(vot s.latest i).has&&decide (vot s.latest i≠eY)) s.latest.length).isSome=P at *;generalize cM s.eqv s.cfg.bals.length=V at *;refine gon ?_;refine ap c1 ?_;cases P with
 | true =>
   refine bD ?_;exact aj
 | false =>
   refine d6 ?_;by_cases q1:(s.latest.length:Int)=s.cfg.bals.length
   case neg=>
    have e1:((s.latest.length:Int)==(s.cfg.bals.length:Int))=false:=by simpa using q1
    rw[aD q1];refine aA e1 ?_;exact aj
   have e1:((s.latest.length:Int)==(s.cfg.bals.length:Int))=true:=by simpa using q1
   rw[ax q1];by_cases q2:(s.eqv.length:Int)=0
   ·have e2:((s.eqv.length:Int)==0)=true:=by simpa using q2
    rw[ax q2];refine bm e1 e2 ?_;exact aj
   have e2:((s.eqv.length:Int)==0)=false:=by simpa using q2
   rw[aD q2];refine bm e1 e2 ?_;refine ap c2 ?_;have e3:(V==0)=decide (V=0):=by by_cases h:V=0<;>simp[h]
   refine aA e3 ?_;exact aj
theorem M7(s:af)(x:Nod):aJ Tryz.prog 236 [.agg (aT x),.ptr 0 0] [.var (ak s.a)] (.bool (decide (s.now<x.blk.slot) || !wv s x.blk)) [.var (ak s.a)]:=by
 refine cZ 7 ?_;unfold wv;have c1:=sC s x.blk.slot;generalize (iC x.blk.slot s.cfg.spe).1=E at *;by_cases qn:s.now<x.blk.slot
 ·rw[ax qn,aeh];exact aw
 rw[aD qn,ac9];by_cases q0:x.blk.fin.ep<=x.blk.just.ep
 case neg=>
  rw[aD q0];simp only[acI,adZ];exact aw
 rw[ax q0,acD];by_cases q1:x.blk.just.ep<=x.blk.pul.j.ep
 case neg=>
  rw[aD q1];simp only[acI,adZ];exact aw
 rw[ax q1,acD];by_cases q2:x.blk.fin.ep<=x.blk.pul.f.ep
 case neg=>
  rw[aD q2];simp only[acI,adZ];exact aw
 rw[ax q2,acD];by_cases q3:x.blk.pul.f.ep<=x.blk.pul.j.ep
 case neg=>
  rw[aD q3];simp only[acI,adZ];exact aw
 rw[ax q3,acD];exact aw
theorem KA(s:af)(hb:s.nodes.length<=2097152):PC Tryz.prog 141 [.agg (ak s.a)] (.bool (sv s)):=by
 refine aQ 3 ?_;unfold sv;have c1:=Tj s.nodes false 236 ⟨ak s.a,s.pul⟩ (fun i=>decide (s.now<(nod s.nodes i).blk.slot) || !wv s (nod s.nodes i).blk) hb (fun i _=>M7 s _);generalize (cm (fun i=>decide (s.now<(nod s.nodes i).blk.slot) || !wv s (nod s.nodes i).blk) s.nodes.length).isSome=P at *;refine gon ?_;refine ocg [0] c1 ?_;exact aj
end Go.Proofs.YtmpddimhleianaaGreat
namespace Go.Proofs.YtmpddimhleianaaGreat
open Go Go.FH Go.RowKit
def qJ(t:List Nod):List Rt:=t.map (·.blk.root)
def eaE(s:af)(i:Nat):Int:=cM (fB s.early i).vals s.cfg.bals.length
def sy(s:af)(i:Nat):Int:=
 if (cU s.orph i).root=rt0 then 1 else if (cU s.orph i).root∈qJ s.nodes then 1 else if (cU s.orph i).root∈(s.orph.take i).map (·.root)then 1 else if (cU s.orph i).parent∈qJ s.nodes then 1
 else if (cU s.orph i).timely=true then 1 else if s.now<(cU s.orph i).slot then 1 else if (cU s.orph i).slot<=(cH s.f.ep s.cfg.spe).1 then 1 else 0
def vb(s:af):Bool:=decide (frE (eaE s) (s.early.length-0) 0=0)&&decide (frE (sy s) (s.orph.length-0) 0=0)
theorem Q9(s:af)(hn:s.nodes.length<=2097152)(he:s.early.length<=2097152)(ho:s.orph.length<=2097152)(hv:∀a∈s.early,a.vals.length<=2097152)(hf:U64 s.f.ep):PC Tryz.prog 142 [.agg (ak s.a)] (.bool (vb s)):=by
 refine aQ 61 ?_;unfold vb;obtain⟨E,hE0⟩:∃E,frE (eaE s) (s.early.length-0) 0=E:=⟨_,rfl⟩
 obtain⟨O,hO0⟩:∃O,frE (sy s) (s.orph.length-0) 0=O:=⟨_,rfl⟩
 rw[hE0,hO0];refine nx fun _=>?_
 refine oU s.early.length (fun i=>E=frE (eaE s) (s.early.length-i) i) (fun i=>[(17,.int .i64 i)]) (fun i=>[.var (ak s.a)]) hE0.symm (fun i h1 hE hw h2=>?_) (fun hE _=>?_)
 ·have hgd:(rows aX.c s.early).getD i []=cK (fB s.early i).a:=aK (f:=aX.c) default h1
  have hm:fB s.early i∈s.early:=cR default h1;have c1:=jV (fB s.early i).vals false s.cfg.bals.length (by have:=hv _ hm;omega);have hf0:¬eaE s i=0->E=eaE s i:=fun h2=>by rw[hE,uz h1 h2]
  have hf1:eaE s i=0->E=frE (eaE s) (s.early.length-(i+1)) (i+1):=fun h0=>by rw[hE,uy h1 h0]
  clear hE hE0 hO0 hm;generalize frE (eaE s) (s.early.length-(i+1)) (i+1)=G at *;unfold eaE at hf0 hf1;generalize cM (fB s.early i).vals s.cfg.bals.length=V at *;by_cases q:V=0
  ·have hf1:=hf1 q;subst q;clear hf0;exact aw
  ·obtain rfl:=hf0 q;rw[aD q,acI];clear hf0 hf1;exact aw
 ·rw [ux] at hE
  clear hE0;subst hE;rw[ax rfl,acD];have c2:=oV (e:=s.f.ep) (p:=s.cfg.spe) hf.1 hf.2;generalize hS:cH s.f.ep s.cfg.spe=S at *;obtain⟨S1,S2⟩:=S;dsimp only at c2;refine nx fun _=>?_
  refine aE (fun x:Nat×List Rt=>[(46,.int .i64 x.1)]) (fun x=>[.var (ak s.a),.map (mrt x.2)]) (fun x=>s.nodes.length-x.1) (fun x=>x.1<=s.nodes.length/\∀r,r∈x.2↔r∈qJ (s.nodes.take x.1)) (0,[]) ⟨afK _,fun r=>by simp[qJ]⟩ ?_ ?_
  ·dsimp only;rw[show mrt []=[]from rfl];exact abS [] [0,1]
  rintro⟨i,m⟩ ⟨hi,hm⟩;dsimp only at hi hm ⊢;refine fM ?_;by_cases h1:i<s.nodes.length
  ·have e1:=inT h1
   have hw:=ae h1 af0;have hgd:=dv h1
   have hps:qJ (s.nodes.take (i+1))=qJ (s.nodes.take i)++[(nod s.nodes i).blk.root]:=by
    unfold qJ;rw[acB,afz h1,acu];unfold nod;rw[afy,afz h1];rfl
   generalize nod s.nodes i=x at *;clear hO0;by_cases q:x.blk.root∈m
   ·obtain⟨j,j1,j2,j3⟩:=th q
    refine nx fun _=>?_
    refine⟨(i+1,m),⟨h1,fun r=>?_⟩,by dsimp only;omega,?_⟩
    ·dsimp only;rw[hps,afR,<-hm,afN];exact⟨.inl,fun h=>h.elim id fun h=>h▸q⟩
    ·clear hm hps;exact gcA
   ·have j1:=yg q
    refine nx fun _=>?_
    refine⟨(i+1,m++[x.blk.root]),⟨h1,fun r=>?_⟩,by dsimp only;omega,?_⟩
    ·dsimp only;rw[hps,afR,afR,<-hm]
    ·clear hm hps;exact gcA
  ·obtain rfl:i=s.nodes.length:=af0
   have e1:=inF (s.nodes.length);rw[acL]at hm;clear hi h1;have hz:mrt ((s.orph.take 0).map (·.root))=[]:=rfl;have hz2:mrt []=[]:=rfl;refine nx fun _=>?_
   refine oU s.orph.length (fun i=>O=frE (sy s) (s.orph.length-i) i) (fun i=>[(60,.int .i64 i)]) (fun i=>[.var (ak s.a),.map (mrt m),.map (mrt ((s.orph.take i).map (·.root)))]) hO0.symm (fun i h1 hO hw h2=>?_) (fun hO _=>?_)
   ·have hgd:(rows au s.orph).getD i []=au (cU s.orph i):=aK (f:=au) dx h1
    have hps:(s.orph.take (i+1)).map (·.root)=(s.orph.take i).map (·.root)++[(cU s.orph i).root]:=by
     rw[acB,afz h1,acu];unfold cU;rw[afy,afz h1];rfl
    have hf0:∀ {v:Int},sy s i=v->v≠0->O=v:=fun h0 h2=>by rw[hO,uz h1 (by rw[h0];exact h2),h0]
    have hf1:sy s i=0->O=frE (sy s) (s.orph.length-(i+1)) (i+1):=fun h0=>by rw[hO,uy h1 h0]
    clear hO hO0 hz hz2;generalize frE (sy s) (s.orph.length-(i+1)) (i+1)=G at *;unfold sy at hf0 hf1;rw[hS]at hf0 hf1;clear hS;dsimp only at hf0 hf1;have c3:=gP (cU s.orph i).root;generalize cU s.orph i=x at *;generalize (s.orph.take i).map (·.root)=u at *;by_cases q1:x.root=rt0
    ·obtain rfl:=hf0 (afA q1) af2;have k1:(x.root=rt0)=True:=eq_true q1;clear hf0 hf1 q1;exact aw
    rw[afx q1]at hf0 hf1;refine nx fun _=>?_
    by_cases q2:x.root∈m
    ·obtain⟨j,j1,j2,j3⟩:=th q2;obtain rfl:=hf0 (afA ((hm _).1 q2)) af2;clear hf0 hf1;exact aw
    have j1:=yg q2;rw[afx (fun h=>q2 ((hm _).2 h))]at hf0 hf1;by_cases q3:x.root∈u
    ·obtain⟨j,l1,l2,l3⟩:=th q3;obtain rfl:=hf0 (afA q3) af2;clear hf0 hf1;exact aw
    have l1:=yg q3;rw[afx q3]at hf0 hf1;by_cases q4:x.parent∈m
    ·obtain⟨j,n1,n2,n3⟩:=th q4;obtain rfl:=hf0 (afA ((hm _).1 q4)) af2;clear hf0 hf1;exact aw
    have n1:=yg q4;rw[afx (fun h=>q4 ((hm _).2 h))]at hf0 hf1;by_cases q5:x.timely=true
    ·obtain rfl:=hf0 (afA q5) af2;clear hf0 hf1;exact aw
    rw[afx q5]at hf0 hf1;rw[acE]at q5;by_cases q6:s.now<x.slot
    ·obtain rfl:=hf0 (afA q6) af2;clear hf0 hf1;exact aw
    rw[afx q6]at hf0 hf1;by_cases q7:x.slot<=S1
    ·obtain rfl:=hf0 (afA q7) af2;clear hf0 hf1;exact aw
    rw[afx q7]at hf0 hf1;have hf1:=hf1 rfl;clear hf0 hm;exact aw
   ·rw[ux]at hO;clear hO0;subst hO;exact aw
def oz(s:af):Int:=
 if gF s.cfg≠0 then gF s.cfg else if statV s.nodes≠0 then statV s.nodes
 else if s.cfg.lim.node<s.nodes.length then 11 else if s.cfg.lim.orph<s.orph.length then 11 else if s.cfg.lim.early<s.early.length then 11 else if s.cfg.lim.table<s.tabs.length then 11
 else if En s=false then 2 else if (decide (frE (mO s) (s.tabs.length-0) 0=0)&&orN (fun i=>decide ((tab s.tabs i).cp=s.j)) s.tabs.length)=false then 2
 else if mP s=false then 2 else if sv s=false then 2 else if vb s=false then 2 else 0
structure Ly(s:af):Prop where
 bn:s.nodes.length<=2097152
 bl:s.latest.length<=2097152
 be:s.eqv.length<=2097152
 bt:s.tabs.length<=2097152
 bb:∀t∈s.tabs,t.bals.length<=2097152
 bu:∀t∈s.tabs,∀x∈t.bals,0<=x/\x<18446744073709551616
 bo:s.orph.length<=2097152
 ba:s.early.length<=2097152
 bv:∀a∈s.early,a.vals.length<=2097152
 bc:s.cfg.bals.length<=2097152
 cu:∀x∈s.cfg.bals,0<=x/\x<18446744073709551616
 uf:U64 s.f.ep
theorem Rf(s:af)(h:Ly s):PC Tryz.prog 81 [.agg (ak s.a)] (.int .i64 (oz s)):=by
 refine aQ 5 ?_;have c1:=Ge s.cfg h.bc h.cu;have c2:=KD s.nodes h.bn
 have hpos:statV s.nodes=0->0<s.nodes.length:=fun h0=>by
  unfold statV at h0;split at h0
  ·rename_i h1;exact absurd h0 h1
  ·rename_i h1;exact(sS (by simpa using h1)).1.pos
 have c3:=fun h0=>Q5 s h.bn h0 h.uf
 have c4:=Ni s h.bt h.bb h.bu;have c5:=KG s h.bl h.be;have c6:=KA s h.bn;have c7:=Q9 s h.bn h.ba h.bo h.bv h.uf;generalize hR:oz s=R;unfold oz at hR;generalize gF s.cfg=V1 at *;generalize statV s.nodes=V2 at *;generalize En s=V3 at *;generalize (decide (frE (mO s) (s.tabs.length-0) 0=0)&&orN (fun i=>decide ((tab s.tabs i).cp=s.j)) s.tabs.length)=V4 at *;generalize mP s=V5 at *;generalize sv s=V6 at *;generalize vb s=V7 at *;by_cases q1:V1=0
 case neg=>
  rw[afA q1]at hR;subst hR;exact aw
 subst q1;rw[afx (fun h=>h rfl)]at hR;by_cases q2:V2=0
 case neg=>
  rw[afA q2]at hR;subst hR;exact aw
 subst q2;rw[afx (fun h=>h rfl)]at hR;have c3:=c3 (hpos rfl);refine nx fun _=>?_
 by_cases z1:s.cfg.lim.node<(s.nodes.length:Int)
 ·rw[afA z1]at hR;subst hR;exact aw
 rw[afx z1]at hR;by_cases z2:s.cfg.lim.orph<(s.orph.length:Int)
 ·rw[afA z2]at hR;subst hR;exact aw
 rw[afx z2]at hR;by_cases z3:s.cfg.lim.early<(s.early.length:Int)
 ·rw[afA z3]at hR;subst hR;exact aw
 rw[afx z3]at hR;by_cases z4:s.cfg.lim.table<(s.tabs.length:Int)
 ·rw[afA z4]at hR;subst hR;exact aw
 rw[afx z4]at hR;refine nx fun _=>?_
 cases V3
 ·rw[afA rfl]at hR;subst hR;exact aw
 rw[afx (fun h=>by cases h)]at hR;refine nx fun _=>?_
 cases V4
 ·rw[afA rfl]at hR;subst hR;exact aw
 rw[afx (fun h=>by cases h)]at hR;refine nx fun _=>?_
 cases V5
 ·rw[afA rfl]at hR;subst hR;exact aw
 rw[afx (fun h=>by cases h)]at hR;refine nx fun _=>?_
 cases V6
 ·rw[afA rfl]at hR;subst hR;exact aw
 rw[afx (fun h=>by cases h)]at hR;refine nx fun _=>?_
 cases V7
 ·rw[afA rfl]at hR;subst hR;exact aw
 rw[afx (fun h=>by cases h)]at hR;subst hR;exact aw
theorem ZI{c:cI}(h:gF c=0):(1<=c.spe/\c.spe<=64)/\(1<=c.lim.node/\0<=c.lim.orph/\0<=c.lim.early/\1<=c.lim.table)/\c.gen≠rt0/\fY ⟨⟨0,c.gen⟩,c.bals⟩ c.bals.length=0/\c.bals.length<=1024:=by
 unfold gF at h;by_cases q0:c.spe<1
 ·rw[afA q0]at h;cases h
 rw[afx q0]at h;by_cases q1:64<c.spe
 ·rw[afA q1]at h;cases h
 rw[afx q1]at h;by_cases q2:100<c.boost
 ·rw[afA q2]at h;cases h
 rw[afx q2]at h;by_cases q3:1024<(c.bals.length:Int)
 ·rw[afA q3]at h;cases h
 rw[afx q3]at h;by_cases q4:wit c.lim.node 1 4096=false
 ·rw[afA q4]at h;cases h
 rw[afx q4]at h;by_cases q5:wit c.lim.orph 0 64=false
 ·rw[afA q5]at h;cases h
 rw[afx q5]at h;by_cases q6:wit c.lim.early 0 256=false
 ·rw[afA q6]at h;cases h
 rw[afx q6]at h;by_cases q7:wit c.lim.table 1 64=false
 ·rw[afA q7]at h;cases h
 rw[afx q7]at h;by_cases q8:wit c.lim.retry 0 256=false
 ·rw[afA q8]at h;cases h
 rw[afx q8]at h;by_cases q9:c.lim.backoff<1
 ·rw[afA q9]at h;cases h
 rw[afx q9]at h;by_cases q10:1048576<c.lim.backoff
 ·rw[afA q10]at h;cases h
 rw[afx q10]at h;by_cases q11:c.gen=rt0
 ·rw[afA q11]at h;cases h
 rw[afx q11]at h;simp only[wit,adM,afL,afJ]at q4 q5 q6 q7;exact⟨⟨af0,af0⟩,⟨q4.1,q5.1,q6.1,q7.1⟩,q11,h,af0⟩
def tk(c:cI):af:=⟨c,List.replicate c.bals.length eY,[],⟨0,c.gen⟩,⟨0,c.gen⟩,[],[],[⟨xV c.gen,-1,1⟩],1,rt0,[⟨⟨0,c.gen⟩,c.bals⟩]⟩
theorem Se(c:cI):tickA (eG c)=tk c:=rfl
theorem Vj(c:cI):kc (tk c)=⟨⟨0,c.gen⟩,⟨0,c.gen⟩⟩:=rfl
theorem W4(c:cI):eJ (tk c).tabs 0=(tk c).tabs:=by
 unfold eJ;show aH _ [] 1=_
 rw[bg,Dy];rfl
theorem YK(c:cI):dw (tk c) ⟨0,c.gen⟩ ⟨0,c.gen⟩=tk c:=by
 have m1:eU (tk c).j ⟨0,c.gen⟩=⟨0,c.gen⟩:=by unfold eU;split<;>rfl
 have m2:eU (tk c).f ⟨0,c.gen⟩=⟨0,c.gen⟩:=by unfold eU;split<;>rfl
 unfold dw;rw[m1,m2];split
 ·rfl
 ·rw[afA (show (⟨0,c.gen⟩:Cp)=(tk c).f from rfl)];simp only[W4];rfl
theorem Wc(c:cI):tickB (tk c)=tk c:=by
 unfold tickB;rw[Vj,YK];split<;>rfl
theorem yD(c:cI):dF (eG c)=(tk c,0):=by
 unfold dF;rw[afx (show ¬ (1099511627776:Int)<=(eG c).now from by show ¬ (1099511627776:Int)<=0;decide),Se,Wc];rfl
end Go.Proofs.YtmpddimhleianaaGreat
