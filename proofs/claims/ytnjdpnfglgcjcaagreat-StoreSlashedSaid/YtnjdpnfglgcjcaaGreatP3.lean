/-
 My texts Sd, joined.
-/
import Derived.Test.YtnjdpnfglgcjcaaGreatP2
import Derived.Test.YtnjdpnfglgcjcaaGreatV7
set_option linter.unusedVariables false
set_option linter.unusedSimpArgs false
set_option maxRecDepth 8000
set_option maxHeartbeats 4000000
namespace Go.Proofs.YtnjdpnfglgcjcaaGreat
open Go Go.FH Go.RowKit
structure rW(s:am):Prop where
 a1:(nod s.nodes 0).blk.root=s.f.rt
 a2:0<=aj s.nodes s.j.rt
 a3:(nod s.nodes (aj s.nodes s.j.rt).toNat).status≠2
 a4:s.f.ep<=s.j.ep
 a5:0<=cS s.tabs s.j
 a6:frE (kI s) (s.tabs.length-0) 0=0
 a7:(decide (s.latest.length=s.cfg.bals.length)&&(!(cE (fun i=>!(vot s.latest i).has&&decide (vot s.latest i≠fg)) s.latest.length).isSome&&(decide (s.eqv.length=0) || decide (dr s.eqv s.cfg.bals.length=0))))=true
 a8:s.boost=rt0\/0<=aj s.nodes s.boost
 a9:s.now<=1099511627776
 a10:s.j.ep<=bY s s.now
 a11:jz s 0 s.f.ep=true
 a12:(cE (fun i=>decide (s.now<(nod s.nodes i).blk.slot) || !lX s (nod s.nodes i).blk) s.nodes.length).isSome=false
 a13:CY s=true
theorem Yc(p:Nat->Bool):∀n,orN p n=true↔∃k,k<n/\p k=true
 |0=>⟨fun h=>(by cases h),fun ⟨k,hk,_⟩=>absurd hk (Nat.not_lt_zero k)⟩
 | n + 1 => by
   show (orN p n || p n)=true↔_
   rw[Bool.or_eq_true,Yc p n];constructor
   ·rintro (⟨k,h1,h2⟩|h)
    ·exact⟨k,by omega,h2⟩
    ·exact⟨n,by omega,h⟩
   ·rintro⟨k,h1,h2⟩;by_cases hk:k=n
    ·subst hk;exact .inr h2
    ·exact .inl ⟨k,by omega,h2⟩
theorem EQ(l:List aH)(c:Cp):0<=cS l c↔orN (fun i=>decide ((tab l i).cp=c)) l.length=true:=by
 rw[Yc];unfold cS;cases h:cE (fun i=>decide ((tab l i).cp=c)) l.length with
 | none =>
   rw[jO];exact⟨fun h=>absurd h (by decide),fun ⟨k,h1,h2⟩=>by rw[gI h k h1]at h2;cases h2⟩
 | some k =>
   obtain⟨h1,h2,_⟩:=dY h;rw[gc];exact⟨fun _=>⟨k,h1,h2⟩,fun _=>by omega⟩
theorem NQ{s:am}(h1:1<=s.cfg.spe)(h2:s.cfg.spe<=64)(n:Int):(fC n s.cfg.spe).1=bY s n:=by
 unfold fC mO;rw[ak h1,ak h2];rfl
theorem Fx{c:cU}(h:iH c=0):1<=c.spe/\c.spe<=64:=by
 unfold iH at h;by_cases h1:c.spe<1
 ·rw[if_pos h1]at h;cases h
 ·rw[if_neg h1]at h;by_cases h2:64<c.spe
  ·rw[if_pos h2]at h;cases h
  ·exact⟨by omega,by omega⟩
theorem abL{s:am}(h1:1<=s.cfg.spe)(h2:s.cfg.spe<=64)(b:Blk):tH s b=lX s b:=by
 unfold tH lX;rw[NQ h1 h2]
theorem Za{s:am}(hn:iH s.cfg=0)(hs:statV s.nodes=0)(z1:¬s.cfg.lim.node<s.nodes.length)(z2:¬s.cfg.lim.orph<s.orph.length)(z3:¬s.cfg.lim.early<s.early.length)(z4:¬s.cfg.lim.table<s.tabs.length)(hf:U64 s.f.ep)(hw:U64 s.now):(rW s->rS s=0)/\(¬rW s->rS s=2):=by
 obtain⟨p1,p2⟩:=Fx hn
 have key:rS s=if CT s=false then 2 else if (decide (frE (kI s) (s.tabs.length-0) 0=0)&&orN (fun i=>decide ((tab s.tabs i).cp=s.j)) s.tabs.length)=false then 2
  else if pB s=false then 2 else if pv s=false then 2 else if CY s=false then 2 else 0:=by
  unfold rS;rw[if_neg (fun h=>h hn),if_neg (fun h=>h hs),if_neg z1,if_neg z2,if_neg z3,if_neg z4]
 have hv:pB s=(decide (s.latest.length=s.cfg.bals.length)&&(!(cE (fun i=>!(vot s.latest i).has&&decide (vot s.latest i≠fg)) s.latest.length).isSome&&(decide (s.eqv.length=0) || decide (dr s.eqv s.cfg.bals.length=0)))):=by
  unfold pB
  have e1:decide ((s.latest.length:Int)=(s.cfg.bals.length:Int))=decide (s.latest.length=s.cfg.bals.length):=by
   by_cases q:s.latest.length=s.cfg.bals.length
   ·rw[ak q,ak (by omega)]
   ·rw[au q,au (by omega)]
  have e2:decide ((s.eqv.length:Int)=0)=decide (s.eqv.length=0):=by
   by_cases q:s.eqv.length=0
   ·rw[ak q,ak (by omega)]
   ·rw[au q,au (by omega)]
  rw[e1,e2,Bool.and_left_comm]
 have hnd:pv s=!(cE (fun i=>decide (s.now<(nod s.nodes i).blk.slot) || !lX s (nod s.nodes i).blk) s.nodes.length).isSome:=by
  have he:(fun i=>decide (s.now<(nod s.nodes i).blk.slot) || !tH s (nod s.nodes i).blk)=(fun i=>decide (s.now<(nod s.nodes i).blk.slot) || !lX s (nod s.nodes i).blk):=funext fun i=>by rw[abL p1 p2]
  unfold pv;rw[he]
 have hfin:CT s=true↔((nod s.nodes 0).blk.root=s.f.rt/\0<=aj s.nodes s.j.rt/\(nod s.nodes (aj s.nodes s.j.rt).toNat).status≠2/\s.f.ep<=s.j.ep)/\((s.boost=rt0\/0<=aj s.nodes s.boost)/\s.now<=1099511627776/\s.j.ep<=bY s s.now)/\(bD s.f.ep s.cfg.spe).2=0/\(nod s.nodes 0).blk.slot<=(bD s.f.ep s.cfg.spe).1:=by
  unfold CT;rw[NQ p1 p2];simp only[Bool.and_eq_true,Bool.or_eq_true,decide_eq_true_eq];exact⟨fun ⟨⟨a,b⟩,c⟩=>⟨a,b,c⟩,fun ⟨a,b,c⟩=>⟨⟨a,b⟩,c⟩⟩
 have hea:jz s 0 s.f.ep=true↔((bD s.f.ep s.cfg.spe).2≠0\/(nod s.nodes 0).blk.slot<=(bD s.f.ep s.cfg.spe).1):=by
  unfold jz cR;by_cases q:(bD s.f.ep s.cfg.spe).2=0
  ·simp[q]
  ·simp[q]
 constructor
 ·intro h;have hst:(bD s.f.ep s.cfg.spe).2=0:=tU hf.lo p1 p2 hw.lo hw.hi (Int.le_trans h.a4 h.a10);have hF:CT s=true:=hfin.2 ⟨⟨h.a1,h.a2,h.a3,h.a4⟩,⟨h.a8,h.a9,h.a10⟩,hst,(hea.1 h.a11).resolve_left (fun hh=>hh hst)⟩;have hT:=(EQ s.tabs s.j).1 h.a5;rw[key,hF,if_neg (by decide),hT,ak h.a6,hv,h.a7,hnd,h.a12,h.a13];rfl
 ·intro h;rw[key];by_cases q1:CT s=false
  ·rw[if_pos q1]
  rw[if_neg q1];by_cases q2:(decide (frE (kI s) (s.tabs.length-0) 0=0)&&orN (fun i=>decide ((tab s.tabs i).cp=s.j)) s.tabs.length)=false
  ·rw[if_pos q2]
  rw[if_neg q2];by_cases q3:pB s=false
  ·rw[if_pos q3]
  rw[if_neg q3];by_cases q4:pv s=false
  ·rw[if_pos q4]
  rw[if_neg q4];by_cases q5:CY s=false
  ·rw[if_pos q5]
  exfalso
  simp only[Bool.not_eq_false]at q1 q2 q3 q4 q5;obtain⟨⟨b1,b2,b3,b4⟩,⟨b5,b6,b7⟩,b8,b9⟩:=hfin.1 q1;rw[Bool.and_eq_true,decide_eq_true_eq]at q2;rw[hnd]at q4;exact h ⟨b1,b2,b3,b4,(EQ _ _).2 q2.2,q2.1,hv▸q3,b5,b6,b7,hea.2 (.inr b9),by simpa using q4,q5⟩
theorem abI(c:cU):(y9 c).2=iH c:=by
 unfold y9;split
 ·rename_i h;exact h.symm
 ·rfl
theorem VK(s:am)(h:abl s)(hnw:U64 s.now):PC Tryz.prog 38 [.agg (aw s.a)] (.int .i64 (rS s)):=by
 refine PC.fact 8 zX (by simp) puA puA ?_;unfold pP;refine bd ?_;obtain⟨R,hR⟩:∃R,R=rS s:=⟨_,rfl⟩
 rw[<-hR];have c1:=OI s.cfg h.bc;have c2:=Mh s.nodes h.bn;have c3:=cm s.nodes s.j.rt h.bn;have c4:=mQ s.tabs s.j h.bt;have c5:=qp s;have c6:=Pf s.latest s.eqv s.cfg.bals.length h.bl h.be;have c7:=cm s.nodes s.boost h.bn;have c11:=Pg s h.bn h.ba h.bo h.bv;have n2:=abI s.cfg;unfold nA at c3 c7;generalize y9 s.cfg=NS at *;obtain⟨NS1,NS2⟩:=NS;dsimp only at c1 n2;refine gon ?_;refine ai c1 ?_;by_cases q1:iH s.cfg=0
 case neg=>
  have k1:(NS2 != 0)=true:=by simp[n2,q1]
  have:R=NS2:=by rw[hR,n2];unfold rS;rw[if_pos q1]
  subst this;refine aE k1 ?_;exact af
 have k1:(NS2 != 0)=false:=by simp[n2,q1]
 refine aD k1 ?_;refine ai c2 ?_;by_cases q2:statV s.nodes=0
 case neg=>
  have:R=statV s.nodes:=by rw[hR];unfold rS;rw[if_neg (fun hh=>hh q1),if_pos q2]
  subst this;generalize statV s.nodes=V at *;have k2:(V != 0)=true:=by simp[q2]
  refine aE k2 ?_;exact af
 have ht:dc s.nodes:=by
  have:=q2;unfold statV at this;split at this
  ·rename_i h4;exact absurd this h4
  ·rename_i h4;exact(zy (by simpa using h4)).1
 have hpos:=ht.pos;have k2:(statV s.nodes != 0)=false:=by simp[q2]
 generalize hSV:statV s.nodes=V at *;refine aQ k2 ?_;clear k1 k2;by_cases z1:s.cfg.lim.node<s.nodes.length
 ·have k:decide ((s.nodes.length:Int) > s.cfg.lim.node)=true:=ak z1;have k':decide (s.cfg.lim.node<(s.nodes.length:Int))=true:=ak z1;have:R=11:=by rw[hR];unfold rS;rw[if_neg (fun hh=>hh q1),hSV,if_neg (fun hh=>hh q2),if_pos z1]
  subst this;refine cn k k' ?_;exact af
 have m1:decide ((s.nodes.length:Int) > s.cfg.lim.node)=false:=au z1;have m1':decide (s.cfg.lim.node<(s.nodes.length:Int))=false:=au z1;by_cases z2:s.cfg.lim.orph<s.orph.length
 ·have k:decide ((s.orph.length:Int) > s.cfg.lim.orph)=true:=ak z2;have k':decide (s.cfg.lim.orph<(s.orph.length:Int))=true:=ak z2;have:R=11:=by rw[hR];unfold rS;rw[if_neg (fun hh=>hh q1),hSV,if_neg (fun hh=>hh q2),if_neg z1,if_pos z2]
  subst this;refine qM k k' m1 m1' ?_;exact af
 have m2:decide ((s.orph.length:Int) > s.cfg.lim.orph)=false:=au z2;have m2':decide (s.cfg.lim.orph<(s.orph.length:Int))=false:=au z2;by_cases z3:s.cfg.lim.early<s.early.length
 ·have k:decide ((s.early.length:Int) > s.cfg.lim.early)=true:=ak z3;have k':decide (s.cfg.lim.early<(s.early.length:Int))=true:=ak z3;have:R=11:=by rw[hR];unfold rS;rw[if_neg (fun hh=>hh q1),hSV,if_neg (fun hh=>hh q2),if_neg z1,if_neg z2,if_pos z3]
  subst this;refine eI k k' m1 m1' m2 m2' ?_;refine abX ?_;exact af
 have m3:decide ((s.early.length:Int) > s.cfg.lim.early)=false:=au z3;have m3':decide (s.cfg.lim.early<(s.early.length:Int))=false:=au z3;by_cases z4:s.cfg.lim.table<s.tabs.length
 ·have k:decide ((s.tabs.length:Int) > s.cfg.lim.table)=true:=ak z4;have k':decide (s.cfg.lim.table<(s.tabs.length:Int))=true:=ak z4;have:R=11:=by rw[hR];unfold rS;rw[if_neg (fun hh=>hh q1),hSV,if_neg (fun hh=>hh q2),if_neg z1,if_neg z2,if_neg z3,if_pos z4]
  subst this;refine th k k' m1 m1' m2 m2' m3 m3' ?_;refine abX ?_;exact af
 have m4:decide ((s.tabs.length:Int) > s.cfg.lim.table)=false:=au z4;have m4':decide (s.cfg.lim.table<(s.tabs.length:Int))=false:=au z4;refine th m1 m1' m2 m2' m3 m3' m4 m4' ?_;refine aB ?_;clear m1 m1' m2 m2' m3 m3' m4 m4';obtain⟨r0,r2⟩:=Za q1 (hSV.trans q2) z1 z2 z3 z4 h.uf hnw;rw[<-hR]at r0 r2;clear hR q2 hSV;obtain⟨p1,p2⟩:=Fx q1;have c8:=fV s s.now (by omega);have c9:=wz s 0 s.f.ep (by decide) (by omega);have c10:=Pd s h.bn (by omega);refine gon ?_;refine ai c3 ?_;have hg0:(rows aP s.nodes).getD 0 []=aP (nod s.nodes 0):=aM (f:=aP) jm hpos;have hgJ:0<=aj s.nodes s.j.rt->(rows aP s.nodes).getD (aj s.nodes s.j.rt).toNat []=aP (nod s.nodes (aj s.nodes s.j.rt).toNat):=fun hh=>aM (f:=aP) jm (dU hh).1
 have hJl:0<=aj s.nodes s.j.rt->aj s.nodes s.j.rt<((s.nodes.length:Nat):Int):=fun hh=>by have:=(dU hh).1;omega
 have hp0:(0:Int)<((s.nodes.length:Nat):Int):=by omega
 have b1:=fun(c:rW s)=>c.a1
 have b2:=fun(c:rW s)=>c.a2
 have b3:=fun(c:rW s)=>c.a3
 have b4:=fun(c:rW s)=>c.a4
 have b5:=fun(c:rW s)=>c.a5
 have b6:=fun(c:rW s)=>c.a6
 have b7:=fun(c:rW s)=>c.a7
 have b8:=fun(c:rW s)=>c.a8
 have b9:=fun(c:rW s)=>c.a9
 have b10:=fun(c:rW s)=>c.a10
 have b11:=fun(c:rW s)=>c.a11
 have b12:=fun(c:rW s)=>c.a12
 have b13:=fun(c:rW s)=>c.a13
 have bb:=fun x1 x2 x3 x4 x5 x6 x7 x8 x9 x10 x11 x12 x13=>r0 (⟨x1,x2,x3,x4,x5,x6,x7,x8,x9,x10,x11,x12,x13⟩:rW s)
 clear r0;generalize nod s.nodes 0=N0 at *;generalize hJ:aj s.nodes s.j.rt=J at *;generalize nod s.nodes J.toNat=NJ at *;generalize cS s.tabs s.j=FT at *;generalize aj s.nodes s.boost=FB at *;generalize CY s=QV at *;generalize jz s 0 s.f.ep=ES at *;generalize (cE (fun i=>decide (s.now<(nod s.nodes i).blk.slot) || !lX s (nod s.nodes i).blk) s.nodes.length).isSome=NV at *;generalize (decide (s.latest.length=s.cfg.bals.length)&&(!(cE (fun i=>!(vot s.latest i).has&&decide (vot s.latest i≠fg)) s.latest.length).isSome&&(decide (s.eqv.length=0) || decide (dr s.eqv s.cfg.bals.length=0))))=VV at *;generalize bY s s.now=EN at *;by_cases q1:N0.blk.root=s.f.rt
 case neg=>
  obtain rfl:=r2 (fun c=>q1 (b1 c));repeat(first|refine bU ?_|simp only[go_sem,hg0,hp0,au q1])
  refine abX ?_;exact af
 by_cases q2:0<=J
 case neg=>
  obtain rfl:=r2 (fun c=>q2 (b2 c));have k2:decide (J<0)=true:=ak (by omega);repeat(first|refine bU ?_|simp only[go_sem,hg0,hp0,ak q1,k2])
  refine abX ?_;exact af
 have k2:decide (J<0)=false:=au (by omega);have hgJ:=hgJ q2;have hJl:=hJl q2;by_cases q3:NJ.status=2
 ·obtain rfl:=r2 (fun c=>b3 c q3);have k3:(NJ.status==2)=true:=by simp[q3]
  repeat(first|refine bU ?_|simp only[go_sem,hg0,hp0,ak q1,k2,hgJ,hJl,q2,k3])
  refine abX ?_;exact af
 have k3:(NJ.status==2)=false:=by simp[q3]
 by_cases q4:s.f.ep<=s.j.ep
 case neg=>
  obtain rfl:=r2 (fun c=>q4 (b4 c));have k4:decide (s.j.ep<s.f.ep)=true:=ak (by omega);repeat(first|refine bU ?_|simp only[go_sem,hg0,hp0,ak q1,k2,hgJ,hJl,q2,k3,k4])
  refine abX ?_;exact af
 have k4:decide (s.j.ep<s.f.ep)=false:=au (by omega);repeat(first|refine bU ?_|simp only[go_sem,hg0,hp0,ak q1,k2,hgJ,hJl,q2,k3,k4])
 refine aC (c4) ?_;by_cases q5:0<=FT
 case neg=>
  obtain rfl:=r2 (fun c=>q5 (b5 c));have k5:decide (FT<0)=true:=ak (by omega);refine aE k5 ?_;exact af
 have k5:decide (FT<0)=false:=au (by omega);refine aD k5 ?_;clear k2 k3 k4 k5 hg0 hp0 hgJ hJl c4 c3 c1 c2;obtain⟨F,hF⟩:∃F,F=frE (kI s) (s.tabs.length-0) 0:=⟨_,rfl⟩
 rw[<-hF]at b6 bb;refine ay (fun i:Nat=>[(7,.int .i64 i)]) (fun i=>[.var (aw s.a),.var (aw NS1.a)]) (fun i=>s.tabs.length-i) (fun i=>i<=s.tabs.length/\F=frE (kI s) (s.tabs.length-i) i) 0 ⟨Nat.zero_le _,hF⟩ ?_ ?_
 ·exact adk [] [0,1]
 clear hF;have hbt:=h.bt;rintro i ⟨hi,hn⟩;refine dM ?_;by_cases h1:i<s.tabs.length
 ·have e1:=inT h1
  have hw:=ah h1 (by omega);have hgd:(rows aH.c s.tabs).getD i []=bE (tab s.tabs i).a:=aM (f:=aH.c) default h1;have hm:tab s.tabs i∈s.tabs:=cG default h1;have hgp:(rows aH.c s.tabs).getD (i-1) []=bE (tab s.tabs (i-1)).a:=aM (f:=aH.c) default (by omega);have d1:=IK (tab s.tabs (i-1)).cp (tab s.tabs i).cp;have d2:=uB (tab s.tabs i) s.cfg.bals.length (h.bb _ hm);have hf0:∀ {v:Int},kI s i=v->v≠0->F≠0:=fun h0 h2=>by rw[hn,vV h1 (by rw[h0];exact h2),h0];exact h2
  have hf:kI s i=0->F=frE (kI s) (s.tabs.length-(i+1)) (i+1):=fun h0=>by rw[hn,vU h1 h0]
  clear hn bb b7 b8 b9 b10 b11 b12 b13 c6 c7 c8 c9 c10 c11;obtain⟨G,hG⟩:∃G,G=frE (kI s) (s.tabs.length-(i+1)) (i+1):=⟨_,rfl⟩
  rw[<-hG]at hf;unfold kI at hf0 hf;generalize tab s.tabs (i-1)=y at *;generalize tab s.tabs i=x at *;generalize fJ x s.cfg.bals.length=V at *;generalize gh y.cp x.cp=C at *;refine bg e1 ?_;refine ap hgd ?_;refine aC (c5) ?_;refine ap hgd ?_;refine aC (d2) ?_;by_cases q6:V=0
  case neg=>
   have k6:(V != 0)=true:=by simp[q6]
   have:=hf0 (v:=1) (by(repeat' split)<;>first|rfl|contradiction) (by decide);obtain rfl:=r2 (fun c=>this (b6 c));refine aE k6 ?_;exact af
  have k6:(V != 0)=false:=by simp[q6]
  by_cases qi:i=0
  ·have ki:decide ((i:Int) > 0)=false:=au (by omega);have ki':decide ((0:Int)<(i:Int))=false:=au (by omega);refine vW k6 ki ki' ?_;refine ap hw ?_;refine⟨i+1,⟨h1,(hf (by rw[if_neg (fun h=>by omega),if_neg (fun h=>h q6)])).trans hG⟩,by omega,?_⟩;exact adk [] [0,1]
  ·have ki:decide ((i:Int) > 0)=true:=ak (by omega)
   have ki':decide ((0:Int)<(i:Int))=true:=ak (by omega);have hw1:IntKind.i64.wrap ((i:Int)-1)=((i-1:Nat):Int):=by rw[aK (by omega) (by omega)];omega
   have hix:((i-1:Nat):Int)<((s.tabs.length:Nat):Int):=by omega
   have hix2:i-1<s.tabs.length:=by omega
   refine th k6 ki ki' hw1 hgd hgp hix hix2 ?_;refine aC (d1) ?_;by_cases q7:0<=C
   ·have k7:decide (C ≥ 0)=true:=ak q7;have k7':decide (0<=C)=true:=ak q7;have:=hf0 (v:=1) (if_pos ⟨by omega,q7⟩) (by decide);obtain rfl:=r2 (fun c=>this (b6 c));refine cn k7 k7' ?_;exact af
   ·have k7:decide (C ≥ 0)=false:=au q7;have k7':decide (0<=C)=false:=au q7;refine dD k7 k7' ?_;refine ap hw ?_;refine⟨i+1,⟨h1,(hf (by rw[if_neg (fun h=>q7 h.2),if_neg (fun h=>h q6)])).trans hG⟩,by omega,?_⟩;exact adk [] [0,1]
 ·obtain rfl:i=s.tabs.length:=by omega
  have e1:=inF (s.tabs.length);rw[vT]at hn;subst hn;refine aD e1 ?_;refine aC (c5) ?_;refine gon ?_;refine aC (c6) ?_;cases VV with
  | false =>
    obtain rfl:=r2 (fun c=>by have:=b7 c;cases this);refine aV ?_;exact af
  |true=>
  refine gon ?_;by_cases q8:s.boost=rt0
  case neg=>
   repeat(first|refine bU ?_|simp only[go_sem,au q8])
   refine aC (c7) ?_;by_cases q9:0<=FB
   case neg=>
    have k9:decide (FB<0)=true:=ak (by omega);obtain rfl:=r2 (fun c=>(b8 c).elim q8 q9);refine aE k9 ?_;exact af
   have k9:decide (FB<0)=false:=au (by omega);by_cases q10:s.now<=1099511627776
   case neg=>
    have k10:decide (s.now > 1099511627776)=true:=ak (by omega);have k10':decide ((1099511627776:Int)<s.now)=true:=ak (by omega);obtain rfl:=r2 (fun c=>q10 (b9 c));refine fK k9 k10 k10' ?_;exact af
   have k10:decide (s.now > 1099511627776)=false:=au (by omega);have k10':decide ((1099511627776:Int)<s.now)=false:=au (by omega);refine xt k9 k10 k10' ?_;refine aC (c8) ?_;by_cases q11:s.j.ep<=EN
   case neg=>
    have k11:decide (s.j.ep > EN)=true:=ak (by omega);have k11':decide (EN<s.j.ep)=true:=ak (by omega);obtain rfl:=r2 (fun c=>q11 (b10 c));refine cn k11 k11' ?_;exact af
   have k11:decide (s.j.ep > EN)=false:=au (by omega);have k11':decide (EN<s.j.ep)=false:=au (by omega);refine aO k11 k11' ?_;refine aC (c9) ?_;cases ES with
   | false =>
     obtain rfl:=r2 (fun c=>by have:=b11 c;cases this);refine aV ?_;exact af
   |true=>
   refine gon ?_;refine aC (c10) ?_;cases NV with
   | true =>
     obtain rfl:=r2 (fun c=>by have:=b12 c;cases this);refine aV ?_;exact af
   |false=>
   refine gon ?_;refine aC (c11) ?_;cases QV with
   | false =>
     obtain rfl:=r2 (fun c=>by have:=b13 c;cases this);refine aV ?_;exact af
   | true =>
     obtain rfl:=bb q1 q2 q3 q4 q5 rfl rfl (.inr q9) q10 q11 rfl rfl rfl;refine bh ?_;exact af
  by_cases q10:s.now<=1099511627776
  case neg=>
   have k10:decide (s.now > 1099511627776)=true:=ak (by omega);have k10':decide ((1099511627776:Int)<s.now)=true:=ak (by omega);obtain rfl:=r2 (fun c=>q10 (b9 c));repeat(first|refine bU ?_|simp only[go_sem,ak q8,k10,k10'])
   refine abX ?_;exact af
  have k10:decide (s.now > 1099511627776)=false:=au (by omega);have k10':decide ((1099511627776:Int)<s.now)=false:=au (by omega);repeat(first|refine bU ?_|simp only[go_sem,ak q8,k10,k10'])
  refine abW ?_;refine aC (c8) ?_;by_cases q11:s.j.ep<=EN
  case neg=>
   have k11:decide (s.j.ep > EN)=true:=ak (by omega);have k11':decide (EN<s.j.ep)=true:=ak (by omega);obtain rfl:=r2 (fun c=>q11 (b10 c));refine cn k11 k11' ?_;exact af
  have k11:decide (s.j.ep > EN)=false:=au (by omega);have k11':decide (EN<s.j.ep)=false:=au (by omega);refine aO k11 k11' ?_;refine aC (c9) ?_;cases ES with
  | false =>
    obtain rfl:=r2 (fun c=>by have:=b11 c;cases this);refine aV ?_;exact af
  |true=>
  refine gon ?_;refine aC (c10) ?_;cases NV with
  | true =>
    obtain rfl:=r2 (fun c=>by have:=b12 c;cases this);refine aV ?_;exact af
  |false=>
  refine gon ?_;refine aC (c11) ?_;cases QV with
  | false =>
    obtain rfl:=r2 (fun c=>by have:=b13 c;cases this);refine aV ?_;exact af
  | true =>
    obtain rfl:=bb q1 q2 q3 q4 q5 rfl rfl (.inl q8) q10 q11 rfl rfl rfl;refine bh ?_;exact af
end Go.Proofs.YtnjdpnfglgcjcaaGreat
