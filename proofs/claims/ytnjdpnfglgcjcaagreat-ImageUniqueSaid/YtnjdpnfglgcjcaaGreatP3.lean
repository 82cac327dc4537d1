/- Joined. -/
import Derived.Test.YtnjdpnfglgcjcaaGreatP2
import Derived.Test.YtnjdpnfglgcjcaaGreatV7
set_option linter.unusedVariables false
set_option linter.unusedSimpArgs false
set_option maxRecDepth 8000
set_option maxHeartbeats 4000000
namespace Go.Proofs.YtnjdpnfglgcjcaaGreat
open Go Go.FH Go.RowKit
structure uK(s:ap):Prop where
 a1:(nod s.nodes 0).blk.root=s.f.rt
 a2:0<=aj s.nodes s.j.rt
 a3:(nod s.nodes (aj s.nodes s.j.rt).toNat).status≠2
 a4:s.f.ep<=s.j.ep
 a5:0<=dJ s.tabs s.j
 a6:frE (pR s) (s.tabs.length-0) 0=0
 a7:(decide (s.latest.length=s.cfg.bals.length)&&(!(dW (fun i=>!(vot s.latest i).has&&decide (vot s.latest i≠dL)) s.latest.length).isSome&&(decide (s.eqv.length=0) || decide (cE s.eqv s.cfg.bals.length=0))))=true
 a8:s.boost=rt0\/0<=aj s.nodes s.boost
 a9:s.now<=1099511627776
 a10:s.j.ep<=dg s s.now
 a11:jA s 0 s.f.ep=true
 a12:(dW (fun i=>decide (s.now<(nod s.nodes i).blk.slot) || !pY s (nod s.nodes i).blk) s.nodes.length).isSome=false
 a13:zV s=true
theorem abX(p:Nat->Bool):∀n,orN p n=true↔∃k,k<n/\p k=true
 |0=>⟨fun h=>(by cases h),fun ⟨k,hk,_⟩=>absurd hk (aju k)⟩
 | n + 1 => by
   show (orN p n || p n)=true↔_
   rw[ajY,abX p n];constructor
   ·rintro (⟨k,h1,h2⟩|h)
    ·exact⟨k,by omega,h2⟩
    ·exact⟨n,by omega,h⟩
   ·rintro⟨k,h1,h2⟩;by_cases hk:k=n
    ·subst hk;exact .inr h2
    ·exact .inl ⟨k,by omega,h2⟩
theorem HO(l:List aW)(c:Cp):0<=dJ l c↔orN (fun i=>decide ((tab l i).cp=c)) l.length=true:=by
 rw[abX];unfold dJ;cases h:dW (fun i=>decide ((tab l i).cp=c)) l.length with
 | none =>
   rw[jP];exact⟨fun h=>absurd h (by decide),fun ⟨k,h1,h2⟩=>by rw[iL h k h1]at h2;cases h2⟩
 | some k =>
   obtain⟨h1,h2,_⟩:=fZ h;rw[Ck];exact⟨fun _=>⟨k,h1,h2⟩,fun _=>by omega⟩
theorem QX{s:ap}(h1:1<=s.cfg.spe)(h2:s.cfg.spe<=64)(n:Int):(kJ n s.cfg.spe).1=dg s n:=by
 unfold kJ vy;rw[au h1,au h2];rfl
theorem Iq{c:cU}(h:ib c=0):1<=c.spe/\c.spe<=64:=by
 unfold ib at h;by_cases h1:c.spe<1
 ·rw[al7 h1]at h;cases h
 ·rw[al5 h1]at h;by_cases h2:64<c.spe
  ·rw[al7 h2]at h;cases h
  ·exact⟨by omega,by omega⟩
theorem agq{s:ap}(h1:1<=s.cfg.spe)(h2:s.cfg.spe<=64)(b:Blk):RU s b=pY s b:=by
 unfold RU pY;rw[QX h1 h2]
theorem ac4{s:ap}(hn:ib s.cfg=0)(hs:statV s.nodes=0)(z1:¬s.cfg.lim.node<s.nodes.length)(z2:¬s.cfg.lim.orph<s.orph.length)(z3:¬s.cfg.lim.early<s.early.length)(z4:¬s.cfg.lim.table<s.tabs.length)(hf:U64 s.f.ep)(hw:U64 s.now):(uK s->oL s=0)/\(¬uK s->oL s=2):=by
 obtain⟨p1,p2⟩:=Iq hn
 have key:oL s=if KK s=false then 2 else if (decide (frE (pR s) (s.tabs.length-0) 0=0)&&orN (fun i=>decide ((tab s.tabs i).cp=s.j)) s.tabs.length)=false then 2
  else if nF s=false then 2 else if wy s=false then 2 else if zV s=false then 2 else 0:=by
  unfold oL;rw[al5 (fun h=>h hn),al5 (fun h=>h hs),al5 z1,al5 z2,al5 z3,al5 z4]
 have hv:nF s=(decide (s.latest.length=s.cfg.bals.length)&&(!(dW (fun i=>!(vot s.latest i).has&&decide (vot s.latest i≠dL)) s.latest.length).isSome&&(decide (s.eqv.length=0) || decide (cE s.eqv s.cfg.bals.length=0)))):=by
  unfold nF
  have e1:decide ((s.latest.length:Int)=(s.cfg.bals.length:Int))=decide (s.latest.length=s.cfg.bals.length):=by
   by_cases q:s.latest.length=s.cfg.bals.length
   ·rw[au q,au (by omega)]
   ·rw[aA q,aA (by omega)]
  have e2:decide ((s.eqv.length:Int)=0)=decide (s.eqv.length=0):=by
   by_cases q:s.eqv.length=0
   ·rw[au q,au (by omega)]
   ·rw[aA q,aA (by omega)]
  rw[e1,e2,Bool.and_left_comm]
 have hnd:wy s=!(dW (fun i=>decide (s.now<(nod s.nodes i).blk.slot) || !pY s (nod s.nodes i).blk) s.nodes.length).isSome:=by
  have he:(fun i=>decide (s.now<(nod s.nodes i).blk.slot) || !RU s (nod s.nodes i).blk)=(fun i=>decide (s.now<(nod s.nodes i).blk.slot) || !pY s (nod s.nodes i).blk):=funext fun i=>by rw[agq p1 p2]
  unfold wy;rw[he]
 have hfin:KK s=true↔((nod s.nodes 0).blk.root=s.f.rt/\0<=aj s.nodes s.j.rt/\(nod s.nodes (aj s.nodes s.j.rt).toNat).status≠2/\s.f.ep<=s.j.ep)/\((s.boost=rt0\/0<=aj s.nodes s.boost)/\s.now<=1099511627776/\s.j.ep<=dg s s.now)/\(dk s.f.ep s.cfg.spe).2=0/\(nod s.nodes 0).blk.slot<=(dk s.f.ep s.cfg.spe).1:=by
  unfold KK;rw[QX p1 p2];simp only[amk,ajY,amg];exact⟨fun ⟨⟨a,b⟩,c⟩=>⟨a,b,c⟩,fun ⟨a,b,c⟩=>⟨⟨a,b⟩,c⟩⟩
 have hea:jA s 0 s.f.ep=true↔((dk s.f.ep s.cfg.spe).2≠0\/(nod s.nodes 0).blk.slot<=(dk s.f.ep s.cfg.spe).1):=by
  unfold jA da;by_cases q:(dk s.f.ep s.cfg.spe).2=0
  ·simp[q]
  ·simp[q]
 constructor
 ·intro h;have hst:(dk s.f.ep s.cfg.spe).2=0:=CY hf.lo p1 p2 hw.lo hw.hi (akT h.a4 h.a10);have hF:KK s=true:=hfin.2 ⟨⟨h.a1,h.a2,h.a3,h.a4⟩,⟨h.a8,h.a9,h.a10⟩,hst,(hea.1 h.a11).resolve_left (fun hh=>hh hst)⟩;have hT:=(HO s.tabs s.j).1 h.a5;rw[key,hF,al5 (by decide),hT,au h.a6,hv,h.a7,hnd,h.a12,h.a13];rfl
 ·intro h;rw[key];by_cases q1:KK s=false
  ·rw[al7 q1]
  rw[al5 q1];by_cases q2:(decide (frE (pR s) (s.tabs.length-0) 0=0)&&orN (fun i=>decide ((tab s.tabs i).cp=s.j)) s.tabs.length)=false
  ·rw[al7 q2]
  rw[al5 q2];by_cases q3:nF s=false
  ·rw[al7 q3]
  rw[al5 q3];by_cases q4:wy s=false
  ·rw[al7 q4]
  rw[al5 q4];by_cases q5:zV s=false
  ·rw[al7 q5]
  exfalso
  simp only[akc]at q1 q2 q3 q4 q5;obtain⟨⟨b1,b2,b3,b4⟩,⟨b5,b6,b7⟩,b8,b9⟩:=hfin.1 q1;rw[amk,amg]at q2;rw[hnd]at q4;exact h ⟨b1,b2,b3,b4,(HO _ _).2 q2.2,q2.1,hv▸q3,b5,b6,b7,hea.2 (.inr b9),by simpa using q4,q5⟩
theorem agn(c:cU):(O0 c).2=ib c:=by
 unfold O0;split
 ·rename_i h;exact h.symm
 ·rfl
theorem Zy(s:ap)(h:Qw s)(hnw:U64 s.now):PC Tryz.prog 38 [.agg (aE s.a)] (.int .i64 (oL s)):=by
 refine PC.fact 8 DG (by simp) puA puA ?_;unfold rB;refine bd ?_;obtain⟨R,hR⟩:∃R,R=oL s:=⟨_,rfl⟩
 rw[<-hR];have c1:=RL s.cfg h.bc;have c2:=Pf s.nodes h.bn;have c3:=cC s.nodes s.j.rt h.bn;have c4:=ow s.tabs s.j h.bt;have c5:=sq s;have c6:=SC s.latest s.eqv s.cfg.bals.length h.bl h.be;have c7:=cC s.nodes s.boost h.bn;have c11:=SD s h.bn h.ba h.bo h.bv;have n2:=agn s.cfg;unfold nA at c3 c7;generalize O0 s.cfg=NS at *;obtain⟨NS1,NS2⟩:=NS;dsimp only at c1 n2;refine gon ?_;refine am c1 ?_;by_cases q1:ib s.cfg=0
 case neg=>
  have k1:(NS2 != 0)=true:=by simp[n2,q1]
  have:R=NS2:=by rw[hR,n2];unfold oL;rw[al7 q1]
  subst this;refine aM k1 ?_;exact ai
 have k1:(NS2 != 0)=false:=by simp[n2,q1]
 refine aF k1 ?_;refine am c2 ?_;by_cases q2:statV s.nodes=0
 case neg=>
  have:R=statV s.nodes:=by rw[hR];unfold oL;rw[al5 (fun hh=>hh q1),al7 q2]
  subst this;generalize statV s.nodes=V at *;have k2:(V != 0)=true:=by simp[q2]
  refine aM k2 ?_;exact ai
 have ht:dU s.nodes:=by
  have:=q2;unfold statV at this;split at this
  ·rename_i h4;exact absurd this h4
  ·rename_i h4;exact(xu (by simpa using h4)).1
 have hpos:=ht.pos;have k2:(statV s.nodes != 0)=false:=by simp[q2]
 generalize hSV:statV s.nodes=V at *;refine bJ k2 ?_;clear k1 k2;by_cases z1:s.cfg.lim.node<s.nodes.length
 ·have k:decide ((s.nodes.length:Int) > s.cfg.lim.node)=true:=au z1;have k':decide (s.cfg.lim.node<(s.nodes.length:Int))=true:=au z1;have:R=11:=by rw[hR];unfold oL;rw[al5 (fun hh=>hh q1),hSV,al5 (fun hh=>hh q2),al7 z1]
  subst this;refine cH k k' ?_;exact ai
 have m1:decide ((s.nodes.length:Int) > s.cfg.lim.node)=false:=aA z1;have m1':decide (s.cfg.lim.node<(s.nodes.length:Int))=false:=aA z1;by_cases z2:s.cfg.lim.orph<s.orph.length
 ·have k:decide ((s.orph.length:Int) > s.cfg.lim.orph)=true:=au z2;have k':decide (s.cfg.lim.orph<(s.orph.length:Int))=true:=au z2;have:R=11:=by rw[hR];unfold oL;rw[al5 (fun hh=>hh q1),hSV,al5 (fun hh=>hh q2),al5 z1,al7 z2]
  subst this;refine nC k k' m1 m1' ?_;exact ai
 have m2:decide ((s.orph.length:Int) > s.cfg.lim.orph)=false:=aA z2;have m2':decide (s.cfg.lim.orph<(s.orph.length:Int))=false:=aA z2;by_cases z3:s.cfg.lim.early<s.early.length
 ·have k:decide ((s.early.length:Int) > s.cfg.lim.early)=true:=au z3;have k':decide (s.cfg.lim.early<(s.early.length:Int))=true:=au z3;have:R=11:=by rw[hR];unfold oL;rw[al5 (fun hh=>hh q1),hSV,al5 (fun hh=>hh q2),al5 z1,al5 z2,al7 z3]
  subst this;refine eV k k' m1 m1' m2 m2' ?_;refine agF ?_;exact ai
 have m3:decide ((s.early.length:Int) > s.cfg.lim.early)=false:=aA z3;have m3':decide (s.cfg.lim.early<(s.early.length:Int))=false:=aA z3;by_cases z4:s.cfg.lim.table<s.tabs.length
 ·have k:decide ((s.tabs.length:Int) > s.cfg.lim.table)=true:=au z4;have k':decide (s.cfg.lim.table<(s.tabs.length:Int))=true:=au z4;have:R=11:=by rw[hR];unfold oL;rw[al5 (fun hh=>hh q1),hSV,al5 (fun hh=>hh q2),al5 z1,al5 z2,al5 z3,al7 z4]
  subst this;refine mP k k' m1 m1' m2 m2' m3 m3' ?_;refine agF ?_;exact ai
 have m4:decide ((s.tabs.length:Int) > s.cfg.lim.table)=false:=aA z4;have m4':decide (s.cfg.lim.table<(s.tabs.length:Int))=false:=aA z4;refine mP m1 m1' m2 m2' m3 m3' m4 m4' ?_;refine aB ?_;clear m1 m1' m2 m2' m3 m3' m4 m4';obtain⟨r0,r2⟩:=ac4 q1 (hSV.trans q2) z1 z2 z3 z4 h.uf hnw;rw[<-hR]at r0 r2;clear hR q2 hSV;obtain⟨p1,p2⟩:=Iq q1;have c8:=fT s s.now (by omega);have c9:=zE s 0 s.f.ep (by decide) (by omega);have c10:=Sx s h.bn (by omega);refine gon ?_;refine am c3 ?_;have hg0:(rows bB s.nodes).getD 0 []=bB (nod s.nodes 0):=aS (f:=bB) gr hpos;have hgJ:0<=aj s.nodes s.j.rt->(rows bB s.nodes).getD (aj s.nodes s.j.rt).toNat []=bB (nod s.nodes (aj s.nodes s.j.rt).toNat):=fun hh=>aS (f:=bB) gr (dO hh).1
 have hJl:0<=aj s.nodes s.j.rt->aj s.nodes s.j.rt<((s.nodes.length:Nat):Int):=fun hh=>by have:=(dO hh).1;omega
 have hp0:(0:Int)<((s.nodes.length:Nat):Int):=by omega
 have b1:=fun(c:uK s)=>c.a1
 have b2:=fun(c:uK s)=>c.a2
 have b3:=fun(c:uK s)=>c.a3
 have b4:=fun(c:uK s)=>c.a4
 have b5:=fun(c:uK s)=>c.a5
 have b6:=fun(c:uK s)=>c.a6
 have b7:=fun(c:uK s)=>c.a7
 have b8:=fun(c:uK s)=>c.a8
 have b9:=fun(c:uK s)=>c.a9
 have b10:=fun(c:uK s)=>c.a10
 have b11:=fun(c:uK s)=>c.a11
 have b12:=fun(c:uK s)=>c.a12
 have b13:=fun(c:uK s)=>c.a13
 have bb:=fun x1 x2 x3 x4 x5 x6 x7 x8 x9 x10 x11 x12 x13=>r0 (⟨x1,x2,x3,x4,x5,x6,x7,x8,x9,x10,x11,x12,x13⟩:uK s)
 clear r0;generalize nod s.nodes 0=N0 at *;generalize hJ:aj s.nodes s.j.rt=J at *;generalize nod s.nodes J.toNat=NJ at *;generalize dJ s.tabs s.j=FT at *;generalize aj s.nodes s.boost=FB at *;generalize zV s=QV at *;generalize jA s 0 s.f.ep=ES at *;generalize (dW (fun i=>decide (s.now<(nod s.nodes i).blk.slot) || !pY s (nod s.nodes i).blk) s.nodes.length).isSome=NV at *;generalize (decide (s.latest.length=s.cfg.bals.length)&&(!(dW (fun i=>!(vot s.latest i).has&&decide (vot s.latest i≠dL)) s.latest.length).isSome&&(decide (s.eqv.length=0) || decide (cE s.eqv s.cfg.bals.length=0))))=VV at *;generalize dg s s.now=EN at *;by_cases q1:N0.blk.root=s.f.rt
 case neg=>
  obtain rfl:=r2 (fun c=>q1 (b1 c));repeat(first|refine bY ?_|simp only[go_sem,hg0,hp0,aA q1])
  refine agF ?_;exact ai
 by_cases q2:0<=J
 case neg=>
  obtain rfl:=r2 (fun c=>q2 (b2 c));have k2:decide (J<0)=true:=au (by omega);repeat(first|refine bY ?_|simp only[go_sem,hg0,hp0,au q1,k2])
  refine agF ?_;exact ai
 have k2:decide (J<0)=false:=aA (by omega);have hgJ:=hgJ q2;have hJl:=hJl q2;by_cases q3:NJ.status=2
 ·obtain rfl:=r2 (fun c=>b3 c q3);have k3:(NJ.status==2)=true:=by simp[q3]
  repeat(first|refine bY ?_|simp only[go_sem,hg0,hp0,au q1,k2,hgJ,hJl,q2,k3])
  refine agF ?_;exact ai
 have k3:(NJ.status==2)=false:=by simp[q3]
 by_cases q4:s.f.ep<=s.j.ep
 case neg=>
  obtain rfl:=r2 (fun c=>q4 (b4 c));have k4:decide (s.j.ep<s.f.ep)=true:=au (by omega);repeat(first|refine bY ?_|simp only[go_sem,hg0,hp0,au q1,k2,hgJ,hJl,q2,k3,k4])
  refine agF ?_;exact ai
 have k4:decide (s.j.ep<s.f.ep)=false:=aA (by omega);repeat(first|refine bY ?_|simp only[go_sem,hg0,hp0,au q1,k2,hgJ,hJl,q2,k3,k4])
 refine aK (c4) ?_;by_cases q5:0<=FT
 case neg=>
  obtain rfl:=r2 (fun c=>q5 (b5 c));have k5:decide (FT<0)=true:=au (by omega);refine aM k5 ?_;exact ai
 have k5:decide (FT<0)=false:=aA (by omega);refine aF k5 ?_;clear k2 k3 k4 k5 hg0 hp0 hgJ hJl c4 c3 c1 c2;obtain⟨F,hF⟩:∃F,F=frE (pR s) (s.tabs.length-0) 0:=⟨_,rfl⟩
 rw[<-hF]at b6 bb;refine az (fun i:Nat=>[(7,.int .i64 i)]) (fun i=>[.var (aE s.a),.var (aE NS1.a)]) (fun i=>s.tabs.length-i) (fun i=>i<=s.tabs.length/\F=frE (pR s) (s.tabs.length-i) i) 0 ⟨amc _,hF⟩ ?_ ?_
 ·exact ais [] [0,1]
 clear hF;have hbt:=h.bt;rintro i ⟨hi,hn⟩;refine dp ?_;by_cases h1:i<s.tabs.length
 ·have e1:=inT h1
  have hw:=af h1 (by omega);have hgd:(rows aW.c s.tabs).getD i []=bS (tab s.tabs i).a:=aS (f:=aW.c) default h1;have hm:tab s.tabs i∈s.tabs:=bK default h1;have hgp:(rows aW.c s.tabs).getD (i-1) []=bS (tab s.tabs (i-1)).a:=aS (f:=aW.c) default (by omega);have d1:=Mr (tab s.tabs (i-1)).cp (tab s.tabs i).cp;have d2:=xV (tab s.tabs i) s.cfg.bals.length (h.bb _ hm);have hf0:∀ {v:Int},pR s i=v->v≠0->F≠0:=fun h0 h2=>by rw[hn,zg h1 (by rw[h0];exact h2),h0];exact h2
  have hf:pR s i=0->F=frE (pR s) (s.tabs.length-(i+1)) (i+1):=fun h0=>by rw[hn,zf h1 h0]
  clear hn bb b7 b8 b9 b10 b11 b12 b13 c6 c7 c8 c9 c10 c11;obtain⟨G,hG⟩:∃G,G=frE (pR s) (s.tabs.length-(i+1)) (i+1):=⟨_,rfl⟩
  rw[<-hG]at hf;unfold pR at hf0 hf;generalize tab s.tabs (i-1)=y at *;generalize tab s.tabs i=x at *;generalize gh x s.cfg.bals.length=V at *;generalize kW y.cp x.cp=C at *;refine bw e1 ?_;refine ah hgd ?_;refine aK (c5) ?_;refine ah hgd ?_;refine aK (d2) ?_;by_cases q6:V=0
  case neg=>
   have k6:(V != 0)=true:=by simp[q6]
   have:=hf0 (v:=1) (by(repeat' split)<;>first|rfl|contradiction) (by decide);obtain rfl:=r2 (fun c=>this (b6 c));refine aM k6 ?_;exact ai
  have k6:(V != 0)=false:=by simp[q6]
  by_cases qi:i=0
  ·have ki:decide ((i:Int) > 0)=false:=aA (by omega);have ki':decide ((0:Int)<(i:Int))=false:=aA (by omega);refine zh k6 ki ki' ?_;refine ah hw ?_;refine⟨i+1,⟨h1,(hf (by rw[al5 (fun h=>by omega),al5 (fun h=>h q6)])).trans hG⟩,by omega,?_⟩;exact ais [] [0,1]
  ·have ki:decide ((i:Int) > 0)=true:=au (by omega)
   have ki':decide ((0:Int)<(i:Int))=true:=au (by omega);have hw1:IntKind.i64.wrap ((i:Int)-1)=((i-1:Nat):Int):=by rw[aL (by omega) (by omega)];omega
   have hix:((i-1:Nat):Int)<((s.tabs.length:Nat):Int):=by omega
   have hix2:i-1<s.tabs.length:=by omega
   refine mP k6 ki ki' hw1 hgd hgp hix hix2 ?_;refine aK (d1) ?_;by_cases q7:0<=C
   ·have k7:decide (C ≥ 0)=true:=au q7;have k7':decide (0<=C)=true:=au q7;have:=hf0 (v:=1) (al7 ⟨by omega,q7⟩) (by decide);obtain rfl:=r2 (fun c=>this (b6 c));refine cH k7 k7' ?_;exact ai
   ·have k7:decide (C ≥ 0)=false:=aA q7;have k7':decide (0<=C)=false:=aA q7;refine fp k7 k7' ?_;refine ah hw ?_;refine⟨i+1,⟨h1,(hf (by rw[al5 (fun h=>q7 h.2),al5 (fun h=>h q6)])).trans hG⟩,by omega,?_⟩;exact ais [] [0,1]
 ·obtain rfl:i=s.tabs.length:=by omega
  have e1:=inF (s.tabs.length);rw[ze]at hn;subst hn;refine aF e1 ?_;refine aK (c5) ?_;refine gon ?_;refine aK (c6) ?_;cases VV with
  | false =>
    obtain rfl:=r2 (fun c=>by have:=b7 c;cases this);refine aX ?_;exact ai
  |true=>
  refine gon ?_;by_cases q8:s.boost=rt0
  case neg=>
   repeat(first|refine bY ?_|simp only[go_sem,aA q8])
   refine aK (c7) ?_;by_cases q9:0<=FB
   case neg=>
    have k9:decide (FB<0)=true:=au (by omega);obtain rfl:=r2 (fun c=>(b8 c).elim q8 q9);refine aM k9 ?_;exact ai
   have k9:decide (FB<0)=false:=aA (by omega);by_cases q10:s.now<=1099511627776
   case neg=>
    have k10:decide (s.now > 1099511627776)=true:=au (by omega);have k10':decide ((1099511627776:Int)<s.now)=true:=au (by omega);obtain rfl:=r2 (fun c=>q10 (b9 c));refine fI k9 k10 k10' ?_;exact ai
   have k10:decide (s.now > 1099511627776)=false:=aA (by omega);have k10':decide ((1099511627776:Int)<s.now)=false:=aA (by omega);refine wg k9 k10 k10' ?_;refine aK (c8) ?_;by_cases q11:s.j.ep<=EN
   case neg=>
    have k11:decide (s.j.ep > EN)=true:=au (by omega);have k11':decide (EN<s.j.ep)=true:=au (by omega);obtain rfl:=r2 (fun c=>q11 (b10 c));refine cH k11 k11' ?_;exact ai
   have k11:decide (s.j.ep > EN)=false:=aA (by omega);have k11':decide (EN<s.j.ep)=false:=aA (by omega);refine aZ k11 k11' ?_;refine aK (c9) ?_;cases ES with
   | false =>
     obtain rfl:=r2 (fun c=>by have:=b11 c;cases this);refine aX ?_;exact ai
   |true=>
   refine gon ?_;refine aK (c10) ?_;cases NV with
   | true =>
     obtain rfl:=r2 (fun c=>by have:=b12 c;cases this);refine aX ?_;exact ai
   |false=>
   refine gon ?_;refine aK (c11) ?_;cases QV with
   | false =>
     obtain rfl:=r2 (fun c=>by have:=b13 c;cases this);refine aX ?_;exact ai
   | true =>
     obtain rfl:=bb q1 q2 q3 q4 q5 rfl rfl (.inr q9) q10 q11 rfl rfl rfl;refine bk ?_;exact ai
  by_cases q10:s.now<=1099511627776
  case neg=>
   have k10:decide (s.now > 1099511627776)=true:=au (by omega);have k10':decide ((1099511627776:Int)<s.now)=true:=au (by omega);obtain rfl:=r2 (fun c=>q10 (b9 c));repeat(first|refine bY ?_|simp only[go_sem,au q8,k10,k10'])
   refine agF ?_;exact ai
  have k10:decide (s.now > 1099511627776)=false:=aA (by omega);have k10':decide ((1099511627776:Int)<s.now)=false:=aA (by omega);repeat(first|refine bY ?_|simp only[go_sem,au q8,k10,k10'])
  refine agE ?_;refine aK (c8) ?_;by_cases q11:s.j.ep<=EN
  case neg=>
   have k11:decide (s.j.ep > EN)=true:=au (by omega);have k11':decide (EN<s.j.ep)=true:=au (by omega);obtain rfl:=r2 (fun c=>q11 (b10 c));refine cH k11 k11' ?_;exact ai
  have k11:decide (s.j.ep > EN)=false:=aA (by omega);have k11':decide (EN<s.j.ep)=false:=aA (by omega);refine aZ k11 k11' ?_;refine aK (c9) ?_;cases ES with
  | false =>
    obtain rfl:=r2 (fun c=>by have:=b11 c;cases this);refine aX ?_;exact ai
  |true=>
  refine gon ?_;refine aK (c10) ?_;cases NV with
  | true =>
    obtain rfl:=r2 (fun c=>by have:=b12 c;cases this);refine aX ?_;exact ai
  |false=>
  refine gon ?_;refine aK (c11) ?_;cases QV with
  | false =>
    obtain rfl:=r2 (fun c=>by have:=b13 c;cases this);refine aX ?_;exact ai
  | true =>
    obtain rfl:=bb q1 q2 q3 q4 q5 rfl rfl (.inl q8) q10 q11 rfl rfl rfl;refine bk ?_;exact ai
end Go.Proofs.YtnjdpnfglgcjcaaGreat
