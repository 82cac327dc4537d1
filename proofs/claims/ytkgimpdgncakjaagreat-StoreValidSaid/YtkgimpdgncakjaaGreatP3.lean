/-
 My texts Sd, joined.
-/
import Derived.Test.YtkgimpdgncakjaaGreatP2
import Derived.Test.YtkgimpdgncakjaaGreatV7
namespace Go.Proofs.YtkgimpdgncakjaaGreat
open Go Go.FH Go.RowKit
set_option linter.unusedVariables false
set_option linter.unusedSimpArgs false
set_option maxRecDepth 8000
set_option maxHeartbeats 4000000
structure lS_(s:ah_):Prop where
 a1:(nod s.nodes 0).blk.root=s.f.rt
 a2:0≤af_ s.nodes s.j.rt
 a3:(nod s.nodes (af_ s.nodes s.j.rt).toNat).status≠2
 a4:s.f.ep≤s.j.ep
 a5:0≤bU_ s.tabs s.j
 a6:frE (hL_ s) (s.tabs.length-0) 0=0
 a7:(decide (s.latest.length=s.cfg.bals.length)&&(!(bD_ (fun i=>!(vot s.latest i).has&&decide (vot s.latest i≠do_)) s.latest.length).isSome&&(decide (s.eqv.length=0) || decide (cd_ s.eqv s.cfg.bals.length=0))))=true
 a8:s.boost=rt0∨0≤af_ s.nodes s.boost
 a9:s.now≤1099511627776
 a10:s.j.ep≤aT_ s s.now
 a11:fz_ s 0 s.f.ep=true
 a12:(bD_ (fun i=>decide (s.now<(nod s.nodes i).blk.slot) || !jj_ s (nod s.nodes i).blk) s.nodes.length).isSome=false
 a13:tA_ s=true
theorem Nb_(p:Nat→Bool):∀n,orN p n=true↔∃k,k<n∧p k=true
 |0=>⟨fun h=>(by cases h),fun ⟨k,hk,_⟩=>absurd hk (Nat.not_lt_zero k)⟩
 | n + 1 => by
   show (orN p n || p n)=true↔_
   rw[Bool.or_eq_true,Nb_ p n];constructor
   ·rintro (⟨k,h1,h2⟩|h)
    ·exact⟨k,by omega,h2⟩
    ·exact⟨n,by omega,h⟩
   ·rintro⟨k,h1,h2⟩;by_cases hk:k=n
    ·subst hk;exact .inr h2
    ·exact .inl ⟨k,by omega,h2⟩
theorem vi_(l:List au_)(c:Cp):0≤bU_ l c↔orN (fun i=>decide ((tab l i).cp=c)) l.length=true:=by
 rw[Nb_];unfold bU_;cases h:bD_ (fun i=>decide ((tab l i).cp=c)) l.length with
 | none =>
   rw[fQ_];exact⟨fun h=>absurd h (by decide),fun ⟨k,h1,h2⟩=>by rw[ei_ h k h1]at h2;cases h2⟩
 | some k =>
   obtain⟨h1,h2,_⟩:=cD_ h;rw[dP_];exact⟨fun _=>⟨k,h1,h2⟩,fun _=>by omega⟩
theorem Do_{s:ah_}(h1:1≤s.cfg.spe)(h2:s.cfg.spe≤64)(n:Int):(dO_ n s.cfg.spe).1=aT_ s n:=by
 unfold dO_ if_;rw[decide_eq_true h1,decide_eq_true h2];rfl
theorem vO_{c:bu_}(h:eR_ c=0):1≤c.spe∧c.spe≤64:=by
 unfold eR_ at h;by_cases h1:c.spe<1
 ·rw[if_pos h1]at h;cases h
 ·rw[if_neg h1]at h;by_cases h2:64<c.spe
  ·rw[if_pos h2]at h;cases h
  ·exact⟨by omega,by omega⟩
theorem QX_{s:ah_}(h1:1≤s.cfg.spe)(h2:s.cfg.spe≤64)(b:Blk):vT_ s b=jj_ s b:=by
 unfold vT_ jj_;rw[Do_ h1 h2]
theorem Oc_{s:ah_}(hn:eR_ s.cfg=0)(hs:statV s.nodes=0)(z1:¬s.cfg.lim.node<s.nodes.length)(z2:¬s.cfg.lim.orph<s.orph.length)(z3:¬s.cfg.lim.early<s.early.length)(z4:¬s.cfg.lim.table<s.tabs.length)(hf:U64 s.f.ep)(hw:U64 s.now):(lS_ s→kA_ s=0)∧(¬lS_ s→kA_ s=2):=by
 obtain⟨p1,p2⟩:=vO_ hn
 have key:kA_ s=if tu_ s=false then 2 else if (decide (frE (hL_ s) (s.tabs.length-0) 0=0)&&orN (fun i=>decide ((tab s.tabs i).cp=s.j)) s.tabs.length)=false then 2
  else if jT_ s=false then 2 else if jO_ s=false then 2 else if tA_ s=false then 2 else 0:=by
  unfold kA_;rw[if_neg (fun h=>h hn),if_neg (fun h=>h hs),if_neg z1,if_neg z2,if_neg z3,if_neg z4]
 have hv:jT_ s=(decide (s.latest.length=s.cfg.bals.length)&&(!(bD_ (fun i=>!(vot s.latest i).has&&decide (vot s.latest i≠do_)) s.latest.length).isSome&&(decide (s.eqv.length=0) || decide (cd_ s.eqv s.cfg.bals.length=0)))):=by
  unfold jT_
  have e1:decide ((s.latest.length:Int)=(s.cfg.bals.length:Int))=decide (s.latest.length=s.cfg.bals.length):=by
   by_cases q:s.latest.length=s.cfg.bals.length
   ·rw[decide_eq_true q,decide_eq_true (by omega)]
   ·rw[decide_eq_false q,decide_eq_false (by omega)]
  have e2:decide ((s.eqv.length:Int)=0)=decide (s.eqv.length=0):=by
   by_cases q:s.eqv.length=0
   ·rw[decide_eq_true q,decide_eq_true (by omega)]
   ·rw[decide_eq_false q,decide_eq_false (by omega)]
  rw[e1,e2,Bool.and_left_comm]
 have hnd:jO_ s=!(bD_ (fun i=>decide (s.now<(nod s.nodes i).blk.slot) || !jj_ s (nod s.nodes i).blk) s.nodes.length).isSome:=by
  have he:(fun i=>decide (s.now<(nod s.nodes i).blk.slot) || !vT_ s (nod s.nodes i).blk)=(fun i=>decide (s.now<(nod s.nodes i).blk.slot) || !jj_ s (nod s.nodes i).blk):=funext fun i=>by rw[QX_ p1 p2]
  unfold jO_;rw[he]
 have hfin:tu_ s=true↔((nod s.nodes 0).blk.root=s.f.rt∧0≤af_ s.nodes s.j.rt∧(nod s.nodes (af_ s.nodes s.j.rt).toNat).status≠2∧s.f.ep≤s.j.ep)∧((s.boost=rt0∨0≤af_ s.nodes s.boost)∧s.now≤1099511627776∧s.j.ep≤aT_ s s.now)∧(bh_ s.f.ep s.cfg.spe).2=0∧(nod s.nodes 0).blk.slot≤(bh_ s.f.ep s.cfg.spe).1:=by
  unfold tu_;rw[Do_ p1 p2];simp only[Bool.and_eq_true,Bool.or_eq_true,decide_eq_true_eq];exact⟨fun ⟨⟨a,b⟩,c⟩=>⟨a,b,c⟩,fun ⟨a,b,c⟩=>⟨⟨a,b⟩,c⟩⟩
 have hea:fz_ s 0 s.f.ep=true↔((bh_ s.f.ep s.cfg.spe).2≠0∨(nod s.nodes 0).blk.slot≤(bh_ s.f.ep s.cfg.spe).1):=by
  unfold fz_ bw_;by_cases q:(bh_ s.f.ep s.cfg.spe).2=0
  ·simp[q]
  ·simp[q]
 constructor
 ·intro h;have hst:(bh_ s.f.ep s.cfg.spe).2=0:=re_ hf.lo p1 p2 hw.lo hw.hi (Int.le_trans h.a4 h.a10);have hF:tu_ s=true:=hfin.2 ⟨⟨h.a1,h.a2,h.a3,h.a4⟩,⟨h.a8,h.a9,h.a10⟩,hst,(hea.1 h.a11).resolve_left (fun hh=>hh hst)⟩;have hT:=(vi_ s.tabs s.j).1 h.a5;rw[key,hF,if_neg (by decide),hT,decide_eq_true h.a6,hv,h.a7,hnd,h.a12,h.a13];rfl
 ·intro h;rw[key];by_cases q1:tu_ s=false
  ·rw[if_pos q1]
  rw[if_neg q1];by_cases q2:(decide (frE (hL_ s) (s.tabs.length-0) 0=0)&&orN (fun i=>decide ((tab s.tabs i).cp=s.j)) s.tabs.length)=false
  ·rw[if_pos q2]
  rw[if_neg q2];by_cases q3:jT_ s=false
  ·rw[if_pos q3]
  rw[if_neg q3];by_cases q4:jO_ s=false
  ·rw[if_pos q4]
  rw[if_neg q4];by_cases q5:tA_ s=false
  ·rw[if_pos q5]
  exfalso
  simp only[Bool.not_eq_false]at q1 q2 q3 q4 q5;obtain⟨⟨b1,b2,b3,b4⟩,⟨b5,b6,b7⟩,b8,b9⟩:=hfin.1 q1;rw[Bool.and_eq_true,decide_eq_true_eq]at q2;rw[hnd]at q4;exact h ⟨b1,b2,b3,b4,(vi_ _ _).2 q2.2,q2.1,hv▸q3,b5,b6,b7,hea.2 (.inr b9),by simpa using q4,q5⟩
theorem QU_(c:bu_):(qQ_ c).2=eR_ c:=by
 unfold qQ_;split
 ·rename_i h;exact h.symm
 ·rfl
theorem KG_(s:ah_)(h:Oo_ s)(hnw:U64 s.now):PC Tryz.prog 19 [.agg (ak_ s.a)] (.int .i64 (kA_ s)):=by
 refine PC.fact 8 rE_ (by simp) puA puA ?_;unfold ki_;refine bd ?_;obtain⟨R,hR⟩:∃R,R=kA_ s:=⟨_,rfl⟩
 rw[←hR];have c1:=Ee_ s.cfg h.bc;have c2:=BI_ s.nodes h.bn;have c3:=bg_ s.nodes s.j.rt h.bn;have c4:=ih_ s.tabs s.j h.bt;have c5:=kB_ s;have c6:=ED_ s.latest s.eqv s.cfg.bals.length h.bl h.be;have c7:=bg_ s.nodes s.boost h.bn;have c11:=EE_ s h.bn h.ba h.bo h.bv;have n2:=QU_ s.cfg;unfold nA at c3 c7;generalize qQ_ s.cfg=NS at *;obtain⟨NS1,NS2⟩:=NS;dsimp only at c1 n2;try refine aa_ ?_
 refine aj_ c1 ?_;by_cases q1:eR_ s.cfg=0
 case neg=>
  have k1:(NS2 != 0)=true:=by simp[n2,q1]
  have:R=NS2:=by rw[hR,n2];unfold kA_;rw[if_pos q1]
  subst this;repeat(first|refine aa_ ?_|simp only[go_sem,k1])
  refine Ri_ ?_
  exact ae_
 have k1:(NS2 != 0)=false:=by simp[n2,q1]
 repeat(first|refine aa_ ?_|simp only[go_sem,k1])
 refine Rh_ ?_
 refine aj_ c2 ?_;by_cases q2:statV s.nodes=0
 case neg=>
  have:R=statV s.nodes:=by rw[hR];unfold kA_;rw[if_neg (fun hh=>hh q1),if_pos q2]
  subst this;generalize statV s.nodes=V at *;have k2:(V != 0)=true:=by simp[q2]
  repeat(first|refine aa_ ?_|simp only[go_sem,k2])
  refine Ri_ ?_
  exact ae_
 have ht:bG_ s.nodes:=by
  have:=q2;unfold statV at this;split at this
  ·rename_i h4;exact absurd this h4
  ·rename_i h4;exact(ri_ (by simpa using h4)).1
 have hpos:=ht.pos;have k2:(statV s.nodes != 0)=false:=by simp[q2]
 generalize hSV:statV s.nodes=V at *;repeat(first|refine aa_ ?_|simp only[go_sem,k2])
 refine ab_ ?_;clear k1 k2;by_cases z1:s.cfg.lim.node<s.nodes.length
 ·have k:decide ((s.nodes.length:Int) > s.cfg.lim.node)=true:=decide_eq_true z1;have k':decide (s.cfg.lim.node<(s.nodes.length:Int))=true:=decide_eq_true z1;have:R=11:=by rw[hR];unfold kA_;rw[if_neg (fun hh=>hh q1),hSV,if_neg (fun hh=>hh q2),if_pos z1]
  subst this;repeat(first|refine aa_ ?_|simp only[go_sem,k,k'])
  refine Ri_ ?_
  exact ae_
 have m1:decide ((s.nodes.length:Int) > s.cfg.lim.node)=false:=decide_eq_false z1;have m1':decide (s.cfg.lim.node<(s.nodes.length:Int))=false:=decide_eq_false z1;by_cases z2:s.cfg.lim.orph<s.orph.length
 ·have k:decide ((s.orph.length:Int) > s.cfg.lim.orph)=true:=decide_eq_true z2;have k':decide (s.cfg.lim.orph<(s.orph.length:Int))=true:=decide_eq_true z2;have:R=11:=by rw[hR];unfold kA_;rw[if_neg (fun hh=>hh q1),hSV,if_neg (fun hh=>hh q2),if_neg z1,if_pos z2]
  subst this;repeat(first|refine aa_ ?_|simp only[go_sem,k,k',m1,m1'])
  refine Ri_ ?_
  exact ae_
 have m2:decide ((s.orph.length:Int) > s.cfg.lim.orph)=false:=decide_eq_false z2;have m2':decide (s.cfg.lim.orph<(s.orph.length:Int))=false:=decide_eq_false z2;by_cases z3:s.cfg.lim.early<s.early.length
 ·have k:decide ((s.early.length:Int) > s.cfg.lim.early)=true:=decide_eq_true z3;have k':decide (s.cfg.lim.early<(s.early.length:Int))=true:=decide_eq_true z3;have:R=11:=by rw[hR];unfold kA_;rw[if_neg (fun hh=>hh q1),hSV,if_neg (fun hh=>hh q2),if_neg z1,if_neg z2,if_pos z3]
  subst this;repeat(first|refine aa_ ?_|simp only[go_sem,k,k',m1,m1',m2,m2'])
  refine Ri_ ?_
  exact ae_
 have m3:decide ((s.early.length:Int) > s.cfg.lim.early)=false:=decide_eq_false z3;have m3':decide (s.cfg.lim.early<(s.early.length:Int))=false:=decide_eq_false z3;by_cases z4:s.cfg.lim.table<s.tabs.length
 ·have k:decide ((s.tabs.length:Int) > s.cfg.lim.table)=true:=decide_eq_true z4;have k':decide (s.cfg.lim.table<(s.tabs.length:Int))=true:=decide_eq_true z4;have:R=11:=by rw[hR];unfold kA_;rw[if_neg (fun hh=>hh q1),hSV,if_neg (fun hh=>hh q2),if_neg z1,if_neg z2,if_neg z3,if_pos z4]
  subst this;repeat(first|refine aa_ ?_|simp only[go_sem,k,k',m1,m1',m2,m2',m3,m3'])
  refine Ri_ ?_
  exact ae_
 have m4:decide ((s.tabs.length:Int) > s.cfg.lim.table)=false:=decide_eq_false z4;have m4':decide (s.cfg.lim.table<(s.tabs.length:Int))=false:=decide_eq_false z4;repeat(first|refine aa_ ?_|simp only[go_sem,m1,m1',m2,m2',m3,m3',m4,m4'])
 refine ab_ ?_;clear m1 m1' m2 m2' m3 m3' m4 m4';obtain⟨r0,r2⟩:=Oc_ q1 (hSV.trans q2) z1 z2 z3 z4 h.uf hnw;rw[←hR]at r0 r2;clear hR q2 hSV;obtain⟨p1,p2⟩:=vO_ q1;have c8:=dI_ s s.now (by omega);have c9:=pj_ s 0 s.f.ep (by decide) (by omega);have c10:=EB_ s h.bn (by omega);try refine aa_ ?_
 refine aj_ c3 ?_;have hg0:(rows ax_ s.nodes).getD 0 []=ax_ (nod s.nodes 0):=aA_ (f:=ax_) gs_ hpos;have hgJ:0≤af_ s.nodes s.j.rt→(rows ax_ s.nodes).getD (af_ s.nodes s.j.rt).toNat []=ax_ (nod s.nodes (af_ s.nodes s.j.rt).toNat):=fun hh=>aA_ (f:=ax_) gs_ (cn_ hh).1
 have hJl:0≤af_ s.nodes s.j.rt→af_ s.nodes s.j.rt<((s.nodes.length:Nat):Int):=fun hh=>by have:=(cn_ hh).1;omega
 have hp0:(0:Int)<((s.nodes.length:Nat):Int):=by omega
 have b1:=fun(c:lS_ s)=>c.a1
 have b2:=fun(c:lS_ s)=>c.a2
 have b3:=fun(c:lS_ s)=>c.a3
 have b4:=fun(c:lS_ s)=>c.a4
 have b5:=fun(c:lS_ s)=>c.a5
 have b6:=fun(c:lS_ s)=>c.a6
 have b7:=fun(c:lS_ s)=>c.a7
 have b8:=fun(c:lS_ s)=>c.a8
 have b9:=fun(c:lS_ s)=>c.a9
 have b10:=fun(c:lS_ s)=>c.a10
 have b11:=fun(c:lS_ s)=>c.a11
 have b12:=fun(c:lS_ s)=>c.a12
 have b13:=fun(c:lS_ s)=>c.a13
 have bb:=fun x1 x2 x3 x4 x5 x6 x7 x8 x9 x10 x11 x12 x13=>r0 (⟨x1,x2,x3,x4,x5,x6,x7,x8,x9,x10,x11,x12,x13⟩:lS_ s)
 clear r0;generalize nod s.nodes 0=N0 at *;generalize hJ:af_ s.nodes s.j.rt=J at *;generalize nod s.nodes J.toNat=NJ at *;generalize bU_ s.tabs s.j=FT at *;generalize af_ s.nodes s.boost=FB at *;generalize tA_ s=QV at *;generalize fz_ s 0 s.f.ep=ES at *;generalize (bD_ (fun i=>decide (s.now<(nod s.nodes i).blk.slot) || !jj_ s (nod s.nodes i).blk) s.nodes.length).isSome=NV at *;generalize (decide (s.latest.length=s.cfg.bals.length)&&(!(bD_ (fun i=>!(vot s.latest i).has&&decide (vot s.latest i≠do_)) s.latest.length).isSome&&(decide (s.eqv.length=0) || decide (cd_ s.eqv s.cfg.bals.length=0))))=VV at *;generalize aT_ s s.now=EN at *;by_cases q1:N0.blk.root=s.f.rt
 case neg=>
  obtain rfl:=r2 (fun c=>q1 (b1 c));repeat(first|refine aa_ ?_|simp only[go_sem,hg0,hp0,decide_eq_false q1])
  refine Ri_ ?_
  exact ae_
 by_cases q2:0≤J
 case neg=>
  obtain rfl:=r2 (fun c=>q2 (b2 c));have k2:decide (J<0)=true:=decide_eq_true (by omega);repeat(first|refine aa_ ?_|simp only[go_sem,hg0,hp0,decide_eq_true q1,k2])
  refine Ri_ ?_
  exact ae_
 have k2:decide (J<0)=false:=decide_eq_false (by omega);have hgJ:=hgJ q2;have hJl:=hJl q2;by_cases q3:NJ.status=2
 ·obtain rfl:=r2 (fun c=>b3 c q3);have k3:(NJ.status==2)=true:=by simp[q3]
  repeat(first|refine aa_ ?_|simp only[go_sem,hg0,hp0,decide_eq_true q1,k2,hgJ,hJl,q2,k3])
  refine Ri_ ?_
  exact ae_
 have k3:(NJ.status==2)=false:=by simp[q3]
 by_cases q4:s.f.ep≤s.j.ep
 case neg=>
  obtain rfl:=r2 (fun c=>q4 (b4 c));have k4:decide (s.j.ep<s.f.ep)=true:=decide_eq_true (by omega);repeat(first|refine aa_ ?_|simp only[go_sem,hg0,hp0,decide_eq_true q1,k2,hgJ,hJl,q2,k3,k4])
  refine Ri_ ?_
  exact ae_
 have k4:decide (s.j.ep<s.f.ep)=false:=decide_eq_false (by omega);repeat(first|refine aa_ ?_|simp only[go_sem,hg0,hp0,decide_eq_true q1,k2,hgJ,hJl,q2,k3,k4])
 refine ao_ (c4) ?_;by_cases q5:0≤FT
 case neg=>
  obtain rfl:=r2 (fun c=>q5 (b5 c));have k5:decide (FT<0)=true:=decide_eq_true (by omega);repeat(first|refine aa_ ?_|simp only[go_sem,k5])
  refine Ri_ ?_
  exact ae_
 have k5:decide (FT<0)=false:=decide_eq_false (by omega);repeat(first|refine aa_ ?_|simp only[go_sem,k5])
 refine Rh_ ?_
 clear k2 k3 k4 k5 hg0 hp0 hgJ hJl c4 c3 c1 c2;obtain⟨F,hF⟩:∃F,F=frE (hL_ s) (s.tabs.length-0) 0:=⟨_,rfl⟩
 rw[←hF]at b6 bb;refine an_ (fun i:Nat=>[(7,.int .i64 i)]) (fun i=>[.var (ak_ s.a),.var (ak_ NS1.a)]) (fun i=>s.tabs.length-i) (fun i=>i≤s.tabs.length∧F=frE (hL_ s) (s.tabs.length-i) i) 0 ⟨Nat.zero_le _,hF⟩ ?_ ?_
 ·exact SN_ [] [0,1]
 clear hF;have hbt:=h.bt;rintro i ⟨hi,hn⟩;refine cJ_ ?_;by_cases h1:i<s.tabs.length
 ·have e1:=inT h1
  have hw:=ag_ h1 (by omega);have hgd:(rows au_.c s.tabs).getD i []=aY_ (tab s.tabs i).a:=aA_ (f:=au_.c) default h1;have hm:tab s.tabs i∈s.tabs:=bH_ default h1;have hgp:(rows au_.c s.tabs).getD (i-1) []=aY_ (tab s.tabs (i-1)).a:=aA_ (f:=au_.c) default (by omega);have d1:=za_ (tab s.tabs (i-1)).cp (tab s.tabs i).cp;have d2:=nI_ (tab s.tabs i) s.cfg.bals.length (h.bb _ hm);have hf0:∀ {v:Int},hL_ s i=v→v≠0→F≠0:=fun h0 h2=>by rw[hn,oS_ h1 (by rw[h0];exact h2),h0];exact h2
  have hf:hL_ s i=0→F=frE (hL_ s) (s.tabs.length-(i+1)) (i+1):=fun h0=>by rw[hn,oR_ h1 h0]
  clear hn bb b7 b8 b9 b10 b11 b12 b13 c6 c7 c8 c9 c10 c11;obtain⟨G,hG⟩:∃G,G=frE (hL_ s) (s.tabs.length-(i+1)) (i+1):=⟨_,rfl⟩
  rw[←hG]at hf;unfold hL_ at hf0 hf;generalize tab s.tabs (i-1)=y at *;generalize tab s.tabs i=x at *;generalize dJ_ x s.cfg.bals.length=V at *;generalize gy_ y.cp x.cp=C at *;repeat(first|refine aa_ ?_|simp only[go_sem,e1])
  refine ac_ ?_;repeat(first|refine aa_ ?_|simp only[go_sem,hgd])
  refine ao_ (c5) ?_;repeat(first|refine aa_ ?_|simp only[go_sem,hgd])
  refine ao_ (d2) ?_;by_cases q6:V=0
  case neg=>
   have k6:(V != 0)=true:=by simp[q6]
   have:=hf0 (v:=1) (by(repeat' split)<;>first|rfl|contradiction) (by decide);obtain rfl:=r2 (fun c=>this (b6 c));repeat(first|refine aa_ ?_|simp only[go_sem,k6])
   refine Ri_ ?_
   exact ae_
  have k6:(V != 0)=false:=by simp[q6]
  by_cases qi:i=0
  ·have ki:decide ((i:Int) > 0)=false:=decide_eq_false (by omega);have ki':decide ((0:Int)<(i:Int))=false:=decide_eq_false (by omega);repeat(first|refine aa_ ?_|simp only[go_sem,k6,ki,ki'])
   refine ab_ ?_;repeat(first|refine aa_ ?_|simp only[go_sem,hw])
   refine⟨i+1,⟨h1,(hf (by rw[if_neg (fun h=>by omega),if_neg (fun h=>h q6)])).trans hG⟩,by omega,?_⟩;exact SN_ [] [0,1]
  ·have ki:decide ((i:Int) > 0)=true:=decide_eq_true (by omega)
   have ki':decide ((0:Int)<(i:Int))=true:=decide_eq_true (by omega);have hw1:IntKind.i64.wrap ((i:Int)-1)=((i-1:Nat):Int):=by rw[aC_ (by omega) (by omega)];omega
   have hix:((i-1:Nat):Int)<((s.tabs.length:Nat):Int):=by omega
   have hix2:i-1<s.tabs.length:=by omega
   repeat(first|refine aa_ ?_|simp only[go_sem,k6,ki,ki',hw1,hgd,hgp,hix,hix2])
   refine ao_ (d1) ?_;by_cases q7:0≤C
   ·have k7:decide (C ≥ 0)=true:=decide_eq_true q7;have k7':decide (0≤C)=true:=decide_eq_true q7;have:=hf0 (v:=1) (if_pos ⟨by omega,q7⟩) (by decide);obtain rfl:=r2 (fun c=>this (b6 c));repeat(first|refine aa_ ?_|simp only[go_sem,k7,k7'])
    refine Ri_ ?_
    exact ae_
   ·have k7:decide (C ≥ 0)=false:=decide_eq_false q7;have k7':decide (0≤C)=false:=decide_eq_false q7;repeat(first|refine aa_ ?_|simp only[go_sem,k7,k7'])
    refine ab_ ?_;repeat(first|refine aa_ ?_|simp only[go_sem,hw])
    refine⟨i+1,⟨h1,(hf (by rw[if_neg (fun h=>q7 h.2),if_neg (fun h=>h q6)])).trans hG⟩,by omega,?_⟩;exact SN_ [] [0,1]
 ·obtain rfl:i=s.tabs.length:=by omega
  have e1:=inF (s.tabs.length);rw[oQ_]at hn;subst hn;repeat(first|refine aa_ ?_|simp only[go_sem,e1])
  refine Rh_ ?_
  refine ao_ (c5) ?_;try refine aa_ ?_
  refine ao_ (c6) ?_;cases VV with
  | false =>
    obtain rfl:=r2 (fun c=>by have:=b7 c;cases this);try refine aa_ ?_
    refine Ri_ ?_
    exact ae_
  |true=>
  try refine aa_ ?_
  by_cases q8:s.boost=rt0
  case neg=>
   repeat(first|refine aa_ ?_|simp only[go_sem,decide_eq_false q8])
   refine ao_ (c7) ?_;by_cases q9:0≤FB
   case neg=>
    have k9:decide (FB<0)=true:=decide_eq_true (by omega);obtain rfl:=r2 (fun c=>(b8 c).elim q8 q9);repeat(first|refine aa_ ?_|simp only[go_sem,k9])
    refine Ri_ ?_
    exact ae_
   have k9:decide (FB<0)=false:=decide_eq_false (by omega);by_cases q10:s.now≤1099511627776
   case neg=>
    have k10:decide (s.now > 1099511627776)=true:=decide_eq_true (by omega);have k10':decide ((1099511627776:Int)<s.now)=true:=decide_eq_true (by omega);obtain rfl:=r2 (fun c=>q10 (b9 c));repeat(first|refine aa_ ?_|simp only[go_sem,k9,k10,k10'])
    refine Ri_ ?_
    exact ae_
   have k10:decide (s.now > 1099511627776)=false:=decide_eq_false (by omega);have k10':decide ((1099511627776:Int)<s.now)=false:=decide_eq_false (by omega);repeat(first|refine aa_ ?_|simp only[go_sem,k9,k10,k10'])
   refine Rh_ ?_
   refine ao_ (c8) ?_;by_cases q11:s.j.ep≤EN
   case neg=>
    have k11:decide (s.j.ep > EN)=true:=decide_eq_true (by omega);have k11':decide (EN<s.j.ep)=true:=decide_eq_true (by omega);obtain rfl:=r2 (fun c=>q11 (b10 c));repeat(first|refine aa_ ?_|simp only[go_sem,k11,k11'])
    refine Ri_ ?_
    exact ae_
   have k11:decide (s.j.ep > EN)=false:=decide_eq_false (by omega);have k11':decide (EN<s.j.ep)=false:=decide_eq_false (by omega);repeat(first|refine aa_ ?_|simp only[go_sem,k11,k11'])
   refine ao_ (c9) ?_;cases ES with
   | false =>
     obtain rfl:=r2 (fun c=>by have:=b11 c;cases this);try refine aa_ ?_
     refine Ri_ ?_
     exact ae_
   |true=>
   try refine aa_ ?_
   refine ao_ (c10) ?_;cases NV with
   | true =>
     obtain rfl:=r2 (fun c=>by have:=b12 c;cases this);try refine aa_ ?_
     refine Ri_ ?_
     exact ae_
   |false=>
   try refine aa_ ?_
   refine ao_ (c11) ?_;cases QV with
   | false =>
     obtain rfl:=r2 (fun c=>by have:=b13 c;cases this);try refine aa_ ?_
     refine Ri_ ?_
     exact ae_
   | true =>
     obtain rfl:=bb q1 q2 q3 q4 q5 rfl rfl (.inr q9) q10 q11 rfl rfl rfl;try refine aa_ ?_
     refine Rh_ ?_
     exact ae_
  by_cases q10:s.now≤1099511627776
  case neg=>
   have k10:decide (s.now > 1099511627776)=true:=decide_eq_true (by omega);have k10':decide ((1099511627776:Int)<s.now)=true:=decide_eq_true (by omega);obtain rfl:=r2 (fun c=>q10 (b9 c));repeat(first|refine aa_ ?_|simp only[go_sem,decide_eq_true q8,k10,k10'])
   refine Ri_ ?_
   exact ae_
  have k10:decide (s.now > 1099511627776)=false:=decide_eq_false (by omega);have k10':decide ((1099511627776:Int)<s.now)=false:=decide_eq_false (by omega);repeat(first|refine aa_ ?_|simp only[go_sem,decide_eq_true q8,k10,k10'])
  refine Rh_ ?_
  refine ao_ (c8) ?_;by_cases q11:s.j.ep≤EN
  case neg=>
   have k11:decide (s.j.ep > EN)=true:=decide_eq_true (by omega);have k11':decide (EN<s.j.ep)=true:=decide_eq_true (by omega);obtain rfl:=r2 (fun c=>q11 (b10 c));repeat(first|refine aa_ ?_|simp only[go_sem,k11,k11'])
   refine Ri_ ?_
   exact ae_
  have k11:decide (s.j.ep > EN)=false:=decide_eq_false (by omega);have k11':decide (EN<s.j.ep)=false:=decide_eq_false (by omega);repeat(first|refine aa_ ?_|simp only[go_sem,k11,k11'])
  refine ao_ (c9) ?_;cases ES with
  | false =>
    obtain rfl:=r2 (fun c=>by have:=b11 c;cases this);try refine aa_ ?_
    refine Ri_ ?_
    exact ae_
  |true=>
  try refine aa_ ?_
  refine ao_ (c10) ?_;cases NV with
  | true =>
    obtain rfl:=r2 (fun c=>by have:=b12 c;cases this);try refine aa_ ?_
    refine Ri_ ?_
    exact ae_
  |false=>
  try refine aa_ ?_
  refine ao_ (c11) ?_;cases QV with
  | false =>
    obtain rfl:=r2 (fun c=>by have:=b13 c;cases this);try refine aa_ ?_
    refine Ri_ ?_
    exact ae_
  | true =>
    obtain rfl:=bb q1 q2 q3 q4 q5 rfl rfl (.inl q8) q10 q11 rfl rfl rfl;try refine aa_ ?_
    refine Rh_ ?_
    exact ae_
end Go.Proofs.YtkgimpdgncakjaaGreat
