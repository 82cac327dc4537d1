/-
 My texts Qj, Qk, joined.
-/
import Derived.Test.YtnjdpnfglgcjcaaGreatT4
import Derived.Test.YtnjdpnfglgcjcaaGreatV5
set_option linter.unusedVariables false
set_option linter.unusedSimpArgs false
set_option maxRecDepth 8000
set_option maxHeartbeats 4000000
namespace Go.Proofs.YtnjdpnfglgcjcaaGreat
open Go Go.FH Go.RowKit
theorem RP(t:List Nod)(hb:t.length<=1000000):PC Tryz.prog 323 [.agg [.sl 240 false (rows aP t)]] (.int .i64 (mG t)):=by
 refine PC.fact 21 sT (by simp) puA puA ?_;unfold lB;refine bd ?_;obtain⟨R,hR⟩:∃R,R=mG t:=⟨_,rfl⟩
 rw[<-hR];unfold mG at hR;by_cases q0:t.length=0
 ·have e0:((t.length:Int)==0)=true:=by simp[q0]
  rw[if_pos (.inl q0)]at hR;subst hR;refine aE e0 ?_;exact af
 have e0:((t.length:Int)==0)=false:=by simp;intro h;exact q0 (by simp[h])
 by_cases q1:4096<t.length
 ·have e1:decide ((t.length:Int) > 4096)=true:=ak (by omega);have e1':decide ((4096:Int)<(t.length:Int))=true:=ak (by omega);rw[if_pos (.inr q1)]at hR;subst hR;refine fK e0 e1 e1' ?_;exact af
 have e1:decide ((t.length:Int) > 4096)=false:=au (by omega);have e1':decide ((4096:Int)<(t.length:Int))=false:=au (by omega);rw[if_neg (fun h=>h.elim q0 q1)]at hR;refine xt e0 e1 e1' ?_;refine ay (fun i:Nat=>[(20,.int .i64 i)]) (fun i=>[.var [.sl 240 false (rows aP t)],.map (mrt ((t.take i).map (·.blk.root)))]) (fun i=>t.length-i) (fun i=>i<=t.length/\R=frE (xN t) (t.length-i) i) 0 ⟨Nat.zero_le _,hR⟩ ?_ ?_
 ·rw[List.take_zero,List.map_nil,show mrt []=[]from rfl];exact adk [] [0,1]
 clear hR e0 e1 e1';rintro i ⟨hi,hn⟩;refine dM ?_;by_cases h1:i<t.length
 ·have e1:=inT h1
  have hw:=ah h1 (by omega);have hgd:(rows aP t).getD i []=aP (nod t i):=aM (f:=aP) jm h1;have c1:=FI (nod t i).status
  have hps:(t.take (i+1)).map (·.blk.root)=(t.take i).map (·.blk.root)++[(nod t i).blk.root]:=by
   rw[List.take_add_one,List.getElem?_eq_getElem h1,List.map_append];unfold nod;rw[List.getD_eq_getElem?_getD,List.getElem?_eq_getElem h1];rfl
  have ht:∀ {v:Int},xN t i=v->v≠0->R=v:=fun h0 h2=>by rw[hn,vV h1 (by rw[h0];exact h2),h0]
  have hf:xN t i=0->R=frE (xN t) (t.length-(i+1)) (i+1):=fun h0=>by rw[hn,vU h1 h0]
  clear hn;have hU:∀k:Nat,(nod t i).up=k->k<i->(rows aP t).getD (nod t i).up.toNat []=aP (nod t (nod t i).up.toNat):=fun k hk hki=>aM (f:=aP) jm (by omega)
  unfold xN at ht hf;generalize (t.take i).map (·.blk.root)=m at *;generalize hx:nod t i=x at *;refine bg e1 ?_;refine ap hgd ?_;refine ai c1 ?_;by_cases q1:0<=x.status/\x.status<=2
  case neg=>
   have k1:(decide (0<=x.status)&&decide (x.status<=2))=false:=by rw[Bool.and_eq_false_iff,decide_eq_false_iff_not,decide_eq_false_iff_not];omega
   obtain rfl:=ht (if_pos q1) (by decide);refine aE k1 ?_;exact af
  have k1:(decide (0<=x.status)&&decide (x.status<=2))=true:=by simp[q1]
  rw[if_neg (fun h=>h q1)]at ht hf;by_cases qi:i=0
  ·subst qi
   by_cases q2:x.up=-1
   case neg=>
    have k2:(x.up != -1)=true:=by simp[q2]
    obtain rfl:=ht (if_pos ⟨rfl,q2⟩) (by decide);refine cn k1 k2 ?_;exact af
   have k2:(x.up != -1)=false:=by simp[q2]
   rw[if_neg (fun h=>h.2 q2),if_neg (by omega)]at ht hf;refine dD k1 k2 ?_;by_cases q3:x.blk.root∈m
   ·obtain⟨j,j1,j2,j3⟩:=uk q3;obtain rfl:=ht (if_pos q3) (by decide);refine cn j1 j2 ?_;exact af
   have j1:=AA q3;rw[if_neg q3]at ht hf;refine aQ j1 ?_;refine bg j1 ?_;refine ap hw ?_;refine⟨0+1,⟨h1,hf (if_pos rfl)⟩,by omega,?_⟩;rw[hps];exact adk [] [0,1]
  ·have ki:((i:Int)==0)=false:=by simp;omega
   have kp:decide ((i:Int) > 0)=true:=ak (by omega);have kp':decide ((0:Int)<(i:Int))=true:=ak (by omega);rw[if_neg (fun h=>qi h.1)]at ht hf;by_cases q2:x.up<0
   ·have k2:=ak q2;obtain rfl:=ht (if_pos ⟨by omega,.inl q2⟩) (by decide);refine eO k1 ki kp kp' k2 ?_;refine abX ?_;exact af
   have k2:=au q2;by_cases q3:(i:Int)<=x.up
   ·have k3:decide (x.up ≥ (i:Int))=true:=ak q3;have k3':decide ((i:Int)<=x.up)=true:=ak q3;obtain rfl:=ht (if_pos ⟨by omega,.inr q3⟩) (by decide);refine jN k1 ki kp kp' k2 k3 k3' ?_;refine abX ?_;exact af
   have k3:decide (x.up ≥ (i:Int))=false:=au q3;have k3':decide ((i:Int)<=x.up)=false:=au q3;rw[if_neg (fun h=>h.2.elim q2 q3)]at ht hf;have hU:=hU x.up.toNat (by omega) (by omega);have hub:decide (x.up<((t.length:Nat):Int))=true:=ak (by omega);generalize nod t x.up.toNat=y at *;refine jN k1 ki kp kp' k2 k3 k3' ?_;refine aB ?_;by_cases q4:x.blk.root∈m
   ·obtain⟨j,j1,j2,j3⟩:=uk q4;obtain rfl:=ht (if_pos q4) (by decide);refine cn j1 j2 ?_;exact af
   have j1:=AA q4;rw[if_neg q4,if_neg qi]at ht hf;refine aQ j1 ?_;refine dD j1 ki ?_;refine ap hU ?_;by_cases q5:x.blk.parent=y.blk.root
   case neg=>
    have k5:(decide (x.blk.parent=y.blk.root) != true)=true:=by simp[q5]
    obtain rfl:=ht (if_pos q5) (by decide);repeat(first|refine bU ?_|simp only[go_sem,k5,au q5])
    refine abX ?_;exact af
   rw[if_neg (fun h=>h q5)]at ht hf;repeat(first|refine bU ?_|simp only[go_sem,ak q5])
   refine aB ?_;refine ap hU ?_;by_cases q6:x.blk.slot<=y.blk.slot
   ·have k6:=ak q6;obtain rfl:=ht (if_pos q6) (by decide);refine aE k6 ?_;exact af
   have k6:=au q6;rw[if_neg q6]at ht hf;refine aQ k6 ?_;refine ap hw ?_;refine⟨i+1,⟨h1,hf rfl⟩,by omega,?_⟩;rw[hps];exact adk [] [0,1]
 ·obtain rfl:i=t.length:=by omega
  have e1:=inF (t.length);rw[vT]at hn;subst hn;refine aD e1 ?_;exact af
theorem OZ(t:List Nod)(hb:t.length<=1000000):PC Tryz.prog 230 [.agg [.sl 240 false (rows aP t)]] (.int .i64 (statV t)):=by
 refine PC.fact 17 yO (by simp) puA puA ?_;unfold oL;refine bd ?_;have c1:=RP t hb;obtain⟨R,hR⟩:∃R,R=statV t:=⟨_,rfl⟩
 rw[<-hR];unfold statV at hR;have hok:=fun h=>zy (t:=t) h
 generalize mG t=V at *;refine gon ?_;refine ai c1 ?_;by_cases q1:V=0
 case neg=>
  have e1:(V != 0)=true:=by simp[q1]
  rw[if_pos q1]at hR;subst hR;refine aE e1 ?_;exact af
 have e1:(V != 0)=false:=by simp[q1]
 rw[if_neg (by simp[q1])]at hR;obtain⟨ht,hl⟩:=hok q1;have hp:=ht.pos;have hb1:decide ((1:Int)<=(t.length:Int))=true:=ak (by omega);have hdl:(rows aP t).drop 1=rows aP (t.drop 1):=by unfold rows;rw[List.map_drop]
 have hln:(t.drop 1).length=t.length-1:=by simp
 rw[<-hln]at hR;have h1le:(1:Int)<=(t.length:Int):=by omega
 have htk:List.take (t.length-1) (rows aP (t.drop 1))=rows aP (t.drop 1):=List.take_of_length_le (by simp);refine aQ e1 ?_;refine aO hdl htk ?_;refine ay (fun i:Nat=>[(16,.int .i64 i)]) (fun i=>[.var [.sl 240 false (rows aP t)]]) (fun i=>(t.drop 1).length-i) (fun i=>i<=(t.drop 1).length/\R=frE (C9 t) ((t.drop 1).length-i) i) 0 ⟨Nat.zero_le _,hR⟩ ?_ ?_
 ·exact adk [] [0]
 clear hR e1 hb1;rintro i ⟨hi,hn⟩;refine dM ?_;by_cases h1:i<(t.drop 1).length
 ·have e1:=inT h1
  have hw:=ah h1 (by omega)
  have hgd:(rows aP (t.drop 1)).getD i []=aP (nod t (i+1)):=by
   rw[aM (f:=aP) jm h1];unfold nod;rw[List.getD_eq_getElem?_getD,List.getD_eq_getElem?_getD,List.getElem?_drop,Nat.add_comm]
  have hf0:∀ {v:Int},C9 t i=v->v≠0->R=v:=fun h0 h2=>by rw[hn,vV h1 (by rw[h0];exact h2),h0]
  have hf:C9 t i=0->R=frE (C9 t) ((t.drop 1).length-(i+1)) (i+1):=fun h0=>by rw[hn,vU h1 h0]
  clear hn;obtain⟨u0,u1⟩:=ht.ok (i+1) (by omega) (by omega);have hU:(rows aP t).getD (nod t (i+1)).up.toNat []=aP (nod t (nod t (i+1)).up.toNat):=aM (f:=aP) jm (by omega);have hub:decide ((nod t (i+1)).up<((t.length:Nat):Int))=true:=ak (by omega);have hun:decide (0<=(nod t (i+1)).up)=true:=ak u0;unfold C9 at hf0 hf;generalize nod t (i+1)=x at *;generalize nod t x.up.toNat=y at *;refine bg e1 ?_;refine aO hgd hU ?_;by_cases q1:x.status=1
  ·have k1:(x.status==1)=true:=by simp[q1]
   by_cases q2:y.status=1
   ·have k2:(y.status != 1)=false:=by simp[q2]
    have k3:(y.status==2)=false:=by simp[q2]
    refine vW k1 k2 k3 ?_;refine ap hw ?_;refine⟨i+1,⟨h1,hf (if_neg (by rintro (h|h);exact h.2 q2;have:=h.1;omega))⟩,by omega,?_⟩;exact adk [] [0]
   ·have k2:(y.status != 1)=true:=by simp[q2]
    obtain rfl:=hf0 (if_pos (.inl ⟨q1,q2⟩)) (by decide);refine cn k1 k2 ?_;exact af
  ·have k1:(x.status==1)=false:=by simp[q1]
   by_cases q2:y.status=2
   ·have k2:(y.status==2)=true:=by simp[q2]
    by_cases q3:x.status=2
    ·have k3:(x.status != 2)=false:=by simp[q3]
     refine vW k1 k2 k3 ?_;refine ap hw ?_;refine⟨i+1,⟨h1,hf (if_neg (by rintro (h|h);exact q1 h.1;exact h.2 q3))⟩,by omega,?_⟩;exact adk [] [0]
    ·have k3:(x.status != 2)=true:=by simp[q3]
     obtain rfl:=hf0 (if_pos (.inr ⟨q2,q3⟩)) (by decide);refine fK k1 k2 k3 ?_;exact af
   ·have k2:(y.status==2)=false:=by simp[q2]
    refine dD k1 k2 ?_;refine ap hw ?_;refine⟨i+1,⟨h1,hf (if_neg (by rintro (h|h);exact q1 h.1;exact q2 h.1))⟩,by omega,?_⟩;exact adk [] [0]
 ·obtain rfl:i=(t.drop 1).length:=by omega
  have e1:=inF ((t.drop 1).length);rw[vT]at hn;subst hn;refine aD e1 ?_;exact af
theorem tL(s:am)(n:Int):PC Tryz.prog 324 [.agg (aw s.a),.int .u64 n] (.int .u64 (fC n s.cfg.spe).1):=by
 refine PC.fact 7 HE (by simp) puA puA ?_;unfold vN;refine bd ?_;have c1:=kX n s.cfg.spe;refine gon ?_;refine acT c1 ?_;exact af
def CT(s:am):Bool:=
 (decide ((nod s.nodes 0).blk.root=s.f.rt)&&(decide (0<=aj s.nodes s.j.rt)&&(decide ((nod s.nodes (aj s.nodes s.j.rt).toNat).status≠2)&&decide (s.f.ep<=s.j.ep)))) &&
 ((decide (s.boost=rt0) || decide (0<=aj s.nodes s.boost))&&(decide (s.now<=1099511627776)&&decide (s.j.ep<=(fC s.now s.cfg.spe).1)))&&(decide ((bD s.f.ep s.cfg.spe).2=0)&&decide ((nod s.nodes 0).blk.slot<=(bD s.f.ep s.cfg.spe).1))
def kI(s:am)(i:Nat):Int:=if 0<i/\0<=gh (tab s.tabs (i-1)).cp (tab s.tabs i).cp then 1 else if fJ (tab s.tabs i) s.cfg.bals.length≠0 then 1 else 0
def pB(s:am):Bool:=!(cE (fun i=>!(vot s.latest i).has&&decide (vot s.latest i≠fg)) s.latest.length).isSome&&(decide ((s.latest.length:Int)=s.cfg.bals.length)&&(decide ((s.eqv.length:Int)=0) || decide (dr s.eqv s.cfg.bals.length=0)))
def tH(s:am)(b:Blk):Bool:=decide (b.fin.ep<=b.just.ep)&&decide (b.just.ep<=b.pul.j.ep)&&decide (b.fin.ep<=b.pul.f.ep)&&decide (b.pul.f.ep<=b.pul.j.ep)&&decide (b.pul.j.ep<=(fC b.slot s.cfg.spe).1)
def pv(s:am):Bool:=!(cE (fun i=>decide (s.now<(nod s.nodes i).blk.slot) || !tH s (nod s.nodes i).blk) s.nodes.length).isSome
theorem Vp(s:am)(hb:s.nodes.length<=1000000)(h0:0<s.nodes.length)(hf:U64 s.f.ep):PC Tryz.prog 231 [.agg (aw s.a)] (.bool (CT s)):=by
 refine PC.fact 6 rO (by simp) puA puA ?_;unfold kN;refine bd ?_;obtain⟨R,hR⟩:∃R,R=CT s:=⟨_,rfl⟩
 rw[<-hR];unfold CT at hR;have c1:=eD s.nodes s.j.rt hb;have c2:=jk s.boost;have c3:=eD s.nodes s.boost hb;have c4:=tL s s.now;have c5:=iw (e:=s.f.ep) (p:=s.cfg.spe) hf.1 hf.2;have b1:=dX s.nodes s.j.rt;have hg0:(rows aP s.nodes).getD 0 []=aP (nod s.nodes 0):=aM (f:=aP) jm h0;have hgi:0<=aj s.nodes s.j.rt->(rows aP s.nodes).getD (aj s.nodes s.j.rt).toNat []=aP (nod s.nodes (aj s.nodes s.j.rt).toNat):=fun h=>aM (f:=aP) jm (by omega)
 have hb0:decide ((0:Int)<((s.nodes.length:Nat):Int))=true:=ak (by omega);generalize aj s.nodes s.j.rt=I at *;generalize aj s.nodes s.boost=B at *;generalize (fC s.now s.cfg.spe).1=E at *;generalize bD s.f.ep s.cfg.spe=S at *;generalize nod s.nodes I.toNat=x at *;generalize nod s.nodes 0=y at *;obtain⟨S1,S2⟩:=S;dsimp only at c5 hR;refine gon ?_;refine ai c1 ?_;by_cases q1:y.blk.root=s.f.rt
 case neg=>
  have e1:=au q1;obtain rfl:R=false:=by rw[hR];simp[q1]
  refine cn hg0 e1 ?_;exact af
 have e1:=ak q1;by_cases q2:I<0
 ·have e2:=ak q2;obtain rfl:R=false:=by rw[hR,au (show ¬0<=I by omega)];simp
  refine fK hg0 e1 e2 ?_;exact af
 have e2:=au q2;have hgi:=hgi (by omega);by_cases q3:x.status=2
 ·have e3:(x.status==2)=true:=by simp[q3]
  obtain rfl:R=false:=by rw[hR];simp[q3]
  refine eO hg0 e1 e2 hgi e3 ?_;refine abX ?_;exact af
 have e3:(x.status==2)=false:=by simp[q3]
 by_cases q4:s.j.ep<s.f.ep
 ·have e4:=ak q4;obtain rfl:R=false:=by rw[hR,au (show ¬s.f.ep<=s.j.ep by omega)];simp
  refine eI hg0 e1 e2 hgi e3 e4 ?_;refine abX ?_;exact af
 have e4:=au q4
 have hR:R=(((decide (s.boost=rt0) || decide (0<=B))&&(decide (s.now<=1099511627776)&&decide (s.j.ep<=E)))&&(decide (S2=0)&&decide (y.blk.slot<=S1))):=by
  rw[hR,ak (show s.f.ep<=s.j.ep by omega),ak (show 0<=I by omega),ak q1,ak (p:=x.status≠2) q3];simp only[Bool.true_and]
 refine eI hg0 e1 e2 hgi e3 e4 ?_;refine abW ?_;refine aC (c2) ?_
 have tail:(s.boost=rt0\/0<=B)->R=((decide (s.now<=1099511627776)&&decide (s.j.ep<=E))&&(decide (S2=0)&&decide (y.blk.slot<=S1))):=fun h=>by
  rw[hR];have:(decide (s.boost=rt0) || decide (0<=B))=true:=by simpa using h
  rw[this,Bool.true_and]
 have now1:decide (s.now > 1099511627776)=decide ((1099511627776:Int)<s.now):=rfl;have jep1:decide (s.j.ep > E)=decide (E<s.j.ep):=rfl;by_cases q5:s.boost=rt0
 ·have e5:=ak q5
  have hR:=tail (.inl q5);by_cases q7:1099511627776<s.now
  ·have e7:=ak q7;obtain rfl:R=false:=by rw[hR,au (show ¬s.now<=1099511627776 by omega)];simp
   refine fK e5 now1 e7 ?_;exact af
  have e7:=au q7;rw[ak (show s.now<=1099511627776 by omega),Bool.true_and]at hR;refine cZ e5 now1 e7 ?_;refine aC (c4) ?_;by_cases q8:E<s.j.ep
  ·have e8:=ak q8;obtain rfl:R=false:=by rw[hR,au (show ¬s.j.ep<=E by omega)];simp
   refine cn jep1 e8 ?_;exact af
  have e8:=au q8;rw[ak (show s.j.ep<=E by omega),Bool.true_and]at hR;refine eC jep1 e8 ?_;refine ai c5 ?_;by_cases q9:S2=0
  ·have e9:(S2==0)=true:=by simp[q9]
   rw[ak q9,Bool.true_and]at hR;subst hR;refine aO e9 hg0 ?_;exact af
  ·have e9:(S2==0)=false:=by simp[q9]
   rw[au q9,Bool.false_and]at hR;subst hR;refine aO e9 hg0 ?_;exact af
 ·have e5:=au q5
  refine ap e5 ?_;refine aC (c3) ?_;by_cases q6:B<0
  ·have e6:=ak q6;obtain rfl:R=false:=by rw[hR,au q5,au (show ¬0<=B by omega)];simp
   refine aE e6 ?_;exact af
  have e6:=au q6;have hR:=tail (.inr (by omega));by_cases q7:1099511627776<s.now
  ·have e7:=ak q7;obtain rfl:R=false:=by rw[hR,au (show ¬s.now<=1099511627776 by omega)];simp
   refine fK e6 now1 e7 ?_;exact af
  have e7:=au q7;rw[ak (show s.now<=1099511627776 by omega),Bool.true_and]at hR;refine cZ e6 now1 e7 ?_;refine aC (c4) ?_;by_cases q8:E<s.j.ep
  ·have e8:=ak q8;obtain rfl:R=false:=by rw[hR,au (show ¬s.j.ep<=E by omega)];simp
   refine cn jep1 e8 ?_;exact af
  have e8:=au q8;rw[ak (show s.j.ep<=E by omega),Bool.true_and]at hR;refine eC jep1 e8 ?_;refine ai c5 ?_;by_cases q9:S2=0
  ·have e9:(S2==0)=true:=by simp[q9]
   rw[ak q9,Bool.true_and]at hR;subst hR;refine aO e9 hg0 ?_;exact af
  ·have e9:(S2==0)=false:=by simp[q9]
   rw[au q9,Bool.false_and]at hR;subst hR;refine aO e9 hg0 ?_;exact af
end Go.Proofs.YtnjdpnfglgcjcaaGreat
