/-
 My texts Sa, Sb, joined.
-/
import Derived.Test.YtnjdpnfglgcjcaaGreatV4
import Derived.Test.YtnjdpnfglgcjcaaGreatV5
import Derived.Test.YtnjdpnfglgcjcaaGreatR1
import Derived.Test.YtnjdpnfglgcjcaaGreatT7
set_option linter.unusedVariables false
set_option linter.unusedSimpArgs false
set_option maxRecDepth 8000
set_option maxHeartbeats 4000000
namespace Go.Proofs.YtnjdpnfglgcjcaaGreat
open Go Go.FH Go.RowKit
theorem tc(t:List Nod)(r:Rt):0<=aj t r↔r∈t.map (·.blk.root):=by
 constructor
 ·intro h;obtain⟨h1,h2⟩:=dU h;rw[List.mem_map];refine⟨nod t (aj t r).toNat,?_,h2⟩;unfold nod;rw[List.getD_eq_getElem?_getD,List.getElem?_eq_getElem h1];exact List.getElem_mem h1
 ·intro h;obtain⟨n,h1,h2⟩:=List.mem_map.1 h;obtain⟨k,hk,he⟩:=List.getElem_of_mem h1;refine jL (k:=k) hk ?_;unfold nod;rw[List.getD_eq_getElem?_getD,List.getElem?_eq_getElem hk];show t[k].blk.root=r
  rw[he];exact h2
theorem R3(t:List Nod)(hb:t.length<=1000000):PC Tryz.prog 239 [.agg [.sl 240 false (rows aP t)]] (.int .i64 (mG t)):=by
 refine PC.fact 5 zT (by simp) puA puA ?_;unfold pL;refine bd ?_;obtain⟨R,hR⟩:∃R,R=mG t:=⟨_,rfl⟩
 rw[<-hR];unfold mG at hR;by_cases q0:t.length=0
 ·have e0:((t.length:Int)==0)=true:=by simp[q0]
  rw[if_pos (.inl q0)]at hR;subst hR;refine aE e0 ?_;exact af
 have e0:((t.length:Int)==0)=false:=by simp;intro h;exact q0 (by simp[h])
 by_cases q1:4096<t.length
 ·have e1:decide ((t.length:Int) > 4096)=true:=ak (by omega);have e1':decide ((4096:Int)<(t.length:Int))=true:=ak (by omega);rw[if_pos (.inr q1)]at hR;subst hR;refine fK e0 e1 e1' ?_;exact af
 have e1:decide ((t.length:Int) > 4096)=false:=au (by omega);have e1':decide ((4096:Int)<(t.length:Int))=false:=au (by omega);rw[if_neg (fun h=>h.elim q0 q1)]at hR;refine xt e0 e1 e1' ?_;refine ay (fun i:Nat=>[(3,.int .i64 i)]) (fun i=>[.var [.sl 240 false (rows aP t)]]) (fun i=>t.length-i) (fun i=>i<=t.length/\R=frE (xN t) (t.length-i) i) 0 ⟨Nat.zero_le _,hR⟩ ?_ ?_
 ·exact adk [] [0]
 clear hR e0 e1 e1';rintro i ⟨hi,hn⟩;refine dM ?_;by_cases h1:i<t.length
 ·have e1:=inT h1
  have hw:=ah h1 (by omega);have hgd:(rows aP t).getD i []=aP (nod t i):=aM (f:=aP) jm h1;have c1:=I9 (nod t i).status;have c2:=cm (t.take i) (nod t i).blk.root (by rw[List.length_take];omega);have htk:(rows aP t).take i=rows aP (t.take i):=qm _ _ _;have ht:∀ {v:Int},xN t i=v->v≠0->R=v:=fun h0 h2=>by rw[hn,vV h1 (by rw[h0];exact h2),h0]
  have hf:xN t i=0->R=frE (xN t) (t.length-(i+1)) (i+1):=fun h0=>by rw[hn,vU h1 h0]
  clear hn;have hU:∀k:Nat,(nod t i).up=k->k<i->(rows aP t).getD (nod t i).up.toNat []=aP (nod t (nod t i).up.toNat):=fun k hk hki=>aM (f:=aP) jm (by omega)
  obtain⟨G,hG⟩:∃G,G=frE (xN t) (t.length-(i+1)) (i+1):=⟨_,rfl⟩
  rw[<-hG]at hf;unfold xN at ht hf;simp only[<-tc]at ht hf;have hile:(i:Int)<=((t.length:Nat):Int):=by omega
  generalize hx:nod t i=x at *;generalize aj (t.take i) x.blk.root=I at *;unfold nA at c2;generalize htk0:rows aP (t.take i)=tk at *;refine bg e1 ?_;refine ap hgd ?_;refine ai c1 ?_;by_cases q1:0<=x.status/\x.status<=2
  case neg=>
   have k1:(decide (0<=x.status)&&decide (x.status<=2))=false:=by rw[Bool.and_eq_false_iff,decide_eq_false_iff_not,decide_eq_false_iff_not];omega
   obtain rfl:=ht (if_pos q1) (by decide);refine aE k1 ?_;exact af
  have k1:(decide (0<=x.status)&&decide (x.status<=2))=true:=by simp[q1]
  rw[if_neg (fun h=>h q1)]at ht hf;by_cases qi:i=0
  ·subst qi
   obtain rfl:[]=tk:=htk0;by_cases q2:x.up=-1
   case neg=>
    have k2:(x.up != -1)=true:=by simp[q2]
    obtain rfl:=ht (if_pos ⟨rfl,q2⟩) (by decide);refine cn k1 k2 ?_;exact af
   have k2:(x.up != -1)=false:=by simp[q2]
   rw[if_neg (fun h=>h.2 q2),if_neg (by omega)]at ht hf;refine dD k1 k2 ?_;refine ap htk ?_;refine aC (c2) ?_;by_cases q3:0<=I
   ·have k3:decide (I ≥ 0)=true:=ak q3;have k3':decide (0<=I)=true:=ak q3;obtain rfl:=ht (if_pos q3) (by decide);refine cn k3 k3' ?_;exact af
   have k3:decide (I ≥ 0)=false:=au q3;have k3':decide (0<=I)=false:=au q3;rw[if_neg q3]at ht hf;refine eC k3 k3' ?_;refine aB ?_;refine dk ?_;refine ap hw ?_;refine⟨0+1,⟨h1,(hf (if_pos rfl)).trans hG⟩,by omega,?_⟩;exact adk [] [0]
  ·have ki:((i:Int)==0)=false:=by simp;omega
   have kp:decide ((i:Int) > 0)=true:=ak (by omega);have kp':decide ((0:Int)<(i:Int))=true:=ak (by omega);rw[if_neg (fun h=>qi h.1)]at ht hf;by_cases q2:x.up<0
   ·have k2:=ak q2;obtain rfl:=ht (if_pos ⟨by omega,.inl q2⟩) (by decide);refine eO k1 ki kp kp' k2 ?_;refine abX ?_;exact af
   have k2:=au q2;by_cases q3:(i:Int)<=x.up
   ·have k3:decide (x.up ≥ (i:Int))=true:=ak q3;have k3':decide ((i:Int)<=x.up)=true:=ak q3;obtain rfl:=ht (if_pos ⟨by omega,.inr q3⟩) (by decide);refine jN k1 ki kp kp' k2 k3 k3' ?_;refine abX ?_;exact af
   have k3:decide (x.up ≥ (i:Int))=false:=au q3;have k3':decide ((i:Int)<=x.up)=false:=au q3;rw[if_neg (fun h=>h.2.elim q2 q3)]at ht hf;have hU:=hU x.up.toNat (by omega) (by omega);have hub:decide (x.up<((t.length:Nat):Int))=true:=ak (by omega);have hu0:0<=x.up:=by omega
   have hu1:x.up<((t.length:Nat):Int):=by omega
   generalize nod t x.up.toNat=y at *;refine jN k1 ki kp kp' k2 k3 k3' ?_;refine aB ?_;refine ap htk ?_;refine aC (c2) ?_;by_cases q4:0<=I
   ·have k4:decide (I ≥ 0)=true:=ak q4;have k4':decide (0<=I)=true:=ak q4;obtain rfl:=ht (if_pos q4) (by decide);refine cn k4 k4' ?_;exact af
   have k4:decide (I ≥ 0)=false:=au q4;have k4':decide (0<=I)=false:=au q4;rw[if_neg q4,if_neg qi]at ht hf;refine dD k4 k4' ?_;refine cZ kp kp' hU ?_;by_cases q5:x.blk.parent=y.blk.root
   case neg=>
    have k5:(decide (x.blk.parent=y.blk.root) != true)=true:=by simp[q5]
    obtain rfl:=ht (if_pos q5) (by decide);repeat(first|refine bU ?_|simp only[go_sem,k5,au q5])
    refine abX ?_;exact af
   rw[if_neg (fun h=>h q5)]at ht hf;repeat(first|refine bU ?_|simp only[go_sem,ak q5])
   refine aB ?_;refine cZ kp kp' hU ?_;by_cases q6:x.blk.slot<=y.blk.slot
   ·have k6:=ak q6;obtain rfl:=ht (if_pos q6) (by decide);refine aE k6 ?_;exact af
   have k6:=au q6;rw[if_neg q6]at ht hf;refine aQ k6 ?_;refine ap hw ?_;refine⟨i+1,⟨h1,(hf rfl).trans hG⟩,by omega,?_⟩;exact adk [] [0]
 ·obtain rfl:i=t.length:=by omega
  have e1:=inF (t.length);rw[vT]at hn;subst hn;refine aD e1 ?_;exact af
theorem Mh(t:List Nod)(hb:t.length<=1000000):PC Tryz.prog 109 [.agg [.sl 240 false (rows aP t)]] (.int .i64 (statV t)):=by
 refine PC.fact 7 Ez (by simp) puA puA ?_;unfold sp;refine bd ?_;have c1:=R3 t hb;obtain⟨R,hR⟩:∃R,R=statV t:=⟨_,rfl⟩
 rw[<-hR];unfold statV at hR;have hok:=fun h=>zy (t:=t) h
 generalize mG t=V at *;refine gon ?_;refine ai c1 ?_;by_cases q1:V=0
 case neg=>
  have e1:(V != 0)=true:=by simp[q1]
  rw[if_pos q1]at hR;subst hR;refine aE e1 ?_;exact af
 have e1:(V != 0)=false:=by simp[q1]
 rw[if_neg (by simp[q1])]at hR;obtain⟨ht,hl⟩:=hok q1;have hp:=ht.pos;refine aD e1 ?_;refine ay (fun i:Nat=>[(4,.int .i64 i)]) (fun i=>[.var [.sl 240 false (rows aP t)]]) (fun i=>t.length-i) (fun i=>1<=i/\i<=t.length/\R=frE (C9 t) (t.length-1-(i-1)) (i-1)) 1 ⟨Nat.le_refl _,hp,hR⟩ ?_ ?_
 ·exact adk [] [0]
 clear hR e1;rintro i ⟨h0,hi,hn⟩;refine dM ?_;by_cases h1:i<t.length
 ·have e1:=inT h1
  have hw:=ah h1 (by omega);obtain⟨k,rfl⟩:∃k,i=k+1:=⟨i-1,by omega⟩
  have hk:k+1-1=k:=rfl;rw[hk]at hn;have hgd:(rows aP t).getD (k+1) []=aP (nod t (k+1)):=aM (f:=aP) jm h1;have hf0:∀ {v:Int},C9 t k=v->v≠0->R=v:=fun h0 h2=>by rw[hn,vV (by omega) (by rw[h0];exact h2),h0]
  have hf:C9 t k=0->R=frE (C9 t) (t.length-1-(k+1)) (k+1):=fun h0=>by rw[hn,vU (by omega) h0]
  clear hn;obtain⟨u0,u1⟩:=ht.ok (k+1) (by omega) (by omega);have hU:(rows aP t).getD (nod t (k+1)).up.toNat []=aP (nod t (nod t (k+1)).up.toNat):=aM (f:=aP) jm (by omega);have hub:decide ((nod t (k+1)).up<((t.length:Nat):Int))=true:=ak (by omega);have hun:decide (0<=(nod t (k+1)).up)=true:=ak u0;have hu1:(nod t (k+1)).up<((t.length:Nat):Int):=by omega
  have hix:((k+1:Nat):Int)<((t.length:Nat):Int):=by omega
  unfold C9 at hf0 hf;generalize nod t (k+1)=x at *;generalize nod t x.up.toNat=y at *;generalize hK:k+1=K at *;refine bg e1 ?_;refine aO hgd hU ?_;by_cases q1:x.status=1
  ·have k1:(x.status==1)=true:=by simp[q1]
   by_cases q2:y.status=1
   ·have k2:(y.status != 1)=false:=by simp[q2]
    have k3:(y.status==2)=false:=by simp[q2]
    refine vW k1 k2 k3 ?_;refine ap hw ?_;refine⟨K+1,⟨by omega,h1,hf (if_neg (by rintro (h|h);exact h.2 q2;have:=h.1;omega))⟩,by omega,?_⟩;exact adk [] [0]
   ·have k2:(y.status != 1)=true:=by simp[q2]
    obtain rfl:=hf0 (if_pos (.inl ⟨q1,q2⟩)) (by decide);refine cn k1 k2 ?_;exact af
  ·have k1:(x.status==1)=false:=by simp[q1]
   by_cases q2:y.status=2
   ·have k2:(y.status==2)=true:=by simp[q2]
    by_cases q3:x.status=2
    ·have k3:(x.status != 2)=false:=by simp[q3]
     refine vW k1 k2 k3 ?_;refine ap hw ?_;refine⟨K+1,⟨by omega,h1,hf (if_neg (by rintro (h|h);exact q1 h.1;exact h.2 q3))⟩,by omega,?_⟩;exact adk [] [0]
    ·have k3:(x.status != 2)=true:=by simp[q3]
     obtain rfl:=hf0 (if_pos (.inr ⟨q2,q3⟩)) (by decide);refine fK k1 k2 k3 ?_;exact af
   ·have k2:(y.status==2)=false:=by simp[q2]
    refine dD k1 k2 ?_;refine ap hw ?_;refine⟨K+1,⟨by omega,h1,hf (if_neg (by rintro (h|h);exact q1 h.1;exact q2 h.1))⟩,by omega,?_⟩;exact adk [] [0]
 ·obtain rfl:i=t.length:=by omega
  have e1:=inF (t.length);rw[vT]at hn;subst hn;refine aD e1 ?_;exact af
theorem Pf(latest:List Vot)(eqv:List Int)(n:Nat)(hl:latest.length<=1000000)(he:eqv.length<=1000000):PC Tryz.prog 115 [.agg [.sl 34 false (rows bM latest),.sl 1 false (ax .i64 eqv)],.int .i64 n]
 (.bool (decide (latest.length=n)&&(!(cE (fun i=>!(vot latest i).has&&decide (vot latest i≠fg)) latest.length).isSome&&(decide (eqv.length=0) || decide (dr eqv n=0))))):=by
 refine PC.fact 6 yN (by simp) puA puA ?_;unfold oK;refine bd ?_;have c1:=gp eqv false n (by omega);by_cases q0:latest.length=n
 case neg=>
  have e0:((latest.length:Int) != (n:Int))=true:=by simp;omega
  rw[au q0,Bool.false_and];refine aE e0 ?_;exact af
 have e0:((latest.length:Int) != (n:Int))=false:=by simp;omega
 rw[ak q0,Bool.true_and];obtain⟨R,hR⟩:∃R,R=cE (fun i=>!(vot latest i).has&&decide (vot latest i≠fg)) latest.length:=⟨_,rfl⟩
 rw[<-hR];have hR:R=fw (fun i=>!(vot latest i).has&&decide (vot latest i≠fg)) (latest.length-0) 0:=hR;generalize dr eqv n=V at *;refine aD e0 ?_;refine ay (fun i:Nat=>[(5,.int .i64 i)]) (fun i=>[.var [.sl 34 false (rows bM latest),.sl 1 false (ax .i64 eqv)]]) (fun i=>latest.length-i) (fun i=>i<=latest.length/\R=fw (fun i=>!(vot latest i).has&&decide (vot latest i≠fg)) (latest.length-i) i) 0 ⟨Nat.zero_le _,hR⟩ ?_ ?_
 ·exact adk [] [0]
 clear hR e0;rintro i ⟨hi,hn⟩;refine dM ?_;by_cases h1:i<latest.length
 ·have e1:=inT h1
  have hw:=ah h1 (by omega);have hgd:(rows bM latest).getD i []=bM (vot latest i):=aM (f:=bM) fg h1;have ht:(!(vot latest i).has&&decide (vot latest i≠fg))=true->R=some i:=fun h=>by rw[hn,f9 h1 h]
  have hf:(!(vot latest i).has&&decide (vot latest i≠fg))=false->R=fw (fun i=>!(vot latest i).has&&decide (vot latest i≠fg)) (latest.length-(i+1)) (i+1):=fun h=>by rw[hn,fW h1 h]
  clear hn;have hv0:bM fg=bM ⟨false,0,rt0⟩:=rfl;generalize vot latest i=x at *;refine bg e1 ?_;refine ap hgd ?_;by_cases q1:x.has=true
  ·have k1:x.has=true:=q1;rw[q1]at hf;refine dD hgd k1 ?_;refine ap hw ?_;refine⟨i+1,⟨h1,hf rfl⟩,by omega,?_⟩;exact adk [] [0]
  ·have k1:x.has=false:=by simpa using q1
   by_cases q2:x=fg
   ·have k2:decide (x=⟨false,0,rt0⟩)=true:=ak q2;rw[k1,au (fun h=>h q2)]at hf;refine vW hgd k1 k2 ?_;refine ap hw ?_;refine⟨i+1,⟨h1,hf rfl⟩,by omega,?_⟩;exact adk [] [0]
   ·have k2:decide (x=⟨false,0,rt0⟩)=false:=au q2;obtain rfl:=ht (by rw[k1,ak q2];rfl);refine fK hgd k1 k2 ?_;exact af
 ·obtain rfl:i=latest.length:=by omega
  have e1:=inF (latest.length);rw[gQ]at hn;subst hn;refine aQ e1 ?_;by_cases q3:eqv.length=0
  ·have k3:((eqv.length:Int)==0)=true:=by simp[q3]
   rw[ak q3];refine ap k3 ?_;exact af
  ·have k3:((eqv.length:Int)==0)=false:=by simp;intro h;exact q3 (by simp[h])
   rw[au q3,Bool.false_or];refine ap k3 ?_;refine acT c1 ?_;exact af
theorem Pd(s:am)(hb:s.nodes.length<=1000000)(h0:s.cfg.spe≠0):PC Tryz.prog 118 [.agg (aw s.a)] (.bool (!(cE (fun i=>decide (s.now<(nod s.nodes i).blk.slot) || !lX s (nod s.nodes i).blk) s.nodes.length).isSome)):=by
 refine PC.fact 4 Hp (by simp) puA puA ?_;unfold vA;refine bd ?_;obtain⟨R,hR⟩:∃R,R=cE (fun i=>decide (s.now<(nod s.nodes i).blk.slot) || !lX s (nod s.nodes i).blk) s.nodes.length:=⟨_,rfl⟩
 rw[<-hR];have hR:R=fw (fun i=>decide (s.now<(nod s.nodes i).blk.slot) || !lX s (nod s.nodes i).blk) (s.nodes.length-0) 0:=hR;refine gon ?_;refine ay (fun i:Nat=>[(3,.int .i64 i)]) (fun i=>[.var (aw s.a)]) (fun i=>s.nodes.length-i) (fun i=>i<=s.nodes.length/\R=fw (fun i=>decide (s.now<(nod s.nodes i).blk.slot) || !lX s (nod s.nodes i).blk) (s.nodes.length-i) i) 0 ⟨Nat.zero_le _,hR⟩ ?_ ?_
 ·exact adk [] [0]
 clear hR;rintro i ⟨hi,hn⟩;refine dM ?_;by_cases h1:i<s.nodes.length
 ·have e1:=inT h1
  have hw:=ah h1 (by omega);have hgd:(rows aP s.nodes).getD i []=aP (nod s.nodes i):=aM (f:=aP) jm h1;have c1:=zc s (nod s.nodes i).blk h0;have ht:(decide (s.now<(nod s.nodes i).blk.slot) || !lX s (nod s.nodes i).blk)=true->R=some i:=fun h=>by rw[hn,f9 h1 h]
  have hf:(decide (s.now<(nod s.nodes i).blk.slot) || !lX s (nod s.nodes i).blk)=false->R=fw (fun i=>decide (s.now<(nod s.nodes i).blk.slot) || !lX s (nod s.nodes i).blk) (s.nodes.length-(i+1)) (i+1):=fun h=>by rw[hn,fW h1 h]
  clear hn;generalize nod s.nodes i=x at *;generalize lX s x.blk=O at *;refine bg e1 ?_;by_cases q1:s.now<x.blk.slot
  ·have k1:decide (x.blk.slot > s.now)=true:=ak q1;have k1':decide (s.now<x.blk.slot)=true:=ak q1;obtain rfl:=ht (by rw[k1'];rfl);refine fK hgd k1 k1' ?_;exact af
  ·have k1:decide (x.blk.slot > s.now)=false:=au q1
   have k1':decide (s.now<x.blk.slot)=false:=au q1;rw[k1',Bool.false_or]at ht hf;refine cZ hgd k1 k1' ?_;refine aC (c1) ?_;cases O with
   | true =>
     refine dk ?_;refine ap hw ?_;refine⟨i+1,⟨h1,hf rfl⟩,by omega,?_⟩;exact adk [] [0]
   | false =>
     obtain rfl:=ht rfl;refine aV ?_;exact af
 ·obtain rfl:i=s.nodes.length:=by omega
  have e1:=inF (s.nodes.length);rw[gQ]at hn;subst hn;refine aD e1 ?_;exact af
end Go.Proofs.YtnjdpnfglgcjcaaGreat
