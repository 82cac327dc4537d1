/- Joined. -/
import Derived.Test.YtnjdpnfglgcjcaaGreatV4
import Derived.Test.YtnjdpnfglgcjcaaGreatV5
import Derived.Test.YtnjdpnfglgcjcaaGreatR1
import Derived.Test.YtnjdpnfglgcjcaaGreatT7
set_option linter.unusedVariables false
set_option linter.unusedSimpArgs false
set_option maxRecDepth 8000
set_option maxHeartbeats 4000000
namespace Go.Proofs.YtnjdpnfglgcjcaaGreat
open Go Go.FH Go.RowKit
theorem vW(t:List Nod)(r:Rt):0<=aj t r↔r∈t.map (·.blk.root):=by
 constructor
 ·intro h;obtain⟨d,c⟩:=dO h;rw[amV];refine⟨nod t (aj t r).toNat,?_,c⟩;unfold nod;grind
 ·intro h;obtain⟨n,d,c⟩:=amV.1 h;obtain⟨k,f,g⟩:=amJ d;refine lH (k:=k) f ?_;unfold nod;grind
theorem Vd(t:List Nod)(hb:t.length<=2097152):PC Tryz.prog 239 [.agg [.sl 240 false (rows bB t)]] (.int .i64 (nU t)):=by
 refine PC.fact 5 DC (by simp) puA puA ?_;unfold rx;refine bd ?_;obtain⟨R,hR⟩:∃R,R=nU t:=⟨_,rfl⟩
 rw[<-hR];unfold nU at hR;by_cases q0:t.length=0
 ·have e0:((t.length:Int)==0)=true:=by grind
  rw[al7 (.inl q0)]at hR;subst hR;repeat(first|refine bY ?_|simp_all)
  refine agF ?_;exact ai
 have e0:((t.length:Int)==0)=false:=by grind
 by_cases q1:4096<t.length
 ·have e1:decide ((t.length:Int) > 4096)=true:=au (by omega);have e1':decide ((4096:Int)<(t.length:Int))=true:=au (by omega);rw[al7 (.inr q1)]at hR;subst hR;refine fI e0 e1 e1' ?_;exact ai
 have e1:decide ((t.length:Int) > 4096)=false:=aA (by omega);have e1':decide ((4096:Int)<(t.length:Int))=false:=aA (by omega);rw[al5 (fun h=>h.elim q0 q1)]at hR;refine wg e0 e1 e1' ?_;refine az (fun i:Nat=>[(3,.int .i64 i)]) (fun i=>[.var [.sl 240 false (rows bB t)]]) (fun i=>t.length-i) (fun i=>i<=t.length/\R=frE (An t) (t.length-i) i) 0 ⟨amc _,hR⟩ ?_ ?_
 ·exact ais [] [0]
 clear hR e0 e1 e1';rintro i ⟨hi,hn⟩;refine dp ?_;by_cases h1:i<t.length
 ·have e1:=inT h1
  have hw:=af h1 (by omega);have hgd:(rows bB t).getD i []=bB (nod t i):=aS (f:=bB) gr h1;have c1:=MK (nod t i).status;have c2:=cC (t.take i) (nod t i).blk.root (by rw[amA];omega);have htk:(rows bB t).take i=rows bB (t.take i):=si _ _ _;have ht:∀ {v:Int},An t i=v->v≠0->R=v:=fun h0 h2=>by rw[hn,zg h1 (by rw[h0];exact h2),h0]
  have hf:An t i=0->R=frE (An t) (t.length-(i+1)) (i+1):=fun h0=>by rw[hn,zf h1 h0]
  clear hn;have hU:∀k:Nat,(nod t i).up=k->k<i->(rows bB t).getD (nod t i).up.toNat []=bB (nod t (nod t i).up.toNat):=fun k hk hki=>aS (f:=bB) gr (by omega)
  obtain⟨G,hG⟩:∃G,G=frE (An t) (t.length-(i+1)) (i+1):=⟨_,rfl⟩
  rw[<-hG]at hf;unfold An at ht hf;simp only[<-vW]at ht hf;have hile:(i:Int)<=((t.length:Nat):Int):=by omega
  generalize hx:nod t i=x at *;generalize aj (t.take i) x.blk.root=I at *;unfold nA at c2;generalize htk0:rows bB (t.take i)=tk at *;refine bw e1 ?_;refine ah hgd ?_;refine am c1 ?_;by_cases q1:0<=x.status/\x.status<=2
  case neg=>
   have k1:(decide (0<=x.status)&&decide (x.status<=2))=false:=by rw[akJ,ami,ami];omega
   obtain rfl:=ht (al7 q1) (by decide);refine aM k1 ?_;exact ai
  have k1:(decide (0<=x.status)&&decide (x.status<=2))=true:=by simp[q1]
  rw[al5 (fun h=>h q1)]at ht hf;by_cases qi:i=0
  ·subst qi
   obtain rfl:[]=tk:=htk0;by_cases q2:x.up=-1
   case neg=>
    have k2:(x.up != -1)=true:=by simp[q2]
    obtain rfl:=ht (al7 ⟨rfl,q2⟩) (by decide);refine cH k1 k2 ?_;exact ai
   have k2:(x.up != -1)=false:=by simp[q2]
   rw[al5 (fun h=>h.2 q2),al5 (by omega)]at ht hf;refine fp k1 k2 ?_;refine ah htk ?_;refine aK (c2) ?_;by_cases q3:0<=I
   ·have k3:decide (I ≥ 0)=true:=au q3;have k3':decide (0<=I)=true:=au q3;obtain rfl:=ht (al7 q3) (by decide);refine cH k3 k3' ?_;exact ai
   have k3:decide (I ≥ 0)=false:=aA q3;have k3':decide (0<=I)=false:=aA q3;rw[al5 q3]at ht hf;refine fU k3 k3' ?_;refine aB ?_;refine dQ ?_;refine ah hw ?_;refine⟨0+1,⟨h1,(hf (al7 rfl)).trans hG⟩,by omega,?_⟩;exact ais [] [0]
  ·have ki:((i:Int)==0)=false:=by simp;omega
   have kp:decide ((i:Int) > 0)=true:=au (by omega);have kp':decide ((0:Int)<(i:Int))=true:=au (by omega);rw[al5 (fun h=>qi h.1)]at ht hf;by_cases q2:x.up<0
   ·have k2:=au q2;obtain rfl:=ht (al7 ⟨by omega,.inl q2⟩) (by decide);refine eU k1 ki kp kp' k2 ?_;refine agF ?_;exact ai
   have k2:=aA q2;by_cases q3:(i:Int)<=x.up
   ·have k3:decide (x.up ≥ (i:Int))=true:=au q3;have k3':decide ((i:Int)<=x.up)=true:=au q3;obtain rfl:=ht (al7 ⟨by omega,.inr q3⟩) (by decide);refine jO k1 ki kp kp' k2 k3 k3' ?_;refine agF ?_;exact ai
   have k3:decide (x.up ≥ (i:Int))=false:=aA q3;have k3':decide ((i:Int)<=x.up)=false:=aA q3;rw[al5 (fun h=>h.2.elim q2 q3)]at ht hf;have hU:=hU x.up.toNat (by omega) (by omega);have hub:decide (x.up<((t.length:Nat):Int))=true:=au (by omega);have hu0:0<=x.up:=by omega
   have hu1:x.up<((t.length:Nat):Int):=by omega
   generalize nod t x.up.toNat=y at *;refine jO k1 ki kp kp' k2 k3 k3' ?_;refine aB ?_;refine ah htk ?_;refine aK (c2) ?_;by_cases q4:0<=I
   ·have k4:decide (I ≥ 0)=true:=au q4;have k4':decide (0<=I)=true:=au q4;obtain rfl:=ht (al7 q4) (by decide);refine cH k4 k4' ?_;exact ai
   have k4:decide (I ≥ 0)=false:=aA q4;have k4':decide (0<=I)=false:=aA q4;rw[al5 q4,al5 qi]at ht hf;refine fp k4 k4' ?_;refine dC kp kp' hU ?_;by_cases q5:x.blk.parent=y.blk.root
   case neg=>
    have k5:(decide (x.blk.parent=y.blk.root) != true)=true:=by simp[q5]
    obtain rfl:=ht (al7 q5) (by decide);repeat(first|refine bY ?_|simp only[go_sem,k5,aA q5])
    refine agF ?_;exact ai
   rw[al5 (fun h=>h q5)]at ht hf;repeat(first|refine bY ?_|simp only[go_sem,au q5])
   refine aB ?_;refine dC kp kp' hU ?_;by_cases q6:x.blk.slot<=y.blk.slot
   ·have k6:=au q6;obtain rfl:=ht (al7 q6) (by decide);refine aM k6 ?_;exact ai
   have k6:=aA q6;rw[al5 q6]at ht hf;refine bJ k6 ?_;refine ah hw ?_;refine⟨i+1,⟨h1,(hf rfl).trans hG⟩,by omega,?_⟩;exact ais [] [0]
 ·obtain rfl:i=t.length:=by omega
  have e1:=inF (t.length);rw[ze]at hn;subst hn;refine aF e1 ?_;exact ai
theorem Pf(t:List Nod)(hb:t.length<=2097152):PC Tryz.prog 109 [.agg [.sl 240 false (rows bB t)]] (.int .i64 (statV t)):=by
 refine PC.fact 7 Hw (by simp) puA puA ?_;unfold uT;refine bd ?_;have c1:=Vd t hb;obtain⟨R,hR⟩:∃R,R=statV t:=⟨_,rfl⟩
 rw[<-hR];unfold statV at hR;have hok:=fun h=>xu (t:=t) h
 generalize nU t=V at *;refine gon ?_;refine am c1 ?_;by_cases q1:V=0
 case neg=>
  have e1:(V != 0)=true:=by grind
  rw[al7 q1]at hR;subst hR;refine aM e1 ?_;exact ai
 have e1:(V != 0)=false:=by grind
 rw[al5 (by omega)]at hR;obtain⟨ht,hl⟩:=hok q1;have hp:=ht.pos;refine aF e1 ?_;refine az (fun i:Nat=>[(4,.int .i64 i)]) (fun i=>[.var [.sl 240 false (rows bB t)]]) (fun i=>t.length-i) (fun i=>1<=i/\i<=t.length/\R=frE (ej t) (t.length-1-(i-1)) (i-1)) 1 ⟨amb _,hp,hR⟩ ?_ ?_
 ·exact ais [] [0]
 clear hR e1;rintro i ⟨h0,hi,hn⟩;refine dp ?_;by_cases h1:i<t.length
 ·have e1:=inT h1
  have hw:=af h1 (by omega);obtain⟨k,rfl⟩:∃k,i=k+1:=⟨i-1,by omega⟩
  have hk:k+1-1=k:=rfl;rw[hk]at hn;have hgd:(rows bB t).getD (k+1) []=bB (nod t (k+1)):=aS (f:=bB) gr h1;have hf0:∀ {v:Int},ej t k=v->v≠0->R=v:=fun h0 h2=>by rw[hn,zg (by omega) (by rw[h0];exact h2),h0]
  have hf:ej t k=0->R=frE (ej t) (t.length-1-(k+1)) (k+1):=fun h0=>by rw[hn,zf (by omega) h0]
  clear hn;obtain⟨u0,u1⟩:=ht.ok (k+1) (by omega) (by omega);have hU:(rows bB t).getD (nod t (k+1)).up.toNat []=bB (nod t (nod t (k+1)).up.toNat):=aS (f:=bB) gr (by omega);have hub:decide ((nod t (k+1)).up<((t.length:Nat):Int))=true:=au (by omega);have hun:decide (0<=(nod t (k+1)).up)=true:=au u0;have hu1:(nod t (k+1)).up<((t.length:Nat):Int):=by omega
  have hix:((k+1:Nat):Int)<((t.length:Nat):Int):=by omega
  unfold ej at hf0 hf;generalize nod t (k+1)=x at *;generalize nod t x.up.toNat=y at *;generalize hK:k+1=K at *;refine bw e1 ?_;refine aZ hgd hU ?_;by_cases q1:x.status=1
  ·have k1:(x.status==1)=true:=by simp[q1]
   by_cases q2:y.status=1
   ·have k2:(y.status != 1)=false:=by simp[q2]
    have k3:(y.status==2)=false:=by simp[q2]
    refine zh k1 k2 k3 ?_;refine ah hw ?_;refine⟨K+1,⟨by omega,h1,hf (al5 (by rintro (h|h);exact h.2 q2;have:=h.1;omega))⟩,by omega,?_⟩;exact ais [] [0]
   ·have k2:(y.status != 1)=true:=by simp[q2]
    obtain rfl:=hf0 (al7 (.inl ⟨q1,q2⟩)) (by decide);refine cH k1 k2 ?_;exact ai
  ·have k1:(x.status==1)=false:=by simp[q1]
   by_cases q2:y.status=2
   ·have k2:(y.status==2)=true:=by simp[q2]
    by_cases q3:x.status=2
    ·have k3:(x.status != 2)=false:=by simp[q3]
     refine zh k1 k2 k3 ?_;refine ah hw ?_;refine⟨K+1,⟨by omega,h1,hf (al5 (by rintro (h|h);exact q1 h.1;exact h.2 q3))⟩,by omega,?_⟩;exact ais [] [0]
    ·have k3:(x.status != 2)=true:=by simp[q3]
     obtain rfl:=hf0 (al7 (.inr ⟨q2,q3⟩)) (by decide);refine fI k1 k2 k3 ?_;exact ai
   ·have k2:(y.status==2)=false:=by simp[q2]
    refine fp k1 k2 ?_;refine ah hw ?_;refine⟨K+1,⟨by omega,h1,hf (al5 (by rintro (h|h);exact q1 h.1;exact q2 h.1))⟩,by omega,?_⟩;exact ais [] [0]
 ·obtain rfl:i=t.length:=by omega
  have e1:=inF (t.length);rw[ze]at hn;subst hn;refine aF e1 ?_;exact ai
theorem SC(latest:List Vot)(eqv:List Int)(n:Nat)(hl:latest.length<=2097152)(he:eqv.length<=2097152):PC Tryz.prog 115 [.agg [.sl 34 false (rows al latest),.sl 1 false (aH .i64 eqv)],.int .i64 n]
 (.bool (decide (latest.length=n)&&(!(dW (fun i=>!(vot latest i).has&&decide (vot latest i≠dL)) latest.length).isSome&&(decide (eqv.length=0) || decide (cE eqv n=0))))):=by
 refine PC.fact 6 BX (by simp) puA puA ?_;unfold qx;refine bd ?_;have c1:=gl eqv false n (by omega);by_cases q0:latest.length=n
 case neg=>
  have e0:((latest.length:Int) != (n:Int))=true:=by grind
  rw[aA q0,ajq];refine aM e0 ?_;exact ai
 have e0:((latest.length:Int) != (n:Int))=false:=by grind
 rw[au q0,am2];obtain⟨R,hR⟩:∃R,R=dW (fun i=>!(vot latest i).has&&decide (vot latest i≠dL)) latest.length:=⟨_,rfl⟩
 rw[<-hR];have hR:R=iK (fun i=>!(vot latest i).has&&decide (vot latest i≠dL)) (latest.length-0) 0:=hR;generalize cE eqv n=V at *;refine aF e0 ?_;refine az (fun i:Nat=>[(5,.int .i64 i)]) (fun i=>[.var [.sl 34 false (rows al latest),.sl 1 false (aH .i64 eqv)]]) (fun i=>latest.length-i) (fun i=>i<=latest.length/\R=iK (fun i=>!(vot latest i).has&&decide (vot latest i≠dL)) (latest.length-i) i) 0 ⟨amc _,hR⟩ ?_ ?_
 ·exact ais [] [0]
 clear hR e0;rintro i ⟨hi,hn⟩;refine dp ?_;by_cases h1:i<latest.length
 ·have e1:=inT h1
  have hw:=af h1 (by omega);have hgd:(rows al latest).getD i []=al (vot latest i):=aS (f:=al) dL h1;have ht:(!(vot latest i).has&&decide (vot latest i≠dL))=true->R=some i:=fun h=>by rw[hn,nB h1 h]
  have hf:(!(vot latest i).has&&decide (vot latest i≠dL))=false->R=iK (fun i=>!(vot latest i).has&&decide (vot latest i≠dL)) (latest.length-(i+1)) (i+1):=fun h=>by rw[hn,nz h1 h]
  clear hn;have hv0:al dL=al ⟨false,0,rt0⟩:=rfl;generalize vot latest i=x at *;refine bw e1 ?_;refine ah hgd ?_;by_cases q1:x.has=true
  ·have k1:x.has=true:=q1;rw[q1]at hf;refine fp hgd k1 ?_;refine ah hw ?_;refine⟨i+1,⟨h1,hf rfl⟩,by omega,?_⟩;exact ais [] [0]
  ·have k1:x.has=false:=by simpa using q1
   by_cases q2:x=dL
   ·have k2:decide (x=⟨false,0,rt0⟩)=true:=au q2;rw[k1,aA (fun h=>h q2)]at hf;refine zh hgd k1 k2 ?_;refine ah hw ?_;refine⟨i+1,⟨h1,hf rfl⟩,by omega,?_⟩;exact ais [] [0]
   ·have k2:decide (x=⟨false,0,rt0⟩)=false:=aA q2;obtain rfl:=ht (by rw[k1,au q2];rfl);refine fI hgd k1 k2 ?_;exact ai
 ·obtain rfl:i=latest.length:=by omega
  have e1:=inF (latest.length);rw[nu]at hn;subst hn;refine bJ e1 ?_;by_cases q3:eqv.length=0
  ·have k3:((eqv.length:Int)==0)=true:=by simp[q3]
   rw[au q3];refine ah k3 ?_;exact ai
  ·have k3:((eqv.length:Int)==0)=false:=by simp;intro h;exact q3 (by simp[h])
   rw[aA q3,aj9];refine ah k3 ?_;refine ahG c1 ?_;exact ai
theorem Sx(s:ap)(hb:s.nodes.length<=2097152)(h0:s.cfg.spe≠0):PC Tryz.prog 118 [.agg (aE s.a)] (.bool (!(dW (fun i=>decide (s.now<(nod s.nodes i).blk.slot) || !pY s (nod s.nodes i).blk) s.nodes.length).isSome)):=by
 refine PC.fact 4 Ku (by simp) puA puA ?_;unfold yS;refine bd ?_;obtain⟨R,hR⟩:∃R,R=dW (fun i=>decide (s.now<(nod s.nodes i).blk.slot) || !pY s (nod s.nodes i).blk) s.nodes.length:=⟨_,rfl⟩
 rw[<-hR];have hR:R=iK (fun i=>decide (s.now<(nod s.nodes i).blk.slot) || !pY s (nod s.nodes i).blk) (s.nodes.length-0) 0:=hR;refine gon ?_;refine az (fun i:Nat=>[(3,.int .i64 i)]) (fun i=>[.var (aE s.a)]) (fun i=>s.nodes.length-i) (fun i=>i<=s.nodes.length/\R=iK (fun i=>decide (s.now<(nod s.nodes i).blk.slot) || !pY s (nod s.nodes i).blk) (s.nodes.length-i) i) 0 ⟨amc _,hR⟩ ?_ ?_
 ·exact ais [] [0]
 clear hR;rintro i ⟨hi,hn⟩;refine dp ?_;by_cases h1:i<s.nodes.length
 ·have e1:=inT h1
  have hw:=af h1 (by omega);have hgd:(rows bB s.nodes).getD i []=bB (nod s.nodes i):=aS (f:=bB) gr h1;have c1:=CA s (nod s.nodes i).blk h0;have ht:(decide (s.now<(nod s.nodes i).blk.slot) || !pY s (nod s.nodes i).blk)=true->R=some i:=fun h=>by rw[hn,nB h1 h]
  have hf:(decide (s.now<(nod s.nodes i).blk.slot) || !pY s (nod s.nodes i).blk)=false->R=iK (fun i=>decide (s.now<(nod s.nodes i).blk.slot) || !pY s (nod s.nodes i).blk) (s.nodes.length-(i+1)) (i+1):=fun h=>by rw[hn,nz h1 h]
  clear hn;generalize nod s.nodes i=x at *;generalize pY s x.blk=O at *;refine bw e1 ?_;by_cases q1:s.now<x.blk.slot
  ·have k1:decide (x.blk.slot > s.now)=true:=au q1;have k1':decide (s.now<x.blk.slot)=true:=au q1;obtain rfl:=ht (by grind);refine fI hgd k1 k1' ?_;exact ai
  ·have k1:decide (x.blk.slot > s.now)=false:=aA q1
   have k1':decide (s.now<x.blk.slot)=false:=aA q1;rw[k1',aj9]at ht hf;refine dC hgd k1 k1' ?_;refine aK (c1) ?_;cases O with
   | true =>
     refine dQ ?_;refine ah hw ?_;refine⟨i+1,⟨h1,hf rfl⟩,by omega,?_⟩;exact ais [] [0]
   | false =>
     obtain rfl:=ht rfl;refine aX ?_;exact ai
 ·obtain rfl:i=s.nodes.length:=by omega
  have e1:=inF (s.nodes.length);rw[nu]at hn;subst hn;refine aF e1 ?_;exact ai
end Go.Proofs.YtnjdpnfglgcjcaaGreat
