/- Joined. -/
import Derived.Test.YtblipkgpoaonaaaGreatV4
import Derived.Test.YtblipkgpoaonaaaGreatV5
import Derived.Test.YtblipkgpoaonaaaGreatR1
import Derived.Test.YtblipkgpoaonaaaGreatT6
import Derived.Test.YtblipkgpoaonaaaGreatV7
set_option linter.unusedVariables false
set_option linter.unusedSimpArgs false
set_option maxRecDepth 8000
set_option maxHeartbeats 4000000
namespace Go.Proofs.YtblipkgpoaonaaaGreat
open Go Go.FH Go.RowKit
theorem vW(t:List Nod)(r:Rt):0<=aj t r↔r∈t.map (·.blk.root):=by
 constructor
 ·intro h;obtain⟨d,c⟩:=dO h;rw[amV];refine⟨nod t (aj t r).toNat,?_,c⟩;unfold nod;grind
 ·intro h;obtain⟨n,d,c⟩:=amV.1 h;obtain⟨k,f,g⟩:=amJ d;refine lH (k:=k) f ?_;unfold nod;grind
theorem Vd(t:List Nod)(hb:t.length<=2097152):PC Tryz.prog 297 [.agg [.sl 240 false (rows bB t)]] (.int .i64 (nU t)):=by
 refine cD 5 ?_;obtain⟨R,hR⟩:∃R,R=nU t:=⟨_,rfl⟩
 rw[<-hR];unfold nU at hR;by_cases q0:t.length=0
 ·have e0:((t.length:Int)==0)=true:=NF
  rw[al7 (.inl q0)]at hR;subst hR;repeat(first|refine bY ?_|simp_all)
  refine agF ?_;exact ai
 have e0:((t.length:Int)==0)=false:=NF
 by_cases q1:4096<t.length
 ·have e1:decide ((t.length:Int) > 4096)=true:=au NB;have e1':decide ((4096:Int)<(t.length:Int))=true:=au NB;rw[al7 (.inr q1)]at hR;subst hR;refine fI e0 e1 e1' ?_;exact ai
 have e1:decide ((t.length:Int) > 4096)=false:=aA NB;have e1':decide ((4096:Int)<(t.length:Int))=false:=aA NB;rw[al5 (fun h=>h.elim q0 q1)]at hR;refine wg e0 e1 e1' ?_;refine az (fun i:Nat=>[(3,.int .i64 i)]) (fun i=>[.var [.sl 240 false (rows bB t)]]) (fun i=>t.length-i) (fun i=>i<=t.length/\R=frE (An t) (t.length-i) i) 0 ⟨amc _,hR⟩ ?_ ?_
 ·exact ais [] [0]
 clear hR e0 e1 e1';rintro i ⟨hi,hn⟩;refine dp ?_;by_cases h1:i<t.length
 ·have e1:=inT h1
  have hw:=af h1 NB;have hgd:(rows bB t).getD i []=bB (nod t i):=aS (f:=bB) gr h1;have c1:=MK (nod t i).status;have c2:=cC (t.take i) (nod t i).blk.root (by rw[amA];omega);have htk:(rows bB t).take i=rows bB (t.take i):=si _ _ _;have ht:∀ {v:Int},An t i=v->v≠0->R=v:=fun h0 h2=>by rw[hn,zg h1 (by rw[h0];exact h2),h0]
  have hf:An t i=0->R=frE (An t) (t.length-(i+1)) (i+1):=fun h0=>by rw[hn,zf h1 h0]
  clear hn;have hU:∀k:Nat,(nod t i).up=k->k<i->(rows bB t).getD (nod t i).up.toNat []=bB (nod t (nod t i).up.toNat):=fun k hk hki=>aS (f:=bB) gr NB
  obtain⟨G,hG⟩:∃G,G=frE (An t) (t.length-(i+1)) (i+1):=⟨_,rfl⟩
  rw[<-hG]at hf;unfold An at ht hf;simp only[<-vW]at ht hf;have hile:(i:Int)<=((t.length:Nat):Int):=NB
  generalize hx:nod t i=x at *;generalize aj (t.take i) x.blk.root=I at *;unfold nA at c2;generalize htk0:rows bB (t.take i)=tk at *;refine bw e1 ?_;refine ah hgd ?_;refine am c1 ?_;by_cases q1:0<=x.status/\x.status<=2
  case neg=>
   have k1:(decide (0<=x.status)&&decide (x.status<=2))=false:=by rw[akJ,ami,ami];omega
   obtain rfl:=ht (al7 q1) NE;refine aM k1 ?_;exact ai
  have k1:(decide (0<=x.status)&&decide (x.status<=2))=true:=by simp[q1]
  rw[al5 (fun h=>h q1)]at ht hf;by_cases qi:i=0
  ·subst qi
   obtain rfl:[]=tk:=htk0;by_cases q2:x.up=-1
   case neg=>
    have k2:(x.up != -1)=true:=by simp[q2]
    obtain rfl:=ht (al7 ⟨rfl,q2⟩) NE;refine cH k1 k2 ?_;exact ai
   have k2:(x.up != -1)=false:=by simp[q2]
   rw[al5 (fun h=>h.2 q2),al5 NB]at ht hf;refine fp k1 k2 ?_;refine ah htk ?_;refine aK (c2) ?_;by_cases q3:0<=I
   ·have k3:decide (I ≥ 0)=true:=au q3;have k3':decide (0<=I)=true:=au q3;obtain rfl:=ht (al7 q3) NE;refine cH k3 k3' ?_;exact ai
   have k3:decide (I ≥ 0)=false:=aA q3;have k3':decide (0<=I)=false:=aA q3;rw[al5 q3]at ht hf;refine fU k3 k3' ?_;refine aB ?_;refine dQ ?_;refine ah hw ?_;refine⟨0+1,⟨h1,(hf (al7 rfl)).trans hG⟩,NB,?_⟩;exact ais [] [0]
  ·have ki:((i:Int)==0)=false:=by simp;omega
   have kp:decide ((i:Int) > 0)=true:=au NB;have kp':decide ((0:Int)<(i:Int))=true:=au NB;rw[al5 (fun h=>qi h.1)]at ht hf;by_cases q2:x.up<0
   ·have k2:=au q2;obtain rfl:=ht (al7 ⟨NB,.inl q2⟩) NE;refine eU k1 ki kp kp' k2 ?_;refine agF ?_;exact ai
   have k2:=aA q2;by_cases q3:(i:Int)<=x.up
   ·have k3:decide (x.up ≥ (i:Int))=true:=au q3;have k3':decide ((i:Int)<=x.up)=true:=au q3;obtain rfl:=ht (al7 ⟨NB,.inr q3⟩) NE;refine jj k1 ki kp kp' k2 k3 k3' ?_;refine agF ?_;exact ai
   have k3:decide (x.up ≥ (i:Int))=false:=aA q3;have k3':decide ((i:Int)<=x.up)=false:=aA q3;rw[al5 (fun h=>h.2.elim q2 q3)]at ht hf;have hU:=hU x.up.toNat NB NB;have hub:decide (x.up<((t.length:Nat):Int))=true:=au NB;have hu0:0<=x.up:=NB
   have hu1:x.up<((t.length:Nat):Int):=NB
   generalize nod t x.up.toNat=y at *;refine jj k1 ki kp kp' k2 k3 k3' ?_;refine aB ?_;refine ah htk ?_;refine aK (c2) ?_;by_cases q4:0<=I
   ·have k4:decide (I ≥ 0)=true:=au q4;have k4':decide (0<=I)=true:=au q4;obtain rfl:=ht (al7 q4) NE;refine cH k4 k4' ?_;exact ai
   have k4:decide (I ≥ 0)=false:=aA q4;have k4':decide (0<=I)=false:=aA q4;rw[al5 q4,al5 qi]at ht hf;refine fp k4 k4' ?_;refine dC kp kp' hU ?_;by_cases q5:x.blk.parent=y.blk.root
   case neg=>
    have k5:(decide (x.blk.parent=y.blk.root) != true)=true:=by simp[q5]
    obtain rfl:=ht (al7 q5) NE;repeat(first|refine bY ?_|simp only[go_sem,k5,aA q5])
    refine agF ?_;exact ai
   rw[al5 (fun h=>h q5)]at ht hf;repeat(first|refine bY ?_|simp only[go_sem,au q5])
   refine aB ?_;refine dC kp kp' hU ?_;by_cases q6:x.blk.slot<=y.blk.slot
   ·have k6:=au q6;obtain rfl:=ht (al7 q6) NE;refine aM k6 ?_;exact ai
   have k6:=aA q6;rw[al5 q6]at ht hf;refine bJ k6 ?_;refine ah hw ?_;refine⟨i+1,⟨h1,(hf rfl).trans hG⟩,NB,?_⟩;exact ais [] [0]
 ·obtain rfl:i=t.length:=NB
  have e1:=inF (t.length);rw[ze]at hn;subst hn;refine aF e1 ?_;exact ai
theorem Pf(t:List Nod)(hb:t.length<=2097152):PC Tryz.prog 171 [.agg [.sl 240 false (rows bB t)]] (.int .i64 (statV t)):=by
 refine cD 7 ?_;have c1:=Vd t hb;obtain⟨R,hR⟩:∃R,R=statV t:=⟨_,rfl⟩
 rw[<-hR];unfold statV at hR;have hok:=fun h=>xu (t:=t) h
 generalize nU t=V at *;refine gon ?_;refine am c1 ?_;by_cases q1:V=0
 case neg=>
  have e1:(V != 0)=true:=NF
  rw[al7 q1]at hR;subst hR;refine aM e1 ?_;exact ai
 have e1:(V != 0)=false:=NF
 rw[al5 NB]at hR;obtain⟨ht,hl⟩:=hok q1;have hp:=ht.pos;refine aF e1 ?_;refine az (fun i:Nat=>[(4,.int .i64 i)]) (fun i=>[.var [.sl 240 false (rows bB t)]]) (fun i=>t.length-i) (fun i=>1<=i/\i<=t.length/\R=frE (ej t) (t.length-1-(i-1)) (i-1)) 1 ⟨amb _,hp,hR⟩ ?_ ?_
 ·exact ais [] [0]
 clear hR e1;rintro i ⟨h0,hi,hn⟩;refine dp ?_;by_cases h1:i<t.length
 ·have e1:=inT h1
  have hw:=af h1 NB;obtain⟨k,rfl⟩:∃k,i=k+1:=⟨i-1,NB⟩
  have hk:k+1-1=k:=rfl;rw[hk]at hn;have hgd:(rows bB t).getD (k+1) []=bB (nod t (k+1)):=aS (f:=bB) gr h1;have hf0:∀ {v:Int},ej t k=v->v≠0->R=v:=fun h0 h2=>by rw[hn,zg NB (by rw[h0];exact h2),h0]
  have hf:ej t k=0->R=frE (ej t) (t.length-1-(k+1)) (k+1):=fun h0=>by rw[hn,zf NB h0]
  clear hn;obtain⟨u0,u1⟩:=ht.ok (k+1) NB NB;have hU:(rows bB t).getD (nod t (k+1)).up.toNat []=bB (nod t (nod t (k+1)).up.toNat):=aS (f:=bB) gr NB;have hub:decide ((nod t (k+1)).up<((t.length:Nat):Int))=true:=au NB;have hun:decide (0<=(nod t (k+1)).up)=true:=au u0;have hu1:(nod t (k+1)).up<((t.length:Nat):Int):=NB
  have hix:((k+1:Nat):Int)<((t.length:Nat):Int):=NB
  unfold ej at hf0 hf;generalize nod t (k+1)=x at *;generalize nod t x.up.toNat=y at *;generalize hK:k+1=K at *;refine bw e1 ?_;refine aZ hgd hU ?_;by_cases q1:x.status=1
  ·have k1:(x.status==1)=true:=by simp[q1]
   by_cases q2:y.status=1
   ·have k2:(y.status != 1)=false:=by simp[q2]
    have k3:(y.status==2)=false:=by simp[q2]
    refine zh k1 k2 k3 ?_;refine ah hw ?_;refine⟨K+1,⟨NB,h1,hf (al5 (by rintro (h|h);exact h.2 q2;have:=h.1;omega))⟩,NB,?_⟩;exact ais [] [0]
   ·have k2:(y.status != 1)=true:=by simp[q2]
    obtain rfl:=hf0 (al7 (.inl ⟨q1,q2⟩)) NE;refine cH k1 k2 ?_;exact ai
  ·have k1:(x.status==1)=false:=by simp[q1]
   by_cases q2:y.status=2
   ·have k2:(y.status==2)=true:=by simp[q2]
    by_cases q3:x.status=2
    ·have k3:(x.status != 2)=false:=by simp[q3]
     refine zh k1 k2 k3 ?_;refine ah hw ?_;refine⟨K+1,⟨NB,h1,hf (al5 (by rintro (h|h);exact q1 h.1;exact h.2 q3))⟩,NB,?_⟩;exact ais [] [0]
    ·have k3:(x.status != 2)=true:=by simp[q3]
     obtain rfl:=hf0 (al7 (.inr ⟨q2,q3⟩)) NE;refine fI k1 k2 k3 ?_;exact ai
   ·have k2:(y.status==2)=false:=by simp[q2]
    refine fp k1 k2 ?_;refine ah hw ?_;refine⟨K+1,⟨NB,h1,hf (al5 (by rintro (h|h);exact q1 h.1;exact q2 h.1))⟩,NB,?_⟩;exact ais [] [0]
 ·obtain rfl:i=t.length:=NB
  have e1:=inF (t.length);rw[ze]at hn;subst hn;refine aF e1 ?_;exact ai
theorem SC(latest:List Vot)(eqv:List Int)(n:Nat)(hl:latest.length<=2097152)(he:eqv.length<=2097152):PC Tryz.prog 176 [.agg [.sl 34 false (rows al latest),.sl 1 false (aH .i64 eqv)],.int .i64 n]
 (.bool (decide (latest.length=n)&&(!(dW (fun i=>!(vot latest i).has&&decide (vot latest i≠dL)) latest.length).isSome&&(decide (eqv.length=0) || decide (cE eqv n=0))))):=by
 refine pfn 6 BX ?_;unfold qx;refine bd ?_;have c1:=gl eqv false n NB;by_cases q0:latest.length=n
 case neg=>
  have e0:((latest.length:Int) != (n:Int))=true:=NF
  rw[aA q0,ajq];refine aM e0 ?_;exact ai
 have e0:((latest.length:Int) != (n:Int))=false:=NF
 rw[au q0,am2];obtain⟨R,hR⟩:∃R,R=dW (fun i=>!(vot latest i).has&&decide (vot latest i≠dL)) latest.length:=⟨_,rfl⟩
 rw[<-hR];have hR:R=iK (fun i=>!(vot latest i).has&&decide (vot latest i≠dL)) (latest.length-0) 0:=hR;generalize cE eqv n=V at *;refine aF e0 ?_;refine az (fun i:Nat=>[(5,.int .i64 i)]) (fun i=>[.var [.sl 34 false (rows al latest),.sl 1 false (aH .i64 eqv)]]) (fun i=>latest.length-i) (fun i=>i<=latest.length/\R=iK (fun i=>!(vot latest i).has&&decide (vot latest i≠dL)) (latest.length-i) i) 0 ⟨amc _,hR⟩ ?_ ?_
 ·exact ais [] [0]
 clear hR e0;rintro i ⟨hi,hn⟩;refine dp ?_;by_cases h1:i<latest.length
 ·have e1:=inT h1
  have hw:=af h1 NB;have hgd:(rows al latest).getD i []=al (vot latest i):=aS (f:=al) dL h1;have ht:(!(vot latest i).has&&decide (vot latest i≠dL))=true->R=some i:=fun h=>by rw[hn,nB h1 h]
  have hf:(!(vot latest i).has&&decide (vot latest i≠dL))=false->R=iK (fun i=>!(vot latest i).has&&decide (vot latest i≠dL)) (latest.length-(i+1)) (i+1):=fun h=>by rw[hn,nz h1 h]
  clear hn;have hv0:al dL=al ⟨false,0,rt0⟩:=rfl;generalize vot latest i=x at *;refine bw e1 ?_;refine ah hgd ?_;by_cases q1:x.has=true
  ·have k1:x.has=true:=q1;rw[q1]at hf;refine fp hgd k1 ?_;refine ah hw ?_;refine⟨i+1,⟨h1,hf rfl⟩,NB,?_⟩;exact ais [] [0]
  ·have k1:x.has=false:=by simpa using q1
   by_cases q2:x=dL
   ·have k2:decide (x=⟨false,0,rt0⟩)=true:=au q2;rw[k1,aA (fun h=>h q2)]at hf;refine zh hgd k1 k2 ?_;refine ah hw ?_;refine⟨i+1,⟨h1,hf rfl⟩,NB,?_⟩;exact ais [] [0]
   ·have k2:decide (x=⟨false,0,rt0⟩)=false:=aA q2;obtain rfl:=ht (by rw[k1,au q2];rfl);refine fI hgd k1 k2 ?_;exact ai
 ·obtain rfl:i=latest.length:=NB
  have e1:=inF (latest.length);rw[nu]at hn;subst hn;refine bJ e1 ?_;by_cases q3:eqv.length=0
  ·have k3:((eqv.length:Int)==0)=true:=by simp[q3]
   rw[au q3];refine ah k3 ?_;exact ai
  ·have k3:((eqv.length:Int)==0)=false:=by simp;intro h;exact q3 (by simp[h])
   rw[aA q3,aj9];refine ah k3 ?_;refine ahG c1 ?_;exact ai
theorem Sx(s:ap)(hb:s.nodes.length<=2097152)(h0:s.cfg.spe≠0):PC Tryz.prog 179 [.agg (aE s.a)] (.bool (!(dW (fun i=>decide (s.now<(nod s.nodes i).blk.slot) || !pY s (nod s.nodes i).blk) s.nodes.length).isSome)):=by
 refine cD 4 ?_;obtain⟨R,hR⟩:∃R,R=dW (fun i=>decide (s.now<(nod s.nodes i).blk.slot) || !pY s (nod s.nodes i).blk) s.nodes.length:=⟨_,rfl⟩
 rw[<-hR];have hR:R=iK (fun i=>decide (s.now<(nod s.nodes i).blk.slot) || !pY s (nod s.nodes i).blk) (s.nodes.length-0) 0:=hR;refine gon ?_;refine az (fun i:Nat=>[(3,.int .i64 i)]) (fun i=>[.var (aE s.a)]) (fun i=>s.nodes.length-i) (fun i=>i<=s.nodes.length/\R=iK (fun i=>decide (s.now<(nod s.nodes i).blk.slot) || !pY s (nod s.nodes i).blk) (s.nodes.length-i) i) 0 ⟨amc _,hR⟩ ?_ ?_
 ·exact ais [] [0]
 clear hR;rintro i ⟨hi,hn⟩;refine dp ?_;by_cases h1:i<s.nodes.length
 ·have e1:=inT h1
  have hw:=af h1 NB;have hgd:(rows bB s.nodes).getD i []=bB (nod s.nodes i):=aS (f:=bB) gr h1;have c1:=CA s (nod s.nodes i).blk h0;have ht:(decide (s.now<(nod s.nodes i).blk.slot) || !pY s (nod s.nodes i).blk)=true->R=some i:=fun h=>by rw[hn,nB h1 h]
  have hf:(decide (s.now<(nod s.nodes i).blk.slot) || !pY s (nod s.nodes i).blk)=false->R=iK (fun i=>decide (s.now<(nod s.nodes i).blk.slot) || !pY s (nod s.nodes i).blk) (s.nodes.length-(i+1)) (i+1):=fun h=>by rw[hn,nz h1 h]
  clear hn;generalize nod s.nodes i=x at *;generalize pY s x.blk=O at *;refine bw e1 ?_;by_cases q1:s.now<x.blk.slot
  ·have k1:decide (x.blk.slot > s.now)=true:=au q1;have k1':decide (s.now<x.blk.slot)=true:=au q1;obtain rfl:=ht NF;refine fI hgd k1 k1' ?_;exact ai
  ·have k1:decide (x.blk.slot > s.now)=false:=aA q1
   have k1':decide (s.now<x.blk.slot)=false:=aA q1;rw[k1',aj9]at ht hf;refine dC hgd k1 k1' ?_;refine aK (c1) ?_;cases O with
   | true =>
     refine dQ ?_;refine ah hw ?_;refine⟨i+1,⟨h1,hf rfl⟩,NB,?_⟩;exact ais [] [0]
   | false =>
     obtain rfl:=ht rfl;refine aX ?_;exact ai
 ·obtain rfl:i=s.nodes.length:=NB
  have e1:=inF (s.nodes.length);rw[nu]at hn;subst hn;refine aF e1 ?_;exact ai
theorem agr{s:ap}{i:Nat}(h:(dn s.orph i).root=rt0\/0<=aj s.nodes (dn s.orph i).root\/0<=aj s.nodes (dn s.orph i).parent\/(dn s.orph i).timely=true\/s.now<(dn s.orph i).slot\/(dn s.orph i).slot<=(dk s.f.ep s.cfg.spe).1\/(dn s.orph i).root∈(s.orph.take i).map (·.root)):qt s i≠0:=by
 rw[vW,vW]at h;unfold qt tn;(repeat' split)<;>first|decide|(rcases h with h|h|h|h|h|h|h<;>contradiction)
theorem ab1{s:ap}{i:Nat}(h1:¬ (dn s.orph i).root=rt0)(h2:¬0<=aj s.nodes (dn s.orph i).root)(h3:¬0<=aj s.nodes (dn s.orph i).parent)(h4:(dn s.orph i).timely=false)(h5:¬s.now<(dn s.orph i).slot)(h6:¬ (dn s.orph i).slot<=(dk s.f.ep s.cfg.spe).1)(h7:(dn s.orph i).root∉(s.orph.take i).map (·.root)):qt s i=0:=by
 rw[vW]at h2 h3;unfold qt tn;rw[al5 h1,al5 h2,al5 h7,al5 h3,al5 (by rw[h4];decide),al5 h5,al5 h6]
theorem SD (s : ap) (hn : s.nodes.length <= 2097152) (he : s.early.length <= 2097152) (ho : s.orph.length <= 2097152) (hv : ∀ a ∈ s.early, a.vals.length <= 2097152) : PC Tryz.prog 180 [.agg (aE s.a)] (.bool (zV s)) := by
 refine cD 9 ?_;unfold zV;obtain⟨E,hE⟩:∃E,E=frE (eaE s) (s.early.length-0) 0:=⟨_,rfl⟩
 obtain⟨O,hO⟩:∃O,O=frE (qt s) (s.orph.length-0) 0:=⟨_,rfl⟩
 rw[<-hE,<-hO];have c0:=sq s;refine gon ?_;refine az (fun i:Nat=>[(3,.int .i64 i)]) (fun i=>[.var (aE s.a)]) (fun i=>s.early.length-i) (fun i=>i<=s.early.length/\E=frE (eaE s) (s.early.length-i) i) 0 ⟨amc _,hE⟩ ?_ ?_
 ·exact ais [] [0]
 clear hE;rintro i ⟨hi,hE⟩;refine dp ?_;by_cases h1:i<s.early.length
 ·have e1:=inT h1
  have hw:=af h1 NB;have hgd:(rows bp.c s.early).getD i []=cy (gO s.early i).a:=aS (f:=bp.c) default h1;have hm:gO s.early i∈s.early:=bK default h1;have c1:=gl (gO s.early i).vals false s.cfg.bals.length (by have:=hv _ hm;omega);have hf0:∀ {v:Int},eaE s i=v->v≠0->E=v:=fun h0 h2=>by rw[hE,zg h1 (by rw[h0];exact h2),h0]
  have hf1:eaE s i=0->E=frE (eaE s) (s.early.length-(i+1)) (i+1):=fun h0=>by rw[hE,zf h1 h0]
  clear hE;unfold eaE at hf0 hf1;generalize cE (gO s.early i).vals s.cfg.bals.length=V at *;refine bw e1 ?_;refine ah hgd ?_;refine aK (c0) ?_;refine ah hgd ?_;refine aK (c1) ?_;by_cases q:V=0
  ·have k:(V != 0)=false:=by simp[q]
   refine bJ k ?_;refine ah hw ?_;refine⟨i+1,⟨h1,hf1 q⟩,NB,?_⟩;exact ais [] [0]
  ·have k:(V != 0)=true:=by simp[q]
   obtain rfl:=hf0 rfl q;rw[aA q,ajq];refine aM k ?_;exact ai
 ·obtain rfl:i=s.early.length:=NB
  have e1:=inF (s.early.length);rw[ze]at hE;subst hE;rw[au rfl,am2];clear hi h1;have c2:=jU s s.f.ep;obtain⟨S,hS⟩:∃S,S=da s s.f.ep:=⟨_,rfl⟩
  have hS1:S.1=(dk s.f.ep s.cfg.spe).1:=by rw[hS];rfl
  rw[<-hS]at c2;obtain⟨S1,S2⟩:=S;clear hS;dsimp only at c2 hS1;refine aF e1 ?_;refine ahG c2 ?_;refine az (fun i:Nat=>[(6,.int .i64 i)]) (fun i=>[.var (aE s.a)]) (fun i=>s.orph.length-i) (fun i=>i<=s.orph.length/\O=frE (qt s) (s.orph.length-i) i) 0 ⟨amc _,hO⟩ ?_ ?_
  ·exact ais [] [0]
  clear hO e1;rintro i ⟨hi,hO⟩;refine dp ?_;by_cases h1:i<s.orph.length
  ·have e1:=inT h1
   have hw:=af h1 NB;have hgd:(rows aO s.orph).getD i []=aO (dn s.orph i):=aS (f:=aO) cw h1;have hf0:qt s i≠0->O≠0:=fun h0=>by rw[hO,zg h1 h0];exact h0
   have hf1:qt s i=0->O=frE (qt s) (s.orph.length-(i+1)) (i+1):=fun h0=>by rw[hO,zf h1 h0]
   clear hO;have c3:=cC s.nodes (dn s.orph i).root hn;have c4:=cC s.nodes (dn s.orph i).parent hn;have yy:=fun h=>hf0 (agr (s:=s) (i:=i) h)
   have nn:=fun a1 a2 a3 a4 a5 a6 a7=>hf1 (ab1 (s:=s) (i:=i) a1 a2 a3 a4 a5 a6 a7)
   rw[<-hS1]at yy nn;clear hf0 hf1
   have hin:∀k,k<i->dn s.orph k∈s.orph.take i:=fun k hk=>by
    unfold dn;rw[alt,al6 NB];exact ajt.2 ⟨k,NB,rfl⟩
   have hout:∀b∈s.orph.take i,∃k,k<i/\dn s.orph k=b:=fun b hb=>by
    obtain⟨k,hk,he⟩:=ajt.1 hb;refine⟨k,NB,?_⟩;unfold dn;rw[alt,al6 NB];exact he
   generalize hx:dn s.orph i=x at *;generalize aj s.nodes x.root=I at *;generalize aj s.nodes x.parent=J at *;unfold nA at c3 c4;refine bw e1 ?_;by_cases q1:x.root=rt0
   ·have k1:=au q1;rw[aA (yy (.inl q1))];refine cH hgd k1 ?_;exact ai
   have k1:=aA q1;refine aZ hgd k1 ?_;refine am c3 ?_;by_cases q2:0<=I
   ·have k2:decide (I ≥ 0)=true:=au q2;have k2':decide (0<=I)=true:=au q2;rw[aA (yy (.inr (.inl q2)))];refine cH k2 k2' ?_;exact ai
   have k2:decide (I ≥ 0)=false:=aA q2;have k2':decide (0<=I)=false:=aA q2;refine aZ k2 k2' ?_;refine am c4 ?_;by_cases q3:0<=J
   ·have k3:decide (J ≥ 0)=true:=au q3;have k3':decide (0<=J)=true:=au q3;rw[aA (yy (.inr (.inr (.inl q3))))];refine cH k3 k3' ?_;exact ai
   have k3:decide (J ≥ 0)=false:=aA q3;have k3':decide (0<=J)=false:=aA q3;by_cases q4:x.timely=true
   ·rw[aA (yy (.inr (.inr (.inr (.inl q4)))))];refine fI k3 k3' q4 ?_;exact ai
   have k4:x.timely=false:=by simpa using q4
   by_cases q5:s.now<x.slot
   ·have k5:decide (x.slot > s.now)=true:=au q5;have k5':decide (s.now<x.slot)=true:=au q5;rw[aA (yy (.inr (.inr (.inr (.inr (.inl q5))))))];refine eU k3 k3' k4 k5 k5' ?_;refine agF ?_;exact ai
   have k5:decide (x.slot > s.now)=false:=aA q5;have k5':decide (s.now<x.slot)=false:=aA q5;by_cases q6:x.slot<=S1
   ·have k6:=au q6;rw[aA (yy (.inr (.inr (.inr (.inr (.inr (.inl q6)))))))];refine eV k3 k3' k4 k5 k5' k6 ?_;refine agF ?_;exact ai
   have k6:=aA q6;refine eV k3 k3' k4 k5 k5' k6 ?_;refine agE ?_;clear c3 c4 k1 k2 k2' k3 k3' k4 k5 k5' k6;refine az (fun k:Nat=>[(8,.int .i64 k)]) (fun k=>[.var (aE s.a),.var (aO x)]) (fun k=>i-k) (fun k=>k<=i/\∀m,m<k->(dn s.orph m).root≠x.root) 0 ⟨amc _,fun m hm=>absurd hm (aju m)⟩ ?_ ?_
   ·exact ais [] [0,1]
   rintro k ⟨hk,hm⟩;refine dp ?_;by_cases h2:k<i
   ·have e2:=inT h2
    have hwk:=af h2 NB;have hgk:(rows aO s.orph).getD k []=aO (dn s.orph k):=aS (f:=aO) cw NB;have hxk:k<s.orph.length:=NB
    have hyk:=hin k h2;generalize hy:dn s.orph k=y at *;refine bw e2 ?_;by_cases q7:y.root=x.root
    ·have k7:=au q7;rw[aA (yy (.inr (.inr (.inr (.inr (.inr (.inr (by rw[<-q7];exact List.mem_map_of_mem hyk))))))))];refine fI hgk k7 hxk ?_;exact ai
    ·have k7:=aA q7
     refine zh hgk k7 hxk ?_;refine ah hwk ?_;refine⟨k+1,⟨h2,fun m h3=>?_⟩,NB,?_⟩
     ·by_cases h4:m=k
      ·subst h4;rw[hy];exact q7
      ·exact hm m NB
     ·exact ais [] [0,1]
   ·obtain rfl:k=i:=NB
    have e2:=inF k
    have hz:x.root∉(s.orph.take k).map (·.root):=fun h=>by
     obtain⟨b,hb,he⟩:=amV.1 h;obtain⟨m,hm1,hm2⟩:=hout b hb;exact hm m hm1 (by rw[hm2];exact he)
    refine bJ e2 ?_;refine ah hw ?_;refine⟨k+1,⟨h1,nn q1 q2 q3 (by simpa using q4) q5 q6 hz⟩,NB,?_⟩;exact ais [] [0]
  ·obtain rfl:i=s.orph.length:=NB
   have e1:=inF (s.orph.length);rw[ze]at hO;subst hO;rw[au rfl];refine aF e1 ?_;exact ai
structure uK(s:ap):Prop where
 a1:(nod s.nodes 0).blk.root=s.f.rt
 a2:0<=aj s.nodes s.j.rt
 a3:(nod s.nodes (aj s.nodes s.j.rt).toNat).status≠2
 a4:s.f.ep<=s.j.ep
 a5:0<=dJ s.tabs s.j
 a6:frE (pR s) (s.tabs.length-0) 0=0
 a7:(decide (s.latest.length=s.cfg.bals.length)&&(!(dW (fun i=>!(vot s.latest i).has&&decide (vot s.latest i≠dL)) s.latest.length).isSome&&(decide (s.eqv.length=0) || decide (cE s.eqv s.cfg.bals.length=0))))=true
 a8:s.boost=rt0\/0<=aj s.nodes s.boost
 a9:s.now<=1099511627776
 a10:s.j.ep<=dg s s.now
 a11:jA s 0 s.f.ep=true
 a12:(dW (fun i=>decide (s.now<(nod s.nodes i).blk.slot) || !pY s (nod s.nodes i).blk) s.nodes.length).isSome=false
 a13:zV s=true
theorem abX(p:Nat->Bool):∀n,orN p n=true↔∃k,k<n/\p k=true
 |0=>⟨fun h=>(by cases h),fun ⟨k,hk,_⟩=>absurd hk (aju k)⟩
 | n + 1 => by
   show (orN p n || p n)=true↔_
   rw[ajY,abX p n];constructor
   ·rintro (⟨k,h1,h2⟩|h)
    ·exact⟨k,NB,h2⟩
    ·exact⟨n,NB,h⟩
   ·rintro⟨k,h1,h2⟩;by_cases hk:k=n
    ·subst hk;exact .inr h2
    ·exact .inl ⟨k,NB,h2⟩
theorem HO(l:List aW)(c:Cp):0<=dJ l c↔orN (fun i=>decide ((tab l i).cp=c)) l.length=true:=by
 rw[abX];unfold dJ;cases h:dW (fun i=>decide ((tab l i).cp=c)) l.length with
 | none =>
   rw[jP];exact⟨fun h=>absurd h NE,fun ⟨k,h1,h2⟩=>by rw[iL h k h1]at h2;cases h2⟩
 | some k =>
   obtain⟨h1,h2,_⟩:=fZ h;rw[Ck];exact⟨fun _=>⟨k,h1,h2⟩,fun _=>NB⟩
theorem QX{s:ap}(h1:1<=s.cfg.spe)(h2:s.cfg.spe<=64)(n:Int):(kJ n s.cfg.spe).1=dg s n:=by
 unfold kJ vy;rw[au h1,au h2];rfl
theorem Iq{c:cU}(h:ib c=0):1<=c.spe/\c.spe<=64:=by
 unfold ib at h;by_cases h1:c.spe<1
 ·rw[al7 h1]at h;cases h
 ·rw[al5 h1]at h;by_cases h2:64<c.spe
  ·rw[al7 h2]at h;cases h
  ·exact⟨NB,NB⟩
theorem agq{s:ap}(h1:1<=s.cfg.spe)(h2:s.cfg.spe<=64)(b:Blk):RU s b=pY s b:=by
 unfold RU pY;rw[QX h1 h2]
theorem ac4{s:ap}(hn:ib s.cfg=0)(hs:statV s.nodes=0)(z1:¬s.cfg.lim.node<s.nodes.length)(z2:¬s.cfg.lim.orph<s.orph.length)(z3:¬s.cfg.lim.early<s.early.length)(z4:¬s.cfg.lim.table<s.tabs.length)(hf:U64 s.f.ep)(hw:U64 s.now):(uK s->oL s=0)/\(¬uK s->oL s=2):=by
 obtain⟨p1,p2⟩:=Iq hn
 have key:oL s=if KK s=false then 2 else if (decide (frE (pR s) (s.tabs.length-0) 0=0)&&orN (fun i=>decide ((tab s.tabs i).cp=s.j)) s.tabs.length)=false then 2
  else if nF s=false then 2 else if wy s=false then 2 else if zV s=false then 2 else 0:=by
  unfold oL;rw[al5 (fun h=>h hn),al5 (fun h=>h hs),al5 z1,al5 z2,al5 z3,al5 z4]
 have hv:nF s=(decide (s.latest.length=s.cfg.bals.length)&&(!(dW (fun i=>!(vot s.latest i).has&&decide (vot s.latest i≠dL)) s.latest.length).isSome&&(decide (s.eqv.length=0) || decide (cE s.eqv s.cfg.bals.length=0)))):=by
  unfold nF
  have e1:decide ((s.latest.length:Int)=(s.cfg.bals.length:Int))=decide (s.latest.length=s.cfg.bals.length):=by
   by_cases q:s.latest.length=s.cfg.bals.length
   ·rw[au q,au NB]
   ·rw[aA q,aA NB]
  have e2:decide ((s.eqv.length:Int)=0)=decide (s.eqv.length=0):=by
   by_cases q:s.eqv.length=0
   ·rw[au q,au NB]
   ·rw[aA q,aA NB]
  rw[e1,e2,Bool.and_left_comm]
 have hnd:wy s=!(dW (fun i=>decide (s.now<(nod s.nodes i).blk.slot) || !pY s (nod s.nodes i).blk) s.nodes.length).isSome:=by
  have he:(fun i=>decide (s.now<(nod s.nodes i).blk.slot) || !RU s (nod s.nodes i).blk)=(fun i=>decide (s.now<(nod s.nodes i).blk.slot) || !pY s (nod s.nodes i).blk):=funext fun i=>by rw[agq p1 p2]
  unfold wy;rw[he]
 have hfin:KK s=true↔((nod s.nodes 0).blk.root=s.f.rt/\0<=aj s.nodes s.j.rt/\(nod s.nodes (aj s.nodes s.j.rt).toNat).status≠2/\s.f.ep<=s.j.ep)/\((s.boost=rt0\/0<=aj s.nodes s.boost)/\s.now<=1099511627776/\s.j.ep<=dg s s.now)/\(dk s.f.ep s.cfg.spe).2=0/\(nod s.nodes 0).blk.slot<=(dk s.f.ep s.cfg.spe).1:=by
  unfold KK;rw[QX p1 p2];simp only[amk,ajY,amg];exact⟨fun ⟨⟨a,b⟩,c⟩=>⟨a,b,c⟩,fun ⟨a,b,c⟩=>⟨⟨a,b⟩,c⟩⟩
 have hea:jA s 0 s.f.ep=true↔((dk s.f.ep s.cfg.spe).2≠0\/(nod s.nodes 0).blk.slot<=(dk s.f.ep s.cfg.spe).1):=by
  unfold jA da;by_cases q:(dk s.f.ep s.cfg.spe).2=0
  ·simp[q]
  ·simp[q]
 constructor
 ·intro h;have hst:(dk s.f.ep s.cfg.spe).2=0:=CY hf.lo p1 p2 hw.lo hw.hi (akT h.a4 h.a10);have hF:KK s=true:=hfin.2 ⟨⟨h.a1,h.a2,h.a3,h.a4⟩,⟨h.a8,h.a9,h.a10⟩,hst,(hea.1 h.a11).resolve_left (fun hh=>hh hst)⟩;have hT:=(HO s.tabs s.j).1 h.a5;rw[key,hF,al5 NE,hT,au h.a6,hv,h.a7,hnd,h.a12,h.a13];rfl
 ·intro h;rw[key];by_cases q1:KK s=false
  ·rw[al7 q1]
  rw[al5 q1];by_cases q2:(decide (frE (pR s) (s.tabs.length-0) 0=0)&&orN (fun i=>decide ((tab s.tabs i).cp=s.j)) s.tabs.length)=false
  ·rw[al7 q2]
  rw[al5 q2];by_cases q3:nF s=false
  ·rw[al7 q3]
  rw[al5 q3];by_cases q4:wy s=false
  ·rw[al7 q4]
  rw[al5 q4];by_cases q5:zV s=false
  ·rw[al7 q5]
  exfalso
  simp only[akc]at q1 q2 q3 q4 q5;obtain⟨⟨b1,b2,b3,b4⟩,⟨b5,b6,b7⟩,b8,b9⟩:=hfin.1 q1;rw[amk,amg]at q2;rw[hnd]at q4;exact h ⟨b1,b2,b3,b4,(HO _ _).2 q2.2,q2.1,hv▸q3,b5,b6,b7,hea.2 (.inr b9),by simpa using q4,q5⟩
theorem agn(c:cU):(O0 c).2=ib c:=by
 unfold O0;split
 ·rename_i h;exact h.symm
 ·rfl
theorem Zy(s:ap)(h:Qw s)(hnw:U64 s.now):PC Tryz.prog 75 [.agg (aE s.a)] (.int .i64 (oL s)):=by
 refine cD 8 ?_;obtain⟨R,hR⟩:∃R,R=oL s:=⟨_,rfl⟩
 rw[<-hR];have c1:=RL s.cfg h.bc;have c2:=Pf s.nodes h.bn;have c3:=cC s.nodes s.j.rt h.bn;have c4:=ow s.tabs s.j h.bt;have c5:=sq s;have c6:=SC s.latest s.eqv s.cfg.bals.length h.bl h.be;have c7:=cC s.nodes s.boost h.bn;have c11:=SD s h.bn h.ba h.bo h.bv;have n2:=agn s.cfg;unfold nA at c3 c7;generalize O0 s.cfg=NS at *;obtain⟨NS1,NS2⟩:=NS;dsimp only at c1 n2;refine gon ?_;refine am c1 ?_;by_cases q1:ib s.cfg=0
 case neg=>
  have k1:(NS2 != 0)=true:=by simp[n2,q1]
  have:R=NS2:=by rw[hR,n2];unfold oL;rw[al7 q1]
  subst this;refine aM k1 ?_;exact ai
 have k1:(NS2 != 0)=false:=by simp[n2,q1]
 refine aF k1 ?_;refine am c2 ?_;by_cases q2:statV s.nodes=0
 case neg=>
  have:R=statV s.nodes:=by rw[hR];unfold oL;rw[al5 (fun hh=>hh q1),al7 q2]
  subst this;generalize statV s.nodes=V at *;have k2:(V != 0)=true:=by simp[q2]
  refine aM k2 ?_;exact ai
 have ht:dU s.nodes:=by
  have:=q2;unfold statV at this;split at this
  ·rename_i h4;exact absurd this h4
  ·rename_i h4;exact(xu (by simpa using h4)).1
 have hpos:=ht.pos;have k2:(statV s.nodes != 0)=false:=by simp[q2]
 generalize hSV:statV s.nodes=V at *;refine bJ k2 ?_;clear k1 k2;by_cases z1:s.cfg.lim.node<s.nodes.length
 ·have k:decide ((s.nodes.length:Int) > s.cfg.lim.node)=true:=au z1;have k':decide (s.cfg.lim.node<(s.nodes.length:Int))=true:=au z1;have:R=11:=by rw[hR];unfold oL;rw[al5 (fun hh=>hh q1),hSV,al5 (fun hh=>hh q2),al7 z1]
  subst this;refine cH k k' ?_;exact ai
 have m1:decide ((s.nodes.length:Int) > s.cfg.lim.node)=false:=aA z1;have m1':decide (s.cfg.lim.node<(s.nodes.length:Int))=false:=aA z1;by_cases z2:s.cfg.lim.orph<s.orph.length
 ·have k:decide ((s.orph.length:Int) > s.cfg.lim.orph)=true:=au z2;have k':decide (s.cfg.lim.orph<(s.orph.length:Int))=true:=au z2;have:R=11:=by rw[hR];unfold oL;rw[al5 (fun hh=>hh q1),hSV,al5 (fun hh=>hh q2),al5 z1,al7 z2]
  subst this;refine nC k k' m1 m1' ?_;exact ai
 have m2:decide ((s.orph.length:Int) > s.cfg.lim.orph)=false:=aA z2;have m2':decide (s.cfg.lim.orph<(s.orph.length:Int))=false:=aA z2;by_cases z3:s.cfg.lim.early<s.early.length
 ·have k:decide ((s.early.length:Int) > s.cfg.lim.early)=true:=au z3;have k':decide (s.cfg.lim.early<(s.early.length:Int))=true:=au z3;have:R=11:=by rw[hR];unfold oL;rw[al5 (fun hh=>hh q1),hSV,al5 (fun hh=>hh q2),al5 z1,al5 z2,al7 z3]
  subst this;refine eV k k' m1 m1' m2 m2' ?_;refine agF ?_;exact ai
 have m3:decide ((s.early.length:Int) > s.cfg.lim.early)=false:=aA z3;have m3':decide (s.cfg.lim.early<(s.early.length:Int))=false:=aA z3;by_cases z4:s.cfg.lim.table<s.tabs.length
 ·have k:decide ((s.tabs.length:Int) > s.cfg.lim.table)=true:=au z4;have k':decide (s.cfg.lim.table<(s.tabs.length:Int))=true:=au z4;have:R=11:=by rw[hR];unfold oL;rw[al5 (fun hh=>hh q1),hSV,al5 (fun hh=>hh q2),al5 z1,al5 z2,al5 z3,al7 z4]
  subst this;refine mP k k' m1 m1' m2 m2' m3 m3' ?_;refine agF ?_;exact ai
 have m4:decide ((s.tabs.length:Int) > s.cfg.lim.table)=false:=aA z4;have m4':decide (s.cfg.lim.table<(s.tabs.length:Int))=false:=aA z4;refine mP m1 m1' m2 m2' m3 m3' m4 m4' ?_;refine aB ?_;clear m1 m1' m2 m2' m3 m3' m4 m4';obtain⟨r0,r2⟩:=ac4 q1 (hSV.trans q2) z1 z2 z3 z4 h.uf hnw;rw[<-hR]at r0 r2;clear hR q2 hSV;obtain⟨p1,p2⟩:=Iq q1;have c8:=fT s s.now NB;have c9:=zE s 0 s.f.ep NE NB;have c10:=Sx s h.bn NB;refine gon ?_;refine am c3 ?_;have hg0:(rows bB s.nodes).getD 0 []=bB (nod s.nodes 0):=aS (f:=bB) gr hpos;have hgJ:0<=aj s.nodes s.j.rt->(rows bB s.nodes).getD (aj s.nodes s.j.rt).toNat []=bB (nod s.nodes (aj s.nodes s.j.rt).toNat):=fun hh=>aS (f:=bB) gr (dO hh).1
 have hJl:0<=aj s.nodes s.j.rt->aj s.nodes s.j.rt<((s.nodes.length:Nat):Int):=fun hh=>by have:=(dO hh).1;omega
 have hp0:(0:Int)<((s.nodes.length:Nat):Int):=NB
 have b1:=fun(c:uK s)=>c.a1
 have b2:=fun(c:uK s)=>c.a2
 have b3:=fun(c:uK s)=>c.a3
 have b4:=fun(c:uK s)=>c.a4
 have b5:=fun(c:uK s)=>c.a5
 have b6:=fun(c:uK s)=>c.a6
 have b7:=fun(c:uK s)=>c.a7
 have b8:=fun(c:uK s)=>c.a8
 have b9:=fun(c:uK s)=>c.a9
 have b10:=fun(c:uK s)=>c.a10
 have b11:=fun(c:uK s)=>c.a11
 have b12:=fun(c:uK s)=>c.a12
 have b13:=fun(c:uK s)=>c.a13
 have bb:=fun x1 x2 x3 x4 x5 x6 x7 x8 x9 x10 x11 x12 x13=>r0 (⟨x1,x2,x3,x4,x5,x6,x7,x8,x9,x10,x11,x12,x13⟩:uK s)
 clear r0;generalize nod s.nodes 0=N0 at *;generalize hJ:aj s.nodes s.j.rt=J at *;generalize nod s.nodes J.toNat=NJ at *;generalize dJ s.tabs s.j=FT at *;generalize aj s.nodes s.boost=FB at *;generalize zV s=QV at *;generalize jA s 0 s.f.ep=ES at *;generalize (dW (fun i=>decide (s.now<(nod s.nodes i).blk.slot) || !pY s (nod s.nodes i).blk) s.nodes.length).isSome=NV at *;generalize (decide (s.latest.length=s.cfg.bals.length)&&(!(dW (fun i=>!(vot s.latest i).has&&decide (vot s.latest i≠dL)) s.latest.length).isSome&&(decide (s.eqv.length=0) || decide (cE s.eqv s.cfg.bals.length=0))))=VV at *;generalize dg s s.now=EN at *;by_cases q1:N0.blk.root=s.f.rt
 case neg=>
  obtain rfl:=r2 (fun c=>q1 (b1 c));repeat(first|refine bY ?_|simp only[go_sem,hg0,hp0,aA q1])
  refine agF ?_;exact ai
 by_cases q2:0<=J
 case neg=>
  obtain rfl:=r2 (fun c=>q2 (b2 c));have k2:decide (J<0)=true:=au NB;repeat(first|refine bY ?_|simp only[go_sem,hg0,hp0,au q1,k2])
  refine agF ?_;exact ai
 have k2:decide (J<0)=false:=aA NB;have hgJ:=hgJ q2;have hJl:=hJl q2;by_cases q3:NJ.status=2
 ·obtain rfl:=r2 (fun c=>b3 c q3);have k3:(NJ.status==2)=true:=by simp[q3]
  repeat(first|refine bY ?_|simp only[go_sem,hg0,hp0,au q1,k2,hgJ,hJl,q2,k3])
  refine agF ?_;exact ai
 have k3:(NJ.status==2)=false:=by simp[q3]
 by_cases q4:s.f.ep<=s.j.ep
 case neg=>
  obtain rfl:=r2 (fun c=>q4 (b4 c));have k4:decide (s.j.ep<s.f.ep)=true:=au NB;repeat(first|refine bY ?_|simp only[go_sem,hg0,hp0,au q1,k2,hgJ,hJl,q2,k3,k4])
  refine agF ?_;exact ai
 have k4:decide (s.j.ep<s.f.ep)=false:=aA NB;repeat(first|refine bY ?_|simp only[go_sem,hg0,hp0,au q1,k2,hgJ,hJl,q2,k3,k4])
 refine aK (c4) ?_;by_cases q5:0<=FT
 case neg=>
  obtain rfl:=r2 (fun c=>q5 (b5 c));have k5:decide (FT<0)=true:=au NB;refine aM k5 ?_;exact ai
 have k5:decide (FT<0)=false:=aA NB;refine aF k5 ?_;clear k2 k3 k4 k5 hg0 hp0 hgJ hJl c4 c3 c1 c2;obtain⟨F,hF⟩:∃F,F=frE (pR s) (s.tabs.length-0) 0:=⟨_,rfl⟩
 rw[<-hF]at b6 bb;refine az (fun i:Nat=>[(7,.int .i64 i)]) (fun i=>[.var (aE s.a),.var (aE NS1.a)]) (fun i=>s.tabs.length-i) (fun i=>i<=s.tabs.length/\F=frE (pR s) (s.tabs.length-i) i) 0 ⟨amc _,hF⟩ ?_ ?_
 ·exact ais [] [0,1]
 clear hF;have hbt:=h.bt;rintro i ⟨hi,hn⟩;refine dp ?_;by_cases h1:i<s.tabs.length
 ·have e1:=inT h1
  have hw:=af h1 NB;have hgd:(rows aW.c s.tabs).getD i []=cx (tab s.tabs i).a:=aS (f:=aW.c) default h1;have hm:tab s.tabs i∈s.tabs:=bK default h1;have hgp:(rows aW.c s.tabs).getD (i-1) []=cx (tab s.tabs (i-1)).a:=aS (f:=aW.c) default NB;have d1:=Mr (tab s.tabs (i-1)).cp (tab s.tabs i).cp;have d2:=xV (tab s.tabs i) s.cfg.bals.length (h.bb _ hm);have hf0:∀ {v:Int},pR s i=v->v≠0->F≠0:=fun h0 h2=>by rw[hn,zg h1 (by rw[h0];exact h2),h0];exact h2
  have hf:pR s i=0->F=frE (pR s) (s.tabs.length-(i+1)) (i+1):=fun h0=>by rw[hn,zf h1 h0]
  clear hn bb b7 b8 b9 b10 b11 b12 b13 c6 c7 c8 c9 c10 c11;obtain⟨G,hG⟩:∃G,G=frE (pR s) (s.tabs.length-(i+1)) (i+1):=⟨_,rfl⟩
  rw[<-hG]at hf;unfold pR at hf0 hf;generalize tab s.tabs (i-1)=y at *;generalize tab s.tabs i=x at *;generalize gh x s.cfg.bals.length=V at *;generalize kW y.cp x.cp=C at *;refine bw e1 ?_;refine ah hgd ?_;refine aK (c5) ?_;refine ah hgd ?_;refine aK (d2) ?_;by_cases q6:V=0
  case neg=>
   have k6:(V != 0)=true:=by simp[q6]
   have:=hf0 (v:=1) (by(repeat' split)<;>first|rfl|contradiction) NE;obtain rfl:=r2 (fun c=>this (b6 c));refine aM k6 ?_;exact ai
  have k6:(V != 0)=false:=by simp[q6]
  by_cases qi:i=0
  ·have ki:decide ((i:Int) > 0)=false:=aA NB;have ki':decide ((0:Int)<(i:Int))=false:=aA NB;refine zh k6 ki ki' ?_;refine ah hw ?_;refine⟨i+1,⟨h1,(hf (by rw[al5 (fun h=>NB),al5 (fun h=>h q6)])).trans hG⟩,NB,?_⟩;exact ais [] [0,1]
  ·have ki:decide ((i:Int) > 0)=true:=au NB
   have ki':decide ((0:Int)<(i:Int))=true:=au NB;have hw1:IntKind.i64.wrap ((i:Int)-1)=((i-1:Nat):Int):=by rw[aL NB NB];omega
   have hix:((i-1:Nat):Int)<((s.tabs.length:Nat):Int):=NB
   have hix2:i-1<s.tabs.length:=NB
   refine mP k6 ki ki' hw1 hgd hgp hix hix2 ?_;refine aK (d1) ?_;by_cases q7:0<=C
   ·have k7:decide (C ≥ 0)=true:=au q7;have k7':decide (0<=C)=true:=au q7;have:=hf0 (v:=1) (al7 ⟨NB,q7⟩) NE;obtain rfl:=r2 (fun c=>this (b6 c));refine cH k7 k7' ?_;exact ai
   ·have k7:decide (C ≥ 0)=false:=aA q7;have k7':decide (0<=C)=false:=aA q7;refine fp k7 k7' ?_;refine ah hw ?_;refine⟨i+1,⟨h1,(hf (by rw[al5 (fun h=>q7 h.2),al5 (fun h=>h q6)])).trans hG⟩,NB,?_⟩;exact ais [] [0,1]
 ·obtain rfl:i=s.tabs.length:=NB
  have e1:=inF (s.tabs.length);rw[ze]at hn;subst hn;refine aF e1 ?_;refine aK (c5) ?_;refine gon ?_;refine aK (c6) ?_;cases VV with
  | false =>
    obtain rfl:=r2 (fun c=>by have:=b7 c;cases this);refine aX ?_;exact ai
  |true=>
  refine gon ?_;by_cases q8:s.boost=rt0
  case neg=>
   repeat(first|refine bY ?_|simp only[go_sem,aA q8])
   refine aK (c7) ?_;by_cases q9:0<=FB
   case neg=>
    have k9:decide (FB<0)=true:=au NB;obtain rfl:=r2 (fun c=>(b8 c).elim q8 q9);refine aM k9 ?_;exact ai
   have k9:decide (FB<0)=false:=aA NB;by_cases q10:s.now<=1099511627776
   case neg=>
    have k10:decide (s.now > 1099511627776)=true:=au NB;have k10':decide ((1099511627776:Int)<s.now)=true:=au NB;obtain rfl:=r2 (fun c=>q10 (b9 c));refine fI k9 k10 k10' ?_;exact ai
   have k10:decide (s.now > 1099511627776)=false:=aA NB;have k10':decide ((1099511627776:Int)<s.now)=false:=aA NB;refine wg k9 k10 k10' ?_;refine aK (c8) ?_;by_cases q11:s.j.ep<=EN
   case neg=>
    have k11:decide (s.j.ep > EN)=true:=au NB;have k11':decide (EN<s.j.ep)=true:=au NB;obtain rfl:=r2 (fun c=>q11 (b10 c));refine cH k11 k11' ?_;exact ai
   have k11:decide (s.j.ep > EN)=false:=aA NB;have k11':decide (EN<s.j.ep)=false:=aA NB;refine aZ k11 k11' ?_;refine aK (c9) ?_;cases ES with
   | false =>
     obtain rfl:=r2 (fun c=>by have:=b11 c;cases this);refine aX ?_;exact ai
   |true=>
   refine gon ?_;refine aK (c10) ?_;cases NV with
   | true =>
     obtain rfl:=r2 (fun c=>by have:=b12 c;cases this);refine aX ?_;exact ai
   |false=>
   refine gon ?_;refine aK (c11) ?_;cases QV with
   | false =>
     obtain rfl:=r2 (fun c=>by have:=b13 c;cases this);refine aX ?_;exact ai
   | true =>
     obtain rfl:=bb q1 q2 q3 q4 q5 rfl rfl (.inr q9) q10 q11 rfl rfl rfl;refine bk ?_;exact ai
  by_cases q10:s.now<=1099511627776
  case neg=>
   have k10:decide (s.now > 1099511627776)=true:=au NB;have k10':decide ((1099511627776:Int)<s.now)=true:=au NB;obtain rfl:=r2 (fun c=>q10 (b9 c));repeat(first|refine bY ?_|simp only[go_sem,au q8,k10,k10'])
   refine agF ?_;exact ai
  have k10:decide (s.now > 1099511627776)=false:=aA NB;have k10':decide ((1099511627776:Int)<s.now)=false:=aA NB;repeat(first|refine bY ?_|simp only[go_sem,au q8,k10,k10'])
  refine agE ?_;refine aK (c8) ?_;by_cases q11:s.j.ep<=EN
  case neg=>
   have k11:decide (s.j.ep > EN)=true:=au NB;have k11':decide (EN<s.j.ep)=true:=au NB;obtain rfl:=r2 (fun c=>q11 (b10 c));refine cH k11 k11' ?_;exact ai
  have k11:decide (s.j.ep > EN)=false:=aA NB;have k11':decide (EN<s.j.ep)=false:=aA NB;refine aZ k11 k11' ?_;refine aK (c9) ?_;cases ES with
  | false =>
    obtain rfl:=r2 (fun c=>by have:=b11 c;cases this);refine aX ?_;exact ai
  |true=>
  refine gon ?_;refine aK (c10) ?_;cases NV with
  | true =>
    obtain rfl:=r2 (fun c=>by have:=b12 c;cases this);refine aX ?_;exact ai
  |false=>
  refine gon ?_;refine aK (c11) ?_;cases QV with
  | false =>
    obtain rfl:=r2 (fun c=>by have:=b13 c;cases this);refine aX ?_;exact ai
  | true =>
    obtain rfl:=bb q1 q2 q3 q4 q5 rfl rfl (.inl q8) q10 q11 rfl rfl rfl;refine bk ?_;exact ai
end Go.Proofs.YtblipkgpoaonaaaGreat
