/- Joined. -/
import Derived.Test.YtmpddimhleianaaGreatW3
import Derived.Test.YtmpddimhleianaaGreatChecked
import Derived.KernelRfl
import Derived.Test.YtmpddimhleianaaGreatP1
import Derived.Test.YtmpddimhleianaaGreatT6
import Derived.Test.YtmpddimhleianaaGreatE5
import Derived.Test.YtmpddimhleianaaGreatW7
import Derived.Test.YtmpddimhleianaaGreatE7
import Derived.Test.YtmpddimhleianaaGreatP5
set_option linter.unusedVariables false
set_option linter.unusedSimpArgs false
set_option maxRecDepth 100000
set_option maxHeartbeats 4000000
namespace Go.FH
open Go Go.RowKit
section
variable{H:Type}{enc:TypeId×Value->H}{P:Program}{w:World}
theorem FY{t:TypeId}{v:Value}{d:DataW H}{p:List MemPlace}{r:Reach}{base:Nat}(k:IntKind)(ht:P.underlying t=some (.int k))(hv:Value.okWide P w r base t v)(hd:DataW.Trod enc P w 0 (fun _=>true) true t v d p):
 ∃n,(Lit.int k n).wf=true/\Rl (C4 w) (.int k n) v:=by
 obtain⟨n,rfl,_,_,hw⟩:=ChangeShapes.open_int ht hv hd;exact⟨n,hw,rfl⟩
end
section
variable{H:Type}{enc:TypeId×Value->H}{P:Program}{w:World}
end
end Go.FH
namespace Go.Proofs.YtmpddimhleianaaGreat
open Go Go.FH
def jK:ab:=(sR [wZ 2 2 0,wS 4 false]
(.seq (sR [fA 6 0 2,lF 7 1 6,lN 8 7,om 9 1,bI 10 .neq 8 9]
(cN 10
(sR [wS 4 false]
.ret)
.skip))
(.seq (sR [wR 5 0]
(.block 0 (.loop (.seq (sR [om 11 5,fA 12 0 2,lF 13 1 12,lN 14 13,bI 15 .lss 11 14]
(cN 15
.skip
(.exit 0)))
(.seq (.block 1 (sR [fA 18 0 2,lF 19 1 18,om 20 5,iX 21 34 19 20,fA 22 0 21,lF 23 1 22,wO 24 23,om 25 24,wB 26 0 2 25,wD 27 1 26 25,wH 28 5 25,wU 29 34 27 28 25,wF 30 34 29 25,og 31 (.bld (al dL) []) 25 true,og 32 (.eqa [(1,0),(33,1)] true (.t 30) (.t 31)) 25 true,wN 33 25 32]
(cN 33
(sR [wS 4 false]
.ret)
.skip)))
(.reg [om 16 5,bC 17 .add 16 (ci 1),om 5 17]))))))
(sR [fA 34 1 2,lF 35 1 34,lN 36 35,bC 37 .eql 36 (ci 0),om 38 37,wA 39 1 2 38,wC 40 1 39 38,wG 41 1 38,wX 42 132 40 41 38,wK 43 .eql 42 (ci 0) 38,wM 44 38 43,om 4 44]
.ret))))
theorem Bv:aJ Tryz.prog 70=some (45,[.tmp 4],jK):=by kernel_rfl
end Go.Proofs.YtmpddimhleianaaGreat
namespace Go.Proofs.YtmpddimhleianaaGreat
open Go Go.FH Go.RowKit
theorem Uc(t:List Nod)(hb:t.length<=2097152):PC Tryz.prog 63 [.agg [.sl 240 false (rows bB t)]] (.int .i64 (nU t)):=by
 refine ae 5 ?_;obtain⟨R,hR⟩:∃R,R=nU t:=⟨_,rfl⟩
 rw[<-hR];unfold nU at hR;by_cases q0:t.length=0
 ·have e0:((t.length:Int)==0)=true:=WO
  rw[al7 (.inl q0)]at hR;subst hR;repeat(first|refine bY ?_|simp_all)
  refine agF ?_;exact ai
 have e0:((t.length:Int)==0)=false:=WO
 by_cases q1:4096<t.length
 ·have e1:decide ((t.length:Int) > 4096)=true:=au WL;have e1':decide ((4096:Int)<(t.length:Int))=true:=au WL;rw[al7 (.inr q1)]at hR;subst hR;refine fI e0 e1 e1' ?_;exact ai
 have e1:decide ((t.length:Int) > 4096)=false:=aA WL;have e1':decide ((4096:Int)<(t.length:Int))=false:=aA WL;rw[al5 (fun h=>h.elim q0 q1)]at hR;refine wg e0 e1 e1' ?_;refine az (fun i:Nat=>[(3,.int .i64 i)]) (fun i=>[.var [.sl 240 false (rows bB t)]]) (fun i=>t.length-i) (fun i=>i<=t.length/\R=frE (An t) (t.length-i) i) 0 ⟨amc _,hR⟩ ?_ ?_
 ·exact ais [] [0]
 clear hR e0 e1 e1';rintro i ⟨hi,hn⟩;refine dp ?_;by_cases h1:i<t.length
 ·have e1:=inT h1
  have hw:=af h1 WL;have hgd:(rows bB t).getD i []=bB (nod t i):=aS (f:=bB) gr h1;have c1:=MK (nod t i).status;have c2:=cC (t.take i) (nod t i).blk.root (by rw[amA];omega);have htk:(rows bB t).take i=rows bB (t.take i):=si _ _ _;have ht:∀ {v:Int},An t i=v->v≠0->R=v:=fun h0 h2=>by rw[hn,xH h1 (by rw[h0];exact h2),h0]
  have hf:An t i=0->R=frE (An t) (t.length-(i+1)) (i+1):=fun h0=>by rw[hn,xi h1 h0]
  clear hn;have hU:∀k:Nat,(nod t i).up=k->k<i->(rows bB t).getD (nod t i).up.toNat []=bB (nod t (nod t i).up.toNat):=fun k hk hki=>aS (f:=bB) gr WL
  obtain⟨G,hG⟩:∃G,G=frE (An t) (t.length-(i+1)) (i+1):=⟨_,rfl⟩
  rw[<-hG]at hf;unfold An at ht hf;simp only[<-vW]at ht hf;have hile:(i:Int)<=((t.length:Nat):Int):=WL
  generalize hx:nod t i=x at *;generalize aj (t.take i) x.blk.root=I at *;unfold nA at c2;generalize htk0:rows bB (t.take i)=tk at *;refine bw e1 ?_;refine ah hgd ?_;refine am c1 ?_;by_cases q1:0<=x.status/\x.status<=2
  case neg=>
   have k1:(decide (0<=x.status)&&decide (x.status<=2))=false:=by rw[akJ,ami,ami];omega
   obtain rfl:=ht (al7 q1) WN;refine aM k1 ?_;exact ai
  have k1:(decide (0<=x.status)&&decide (x.status<=2))=true:=by simp[q1]
  rw[al5 (fun h=>h q1)]at ht hf;by_cases qi:i=0
  ·subst qi
   obtain rfl:[]=tk:=htk0;by_cases q2:x.up=-1
   case neg=>
    have k2:(x.up != -1)=true:=by simp[q2]
    obtain rfl:=ht (al7 ⟨rfl,q2⟩) WN;refine cH k1 k2 ?_;exact ai
   have k2:(x.up != -1)=false:=by simp[q2]
   rw[al5 (fun h=>h.2 q2),al5 WL]at ht hf;refine fp k1 k2 ?_;refine ah htk ?_;refine aK (c2) ?_;by_cases q3:0<=I
   ·have k3:decide (I ≥ 0)=true:=au q3;have k3':decide (0<=I)=true:=au q3;obtain rfl:=ht (al7 q3) WN;refine cH k3 k3' ?_;exact ai
   have k3:decide (I ≥ 0)=false:=aA q3;have k3':decide (0<=I)=false:=aA q3;rw[al5 q3]at ht hf;refine fU k3 k3' ?_;refine aB ?_;refine dQ ?_;refine ah hw ?_;refine⟨0+1,⟨h1,(hf (al7 rfl)).trans hG⟩,WL,?_⟩;exact ais [] [0]
  ·have ki:((i:Int)==0)=false:=by simp;omega
   have kp:decide ((i:Int) > 0)=true:=au WL;have kp':decide ((0:Int)<(i:Int))=true:=au WL;rw[al5 (fun h=>qi h.1)]at ht hf;by_cases q2:x.up<0
   ·have k2:=au q2;obtain rfl:=ht (al7 ⟨WL,.inl q2⟩) WN;refine eU k1 ki kp kp' k2 ?_;refine agF ?_;exact ai
   have k2:=aA q2;by_cases q3:(i:Int)<=x.up
   ·have k3:decide (x.up ≥ (i:Int))=true:=au q3;have k3':decide ((i:Int)<=x.up)=true:=au q3;obtain rfl:=ht (al7 ⟨WL,.inr q3⟩) WN;refine jj k1 ki kp kp' k2 k3 k3' ?_;refine agF ?_;exact ai
   have k3:decide (x.up ≥ (i:Int))=false:=aA q3;have k3':decide ((i:Int)<=x.up)=false:=aA q3;rw[al5 (fun h=>h.2.elim q2 q3)]at ht hf;have hU:=hU x.up.toNat WL WL;have hub:decide (x.up<((t.length:Nat):Int))=true:=au WL;have hu0:0<=x.up:=WL
   have hu1:x.up<((t.length:Nat):Int):=WL
   generalize nod t x.up.toNat=y at *;refine jj k1 ki kp kp' k2 k3 k3' ?_;refine aB ?_;refine ah htk ?_;refine aK (c2) ?_;by_cases q4:0<=I
   ·have k4:decide (I ≥ 0)=true:=au q4;have k4':decide (0<=I)=true:=au q4;obtain rfl:=ht (al7 q4) WN;refine cH k4 k4' ?_;exact ai
   have k4:decide (I ≥ 0)=false:=aA q4;have k4':decide (0<=I)=false:=aA q4;rw[al5 q4,al5 qi]at ht hf;refine fp k4 k4' ?_;refine dC kp kp' hU ?_;by_cases q5:x.blk.parent=y.blk.root
   case neg=>
    have k5:(decide (x.blk.parent=y.blk.root) != true)=true:=by simp[q5]
    obtain rfl:=ht (al7 q5) WN;repeat(first|refine bY ?_|simp only[go_sem,k5,aA q5])
    refine agF ?_;exact ai
   rw[al5 (fun h=>h q5)]at ht hf;repeat(first|refine bY ?_|simp only[go_sem,au q5])
   refine aB ?_;refine dC kp kp' hU ?_;by_cases q6:x.blk.slot<=y.blk.slot
   ·have k6:=au q6;obtain rfl:=ht (al7 q6) WN;refine aM k6 ?_;exact ai
   have k6:=aA q6;rw[al5 q6]at ht hf;refine bJ k6 ?_;refine ah hw ?_;refine⟨i+1,⟨h1,(hf rfl).trans hG⟩,WL,?_⟩;exact ais [] [0]
 ·obtain rfl:i=t.length:=WL
  have e1:=inF (t.length);rw[wd]at hn;subst hn;refine aF e1 ?_;exact ai
theorem B0(t:List Nod)(hb:t.length<=2097152):PC Tryz.prog 31 [.agg [.sl 240 false (rows bB t)]] (.int .i64 (statV t)):=by
 refine ae 7 ?_;have c1:=Uc t hb;obtain⟨R,hR⟩:∃R,R=statV t:=⟨_,rfl⟩
 rw[<-hR];unfold statV at hR;have hok:=fun h=>xu (t:=t) h
 generalize nU t=V at *;refine gon ?_;refine am c1 ?_;by_cases q1:V=0
 case neg=>
  have e1:(V != 0)=true:=WO
  rw[al7 q1]at hR;subst hR;refine aM e1 ?_;exact ai
 have e1:(V != 0)=false:=WO
 rw[al5 WL]at hR;obtain⟨ht,hl⟩:=hok q1;have hp:=ht.pos;refine aF e1 ?_;refine az (fun i:Nat=>[(4,.int .i64 i)]) (fun i=>[.var [.sl 240 false (rows bB t)]]) (fun i=>t.length-i) (fun i=>1<=i/\i<=t.length/\R=frE (Go.FH.ej t) (t.length-1-(i-1)) (i-1)) 1 ⟨amb _,hp,hR⟩ ?_ ?_
 ·exact ais [] [0]
 clear hR e1;rintro i ⟨h0,hi,hn⟩;refine dp ?_;by_cases h1:i<t.length
 ·have e1:=inT h1
  have hw:=af h1 WL;obtain⟨k,rfl⟩:∃k,i=k+1:=⟨i-1,WL⟩
  have hk:k+1-1=k:=rfl;rw[hk]at hn;have hgd:(rows bB t).getD (k+1) []=bB (nod t (k+1)):=aS (f:=bB) gr h1;have hf0:∀ {v:Int},Go.FH.ej t k=v->v≠0->R=v:=fun h0 h2=>by rw[hn,xH WL (by rw[h0];exact h2),h0]
  have hf:Go.FH.ej t k=0->R=frE (Go.FH.ej t) (t.length-1-(k+1)) (k+1):=fun h0=>by rw[hn,xi WL h0]
  clear hn;obtain⟨u0,u1⟩:=ht.ok (k+1) WL WL;have hU:(rows bB t).getD (nod t (k+1)).up.toNat []=bB (nod t (nod t (k+1)).up.toNat):=aS (f:=bB) gr WL;have hub:decide ((nod t (k+1)).up<((t.length:Nat):Int))=true:=au WL;have hun:decide (0<=(nod t (k+1)).up)=true:=au u0;have hu1:(nod t (k+1)).up<((t.length:Nat):Int):=WL
  have hix:((k+1:Nat):Int)<((t.length:Nat):Int):=WL
  unfold Go.FH.ej at hf0 hf;generalize nod t (k+1)=x at *;generalize nod t x.up.toNat=y at *;generalize hK:k+1=K at *;refine bw e1 ?_;refine aZ hgd hU ?_;by_cases q1:x.status=1
  ·have k1:(x.status==1)=true:=by simp[q1]
   by_cases q2:y.status=1
   ·have k2:(y.status != 1)=false:=by simp[q2]
    have k3:(y.status==2)=false:=by simp[q2]
    refine zh k1 k2 k3 ?_;refine ah hw ?_;refine⟨K+1,⟨WL,h1,hf (al5 (by rintro (h|h);exact h.2 q2;have:=h.1;omega))⟩,WL,?_⟩;exact ais [] [0]
   ·have k2:(y.status != 1)=true:=by simp[q2]
    obtain rfl:=hf0 (al7 (.inl ⟨q1,q2⟩)) WN;refine cH k1 k2 ?_;exact ai
  ·have k1:(x.status==1)=false:=by simp[q1]
   by_cases q2:y.status=2
   ·have k2:(y.status==2)=true:=by simp[q2]
    by_cases q3:x.status=2
    ·have k3:(x.status != 2)=false:=by simp[q3]
     refine zh k1 k2 k3 ?_;refine ah hw ?_;refine⟨K+1,⟨WL,h1,hf (al5 (by rintro (h|h);exact q1 h.1;exact h.2 q3))⟩,WL,?_⟩;exact ais [] [0]
    ·have k3:(x.status != 2)=true:=by simp[q3]
     obtain rfl:=hf0 (al7 (.inr ⟨q2,q3⟩)) WN;refine fI k1 k2 k3 ?_;exact ai
   ·have k2:(y.status==2)=false:=by simp[q2]
    refine fp k1 k2 ?_;refine ah hw ?_;refine⟨K+1,⟨WL,h1,hf (al5 (by rintro (h|h);exact q1 h.1;exact q2 h.1))⟩,WL,?_⟩;exact ais [] [0]
 ·obtain rfl:i=t.length:=WL
  have e1:=inF (t.length);rw[wd]at hn;subst hn;refine aF e1 ?_;exact ai
theorem Tg(latest:List Vot)(eqv:List Int)(n:Nat)(hl:latest.length<=2097152)(he:eqv.length<=2097152):PC Tryz.prog 70 [.agg [.sl 34 false (rows al latest),.sl 1 false (aH .i64 eqv)],.int .i64 n]
 (.bool (decide (latest.length=n)&&(!(dW (fun i=>!(vot latest i).has&&decide (vot latest i≠dL)) latest.length).isSome&&(decide (eqv.length=0) || decide (cE eqv n=0))))):=by
 refine pfn 6 Bv ?_;unfold jK;refine bd ?_;have c1:=gl eqv false n WL;by_cases q0:latest.length=n
 case neg=>
  have e0:((latest.length:Int) != (n:Int))=true:=WO
  rw[aA q0,ajq];refine aM e0 ?_;exact ai
 have e0:((latest.length:Int) != (n:Int))=false:=WO
 rw[au q0,am2];obtain⟨R,hR⟩:∃R,R=dW (fun i=>!(vot latest i).has&&decide (vot latest i≠dL)) latest.length:=⟨_,rfl⟩
 rw[<-hR];have hR:R=iK (fun i=>!(vot latest i).has&&decide (vot latest i≠dL)) (latest.length-0) 0:=hR;generalize cE eqv n=V at *;refine aF e0 ?_;refine az (fun i:Nat=>[(5,.int .i64 i)]) (fun i=>[.var [.sl 34 false (rows al latest),.sl 1 false (aH .i64 eqv)]]) (fun i=>latest.length-i) (fun i=>i<=latest.length/\R=iK (fun i=>!(vot latest i).has&&decide (vot latest i≠dL)) (latest.length-i) i) 0 ⟨amc _,hR⟩ ?_ ?_
 ·exact ais [] [0]
 clear hR e0;rintro i ⟨hi,hn⟩;refine dp ?_;by_cases h1:i<latest.length
 ·have e1:=inT h1
  have hw:=af h1 WL;have hgd:(rows al latest).getD i []=al (vot latest i):=aS (f:=al) dL h1;have ht:(!(vot latest i).has&&decide (vot latest i≠dL))=true->R=some i:=fun h=>by rw[hn,nB h1 h]
  have hf:(!(vot latest i).has&&decide (vot latest i≠dL))=false->R=iK (fun i=>!(vot latest i).has&&decide (vot latest i≠dL)) (latest.length-(i+1)) (i+1):=fun h=>by rw[hn,nz h1 h]
  clear hn;have hv0:al dL=al ⟨false,0,rt0⟩:=rfl;generalize vot latest i=x at *;refine bw e1 ?_;refine ah hgd ?_;by_cases q1:x.has=true
  ·have k1:x.has=true:=q1;rw[q1]at hf;refine fp hgd k1 ?_;refine ah hw ?_;refine⟨i+1,⟨h1,hf rfl⟩,WL,?_⟩;exact ais [] [0]
  ·have k1:x.has=false:=by simpa using q1
   by_cases q2:x=dL
   ·have k2:decide (x=⟨false,0,rt0⟩)=true:=au q2;rw[k1,aA (fun h=>h q2)]at hf;refine zh hgd k1 k2 ?_;refine ah hw ?_;refine⟨i+1,⟨h1,hf rfl⟩,WL,?_⟩;exact ais [] [0]
   ·have k2:decide (x=⟨false,0,rt0⟩)=false:=aA q2;obtain rfl:=ht (by rw[k1,au q2];rfl);refine fI hgd k1 k2 ?_;exact ai
 ·obtain rfl:i=latest.length:=WL
  have e1:=inF (latest.length);rw[nu]at hn;subst hn;refine bJ e1 ?_;by_cases q3:eqv.length=0
  ·have k3:((eqv.length:Int)==0)=true:=by simp[q3]
   rw[au q3];refine ah k3 ?_;exact ai
  ·have k3:((eqv.length:Int)==0)=false:=by simp;intro h;exact q3 (by simp[h])
   rw[aA q3,aj9];refine ah k3 ?_;refine ahG c1 ?_;exact ai
theorem Tf(s:ap)(hb:s.nodes.length<=2097152)(h0:s.cfg.spe≠0):PC Tryz.prog 73 [.agg (aE s.a)] (.bool (!(dW (fun i=>decide (s.now<(nod s.nodes i).blk.slot) || !pY s (nod s.nodes i).blk) s.nodes.length).isSome)):=by
 refine ae 4 ?_;obtain⟨R,hR⟩:∃R,R=dW (fun i=>decide (s.now<(nod s.nodes i).blk.slot) || !pY s (nod s.nodes i).blk) s.nodes.length:=⟨_,rfl⟩
 rw[<-hR];have hR:R=iK (fun i=>decide (s.now<(nod s.nodes i).blk.slot) || !pY s (nod s.nodes i).blk) (s.nodes.length-0) 0:=hR;refine gon ?_;refine az (fun i:Nat=>[(3,.int .i64 i)]) (fun i=>[.var (aE s.a)]) (fun i=>s.nodes.length-i) (fun i=>i<=s.nodes.length/\R=iK (fun i=>decide (s.now<(nod s.nodes i).blk.slot) || !pY s (nod s.nodes i).blk) (s.nodes.length-i) i) 0 ⟨amc _,hR⟩ ?_ ?_
 ·exact ais [] [0]
 clear hR;rintro i ⟨hi,hn⟩;refine dp ?_;by_cases h1:i<s.nodes.length
 ·have e1:=inT h1
  have hw:=af h1 WL;have hgd:(rows bB s.nodes).getD i []=bB (nod s.nodes i):=aS (f:=bB) gr h1;have c1:=CA s (nod s.nodes i).blk h0;have ht:(decide (s.now<(nod s.nodes i).blk.slot) || !pY s (nod s.nodes i).blk)=true->R=some i:=fun h=>by rw[hn,nB h1 h]
  have hf:(decide (s.now<(nod s.nodes i).blk.slot) || !pY s (nod s.nodes i).blk)=false->R=iK (fun i=>decide (s.now<(nod s.nodes i).blk.slot) || !pY s (nod s.nodes i).blk) (s.nodes.length-(i+1)) (i+1):=fun h=>by rw[hn,nz h1 h]
  clear hn;generalize nod s.nodes i=x at *;generalize pY s x.blk=O at *;refine bw e1 ?_;by_cases q1:s.now<x.blk.slot
  ·have k1:decide (x.blk.slot > s.now)=true:=au q1;have k1':decide (s.now<x.blk.slot)=true:=au q1;obtain rfl:=ht WO;refine fI hgd k1 k1' ?_;exact ai
  ·have k1:decide (x.blk.slot > s.now)=false:=aA q1
   have k1':decide (s.now<x.blk.slot)=false:=aA q1;rw[k1',aj9]at ht hf;refine dC hgd k1 k1' ?_;refine aK (c1) ?_;cases O with
   | true =>
     refine dQ ?_;refine ah hw ?_;refine⟨i+1,⟨h1,hf rfl⟩,WL,?_⟩;exact ais [] [0]
   | false =>
     obtain rfl:=ht rfl;refine aX ?_;exact ai
 ·obtain rfl:i=s.nodes.length:=WL
  have e1:=inF (s.nodes.length);rw[nu]at hn;subst hn;refine aF e1 ?_;exact ai
theorem Vo{s:ap}{i:Nat}(h:(dn s.orph i).root=rt0\/0<=aj s.nodes (dn s.orph i).root\/0<=aj s.nodes (dn s.orph i).parent\/(dn s.orph i).timely=true\/s.now<(dn s.orph i).slot\/(dn s.orph i).slot<=(dk s.f.ep s.cfg.spe).1\/(dn s.orph i).root∈(s.orph.take i).map (·.root)):qt s i≠0:=by
 rw[vW,vW]at h;unfold qt tn;(repeat' split)<;>first|decide|(rcases h with h|h|h|h|h|h|h<;>contradiction)
theorem To (s : ap) (hn : s.nodes.length <= 2097152) (he : s.early.length <= 2097152) (ho : s.orph.length <= 2097152) (hv : ∀ a ∈ s.early, a.vals.length <= 2097152) : PC Tryz.prog 74 [.agg (aE s.a)] (.bool (zV s)) := by
 refine ae 9 ?_;unfold zV;obtain⟨E,hE⟩:∃E,E=frE (eaE s) (s.early.length-0) 0:=⟨_,rfl⟩
 obtain⟨O,hO⟩:∃O,O=frE (qt s) (s.orph.length-0) 0:=⟨_,rfl⟩
 rw[<-hE,<-hO];have c0:=sq s;refine gon ?_;refine az (fun i:Nat=>[(3,.int .i64 i)]) (fun i=>[.var (aE s.a)]) (fun i=>s.early.length-i) (fun i=>i<=s.early.length/\E=frE (eaE s) (s.early.length-i) i) 0 ⟨amc _,hE⟩ ?_ ?_
 ·exact ais [] [0]
 clear hE;rintro i ⟨hi,hE⟩;refine dp ?_;by_cases h1:i<s.early.length
 ·have e1:=inT h1
  have hw:=af h1 WL;have hgd:(rows bp.c s.early).getD i []=cy (gO s.early i).a:=aS (f:=bp.c) default h1;have hm:gO s.early i∈s.early:=bK default h1;have c1:=gl (gO s.early i).vals false s.cfg.bals.length (by have:=hv _ hm;omega);have hf0:∀ {v:Int},eaE s i=v->v≠0->E=v:=fun h0 h2=>by rw[hE,xH h1 (by rw[h0];exact h2),h0]
  have hf1:eaE s i=0->E=frE (eaE s) (s.early.length-(i+1)) (i+1):=fun h0=>by rw[hE,xi h1 h0]
  clear hE;unfold eaE at hf0 hf1;generalize cE (gO s.early i).vals s.cfg.bals.length=V at *;refine bw e1 ?_;refine ah hgd ?_;refine aK (c0) ?_;refine ah hgd ?_;refine aK (c1) ?_;by_cases q:V=0
  ·have k:(V != 0)=false:=by simp[q]
   refine bJ k ?_;refine ah hw ?_;refine⟨i+1,⟨h1,hf1 q⟩,WL,?_⟩;exact ais [] [0]
  ·have k:(V != 0)=true:=by simp[q]
   obtain rfl:=hf0 rfl q;rw[aA q,ajq];refine aM k ?_;exact ai
 ·obtain rfl:i=s.early.length:=WL
  have e1:=inF (s.early.length);rw[wd]at hE;subst hE;rw[au rfl,am2];clear hi h1;have c2:=jU s s.f.ep;obtain⟨S,hS⟩:∃S,S=da s s.f.ep:=⟨_,rfl⟩
  have hS1:S.1=(dk s.f.ep s.cfg.spe).1:=by rw[hS];rfl
  rw[<-hS]at c2;obtain⟨S1,S2⟩:=S;clear hS;dsimp only at c2 hS1;refine aF e1 ?_;refine ahG c2 ?_;refine az (fun i:Nat=>[(6,.int .i64 i)]) (fun i=>[.var (aE s.a)]) (fun i=>s.orph.length-i) (fun i=>i<=s.orph.length/\O=frE (qt s) (s.orph.length-i) i) 0 ⟨amc _,hO⟩ ?_ ?_
  ·exact ais [] [0]
  clear hO e1;rintro i ⟨hi,hO⟩;refine dp ?_;by_cases h1:i<s.orph.length
  ·have e1:=inT h1
   have hw:=af h1 WL;have hgd:(rows aO s.orph).getD i []=aO (dn s.orph i):=aS (f:=aO) cw h1;have hf0:qt s i≠0->O≠0:=fun h0=>by rw[hO,xH h1 h0];exact h0
   have hf1:qt s i=0->O=frE (qt s) (s.orph.length-(i+1)) (i+1):=fun h0=>by rw[hO,xi h1 h0]
   clear hO;have c3:=cC s.nodes (dn s.orph i).root hn;have c4:=cC s.nodes (dn s.orph i).parent hn;have yy:=fun h=>hf0 (Vo (s:=s) (i:=i) h)
   have nn:=fun a1 a2 a3 a4 a5 a6 a7=>hf1 (ab1 (s:=s) (i:=i) a1 a2 a3 a4 a5 a6 a7)
   rw[<-hS1]at yy nn;clear hf0 hf1
   have hin:∀k,k<i->dn s.orph k∈s.orph.take i:=fun k hk=>by
    unfold dn;rw[alt,al6 WL];exact ajt.2 ⟨k,WL,rfl⟩
   have hout:∀b∈s.orph.take i,∃k,k<i/\dn s.orph k=b:=fun b hb=>by
    obtain⟨k,hk,he⟩:=ajt.1 hb;refine⟨k,WL,?_⟩;unfold dn;rw[alt,al6 WL];exact he
   generalize hx:dn s.orph i=x at *;generalize aj s.nodes x.root=I at *;generalize aj s.nodes x.parent=J at *;unfold nA at c3 c4;refine bw e1 ?_;by_cases q1:x.root=rt0
   ·have k1:=au q1;rw[aA (yy (.inl q1))];refine cH hgd k1 ?_;exact ai
   have k1:=aA q1;refine aZ hgd k1 ?_;refine am c3 ?_;by_cases q2:0<=I
   ·have k2:decide (I ≥ 0)=true:=au q2;have k2':decide (0<=I)=true:=au q2;rw[aA (yy (.inr (.inl q2)))];refine cH k2 k2' ?_;exact ai
   have k2:decide (I ≥ 0)=false:=aA q2;have k2':decide (0<=I)=false:=aA q2;refine aZ k2 k2' ?_;refine am c4 ?_;by_cases q3:0<=J
   ·have k3:decide (J ≥ 0)=true:=au q3;have k3':decide (0<=J)=true:=au q3;rw[aA (yy (.inr (.inr (.inl q3))))];refine cH k3 k3' ?_;exact ai
   have k3:decide (J ≥ 0)=false:=aA q3;have k3':decide (0<=J)=false:=aA q3;by_cases q4:x.timely=true
   ·rw[aA (yy (.inr (.inr (.inr (.inl q4)))))];refine fI k3 k3' q4 ?_;exact ai
   have k4:x.timely=false:=by simpa using q4
   by_cases q5:s.now<x.slot
   ·have k5:decide (x.slot > s.now)=true:=au q5;have k5':decide (s.now<x.slot)=true:=au q5;rw[aA (yy (.inr (.inr (.inr (.inr (.inl q5))))))];refine eU k3 k3' k4 k5 k5' ?_;refine agF ?_;exact ai
   have k5:decide (x.slot > s.now)=false:=aA q5;have k5':decide (s.now<x.slot)=false:=aA q5;by_cases q6:x.slot<=S1
   ·have k6:=au q6;rw[aA (yy (.inr (.inr (.inr (.inr (.inr (.inl q6)))))))];refine fG k3 k3' k4 k5 k5' k6 ?_;refine agF ?_;exact ai
   have k6:=aA q6;refine fG k3 k3' k4 k5 k5' k6 ?_;refine agE ?_;clear c3 c4 k1 k2 k2' k3 k3' k4 k5 k5' k6;refine az (fun k:Nat=>[(8,.int .i64 k)]) (fun k=>[.var (aE s.a),.var (aO x)]) (fun k=>i-k) (fun k=>k<=i/\∀m,m<k->(dn s.orph m).root≠x.root) 0 ⟨amc _,fun m hm=>absurd hm (aju m)⟩ ?_ ?_
   ·exact ais [] [0,1]
   rintro k ⟨hk,hm⟩;refine dp ?_;by_cases h2:k<i
   ·have e2:=inT h2
    have hwk:=af h2 WL;have hgk:(rows aO s.orph).getD k []=aO (dn s.orph k):=aS (f:=aO) cw WL;have hxk:k<s.orph.length:=WL
    have hyk:=hin k h2;generalize hy:dn s.orph k=y at *;refine bw e2 ?_;by_cases q7:y.root=x.root
    ·have k7:=au q7;rw[aA (yy (.inr (.inr (.inr (.inr (.inr (.inr (by rw[<-q7];exact List.mem_map_of_mem hyk))))))))];refine fI hgk k7 hxk ?_;exact ai
    ·have k7:=aA q7
     refine zh hgk k7 hxk ?_;refine ah hwk ?_;refine⟨k+1,⟨h2,fun m h3=>?_⟩,WL,?_⟩
     ·by_cases h4:m=k
      ·subst h4;rw[hy];exact q7
      ·exact hm m WL
     ·exact ais [] [0,1]
   ·obtain rfl:k=i:=WL
    have e2:=inF k
    have hz:x.root∉(s.orph.take k).map (·.root):=fun h=>by
     obtain⟨b,hb,he⟩:=amV.1 h;obtain⟨m,hm1,hm2⟩:=hout b hb;exact hm m hm1 (by rw[hm2];exact he)
    refine bJ e2 ?_;refine ah hw ?_;refine⟨k+1,⟨h1,nn q1 q2 q3 (by simpa using q4) q5 q6 hz⟩,WL,?_⟩;exact ais [] [0]
  ·obtain rfl:i=s.orph.length:=WL
   have e1:=inF (s.orph.length);rw[wd]at hO;subst hO;rw[au rfl];refine aF e1 ?_;exact ai
theorem Vm(c:cU):(O0 c).2=ib c:=by
 unfold O0;split
 ·rename_i h;exact h.symm
 ·rfl
theorem UK(s:ap)(h:Qw s)(hnw:U64 s.now):PC Tryz.prog 34 [.agg (aE s.a)] (.int .i64 (oL s)):=by
 refine ae 8 ?_;obtain⟨R,hR⟩:∃R,R=oL s:=⟨_,rfl⟩
 rw[<-hR];have c1:=RL s.cfg h.bc;have c2:=B0 s.nodes h.bn;have c3:=cC s.nodes s.j.rt h.bn;have c4:=ow s.tabs s.j h.bt;have c5:=sq s;have c6:=Tg s.latest s.eqv s.cfg.bals.length h.bl h.be;have c7:=cC s.nodes s.boost h.bn;have c11:=To s h.bn h.ba h.bo h.bv;have n2:=Vm s.cfg;unfold nA at c3 c7;generalize O0 s.cfg=NS at *;obtain⟨NS1,NS2⟩:=NS;dsimp only at c1 n2;refine gon ?_;refine am c1 ?_;by_cases q1:ib s.cfg=0
 case neg=>
  have k1:(NS2 != 0)=true:=by simp[n2,q1]
  have:R=NS2:=by rw[hR,n2];unfold oL;rw[al7 q1]
  subst this;refine aM k1 ?_;exact ai
 have k1:(NS2 != 0)=false:=by simp[n2,q1]
 refine aF k1 ?_;refine am c2 ?_;by_cases q2:statV s.nodes=0
 case neg=>
  have:R=statV s.nodes:=by rw[hR];unfold oL;rw[al5 (fun hh=>hh q1),al7 q2]
  subst this;generalize statV s.nodes=V at *;have k2:(V != 0)=true:=by simp[q2]
  refine aM k2 ?_;exact ai
 have ht:dU s.nodes:=by
  have:=q2;unfold statV at this;split at this
  ·rename_i h4;exact absurd this h4
  ·rename_i h4;exact(xu (by simpa using h4)).1
 have hpos:=ht.pos;have k2:(statV s.nodes != 0)=false:=by simp[q2]
 generalize hSV:statV s.nodes=V at *;refine bJ k2 ?_;clear k1 k2;by_cases z1:s.cfg.lim.node<s.nodes.length
 ·have k:decide ((s.nodes.length:Int) > s.cfg.lim.node)=true:=au z1;have k':decide (s.cfg.lim.node<(s.nodes.length:Int))=true:=au z1;have:R=11:=by rw[hR];unfold oL;rw[al5 (fun hh=>hh q1),hSV,al5 (fun hh=>hh q2),al7 z1]
  subst this;refine cH k k' ?_;exact ai
 have m1:decide ((s.nodes.length:Int) > s.cfg.lim.node)=false:=aA z1;have m1':decide (s.cfg.lim.node<(s.nodes.length:Int))=false:=aA z1;by_cases z2:s.cfg.lim.orph<s.orph.length
 ·have k:decide ((s.orph.length:Int) > s.cfg.lim.orph)=true:=au z2;have k':decide (s.cfg.lim.orph<(s.orph.length:Int))=true:=au z2;have:R=11:=by rw[hR];unfold oL;rw[al5 (fun hh=>hh q1),hSV,al5 (fun hh=>hh q2),al5 z1,al7 z2]
  subst this;refine nC k k' m1 m1' ?_;exact ai
 have m2:decide ((s.orph.length:Int) > s.cfg.lim.orph)=false:=aA z2;have m2':decide (s.cfg.lim.orph<(s.orph.length:Int))=false:=aA z2;by_cases z3:s.cfg.lim.early<s.early.length
 ·have k:decide ((s.early.length:Int) > s.cfg.lim.early)=true:=au z3;have k':decide (s.cfg.lim.early<(s.early.length:Int))=true:=au z3;have:R=11:=by rw[hR];unfold oL;rw[al5 (fun hh=>hh q1),hSV,al5 (fun hh=>hh q2),al5 z1,al5 z2,al7 z3]
  subst this;refine fG k k' m1 m1' m2 m2' ?_;refine agF ?_;exact ai
 have m3:decide ((s.early.length:Int) > s.cfg.lim.early)=false:=aA z3;have m3':decide (s.cfg.lim.early<(s.early.length:Int))=false:=aA z3;by_cases z4:s.cfg.lim.table<s.tabs.length
 ·have k:decide ((s.tabs.length:Int) > s.cfg.lim.table)=true:=au z4;have k':decide (s.cfg.lim.table<(s.tabs.length:Int))=true:=au z4;have:R=11:=by rw[hR];unfold oL;rw[al5 (fun hh=>hh q1),hSV,al5 (fun hh=>hh q2),al5 z1,al5 z2,al5 z3,al7 z4]
  subst this;refine mP k k' m1 m1' m2 m2' m3 m3' ?_;refine agF ?_;exact ai
 have m4:decide ((s.tabs.length:Int) > s.cfg.lim.table)=false:=aA z4;have m4':decide (s.cfg.lim.table<(s.tabs.length:Int))=false:=aA z4;refine mP m1 m1' m2 m2' m3 m3' m4 m4' ?_;refine aB ?_;clear m1 m1' m2 m2' m3 m3' m4 m4';obtain⟨r0,r2⟩:=ac4 q1 (hSV.trans q2) z1 z2 z3 z4 h.uf hnw;rw[<-hR]at r0 r2;clear hR q2 hSV;obtain⟨p1,p2⟩:=Iq q1;have c8:=fT s s.now WL;have c9:=zE s 0 s.f.ep WN WL;have c10:=Tf s h.bn WL;refine gon ?_;refine am c3 ?_;have hg0:(rows bB s.nodes).getD 0 []=bB (nod s.nodes 0):=aS (f:=bB) gr hpos;have hgJ:0<=aj s.nodes s.j.rt->(rows bB s.nodes).getD (aj s.nodes s.j.rt).toNat []=bB (nod s.nodes (aj s.nodes s.j.rt).toNat):=fun hh=>aS (f:=bB) gr (dO hh).1
 have hJl:0<=aj s.nodes s.j.rt->aj s.nodes s.j.rt<((s.nodes.length:Nat):Int):=fun hh=>by have:=(dO hh).1;omega
 have hp0:(0:Int)<((s.nodes.length:Nat):Int):=WL
 have b1:=fun(c:uK s)=>c.a1
 have b2:=fun(c:uK s)=>c.a2
 have b3:=fun(c:uK s)=>c.a3
 have b4:=fun(c:uK s)=>c.a4
 have b5:=fun(c:uK s)=>c.a5
 have b6:=fun(c:uK s)=>c.a6
 have b7:=fun(c:uK s)=>c.a7
 have b8:=fun(c:uK s)=>c.a8
 have b9:=fun(c:uK s)=>c.a9
 have b10:=fun(c:uK s)=>c.a10
 have b11:=fun(c:uK s)=>c.a11
 have b12:=fun(c:uK s)=>c.a12
 have b13:=fun(c:uK s)=>c.a13
 have bb:=fun x1 x2 x3 x4 x5 x6 x7 x8 x9 x10 x11 x12 x13=>r0 (⟨x1,x2,x3,x4,x5,x6,x7,x8,x9,x10,x11,x12,x13⟩:uK s)
 clear r0;generalize nod s.nodes 0=N0 at *;generalize hJ:aj s.nodes s.j.rt=J at *;generalize nod s.nodes J.toNat=NJ at *;generalize dJ s.tabs s.j=FT at *;generalize aj s.nodes s.boost=FB at *;generalize zV s=QV at *;generalize jA s 0 s.f.ep=ES at *;generalize (dW (fun i=>decide (s.now<(nod s.nodes i).blk.slot) || !pY s (nod s.nodes i).blk) s.nodes.length).isSome=NV at *;generalize (decide (s.latest.length=s.cfg.bals.length)&&(!(dW (fun i=>!(vot s.latest i).has&&decide (vot s.latest i≠dL)) s.latest.length).isSome&&(decide (s.eqv.length=0) || decide (cE s.eqv s.cfg.bals.length=0))))=VV at *;generalize dg s s.now=EN at *;by_cases q1:N0.blk.root=s.f.rt
 case neg=>
  obtain rfl:=r2 (fun c=>q1 (b1 c));repeat(first|refine bY ?_|simp only[go_sem,hg0,hp0,aA q1])
  refine agF ?_;exact ai
 by_cases q2:0<=J
 case neg=>
  obtain rfl:=r2 (fun c=>q2 (b2 c));have k2:decide (J<0)=true:=au WL;repeat(first|refine bY ?_|simp only[go_sem,hg0,hp0,au q1,k2])
  refine agF ?_;exact ai
 have k2:decide (J<0)=false:=aA WL;have hgJ:=hgJ q2;have hJl:=hJl q2;by_cases q3:NJ.status=2
 ·obtain rfl:=r2 (fun c=>b3 c q3);have k3:(NJ.status==2)=true:=by simp[q3]
  repeat(first|refine bY ?_|simp only[go_sem,hg0,hp0,au q1,k2,hgJ,hJl,q2,k3])
  refine agF ?_;exact ai
 have k3:(NJ.status==2)=false:=by simp[q3]
 by_cases q4:s.f.ep<=s.j.ep
 case neg=>
  obtain rfl:=r2 (fun c=>q4 (b4 c));have k4:decide (s.j.ep<s.f.ep)=true:=au WL;repeat(first|refine bY ?_|simp only[go_sem,hg0,hp0,au q1,k2,hgJ,hJl,q2,k3,k4])
  refine agF ?_;exact ai
 have k4:decide (s.j.ep<s.f.ep)=false:=aA WL;repeat(first|refine bY ?_|simp only[go_sem,hg0,hp0,au q1,k2,hgJ,hJl,q2,k3,k4])
 refine aK (c4) ?_;by_cases q5:0<=FT
 case neg=>
  obtain rfl:=r2 (fun c=>q5 (b5 c));have k5:decide (FT<0)=true:=au WL;refine aM k5 ?_;exact ai
 have k5:decide (FT<0)=false:=aA WL;refine aF k5 ?_;clear k2 k3 k4 k5 hg0 hp0 hgJ hJl c4 c3 c1 c2;obtain⟨F,hF⟩:∃F,F=frE (pR s) (s.tabs.length-0) 0:=⟨_,rfl⟩
 rw[<-hF]at b6 bb;refine az (fun i:Nat=>[(7,.int .i64 i)]) (fun i=>[.var (aE s.a),.var (aE NS1.a)]) (fun i=>s.tabs.length-i) (fun i=>i<=s.tabs.length/\F=frE (pR s) (s.tabs.length-i) i) 0 ⟨amc _,hF⟩ ?_ ?_
 ·exact ais [] [0,1]
 clear hF;have hbt:=h.bt;rintro i ⟨hi,hn⟩;refine dp ?_;by_cases h1:i<s.tabs.length
 ·have e1:=inT h1
  have hw:=af h1 WL;have hgd:(rows aW.c s.tabs).getD i []=ar (tab s.tabs i).a:=aS (f:=aW.c) default h1;have hm:tab s.tabs i∈s.tabs:=bK default h1;have hgp:(rows aW.c s.tabs).getD (i-1) []=ar (tab s.tabs (i-1)).a:=aS (f:=aW.c) default WL;have d1:=Mr (tab s.tabs (i-1)).cp (tab s.tabs i).cp;have d2:=xV (tab s.tabs i) s.cfg.bals.length (h.bb _ hm);have hf0:∀ {v:Int},pR s i=v->v≠0->F≠0:=fun h0 h2=>by rw[hn,xH h1 (by rw[h0];exact h2),h0];exact h2
  have hf:pR s i=0->F=frE (pR s) (s.tabs.length-(i+1)) (i+1):=fun h0=>by rw[hn,xi h1 h0]
  clear hn bb b7 b8 b9 b10 b11 b12 b13 c6 c7 c8 c9 c10 c11;obtain⟨G,hG⟩:∃G,G=frE (pR s) (s.tabs.length-(i+1)) (i+1):=⟨_,rfl⟩
  rw[<-hG]at hf;unfold pR at hf0 hf;generalize tab s.tabs (i-1)=y at *;generalize tab s.tabs i=x at *;generalize gh x s.cfg.bals.length=V at *;generalize kW y.cp x.cp=C at *;refine bw e1 ?_;refine ah hgd ?_;refine aK (c5) ?_;refine ah hgd ?_;refine aK (d2) ?_;by_cases q6:V=0
  case neg=>
   have k6:(V != 0)=true:=by simp[q6]
   have:=hf0 (v:=1) (by(repeat' split)<;>first|rfl|contradiction) WN;obtain rfl:=r2 (fun c=>this (b6 c));refine aM k6 ?_;exact ai
  have k6:(V != 0)=false:=by simp[q6]
  by_cases qi:i=0
  ·have ki:decide ((i:Int) > 0)=false:=aA WL;have ki':decide ((0:Int)<(i:Int))=false:=aA WL;refine zh k6 ki ki' ?_;refine ah hw ?_;refine⟨i+1,⟨h1,(hf (by rw[al5 (fun h=>WL),al5 (fun h=>h q6)])).trans hG⟩,WL,?_⟩;exact ais [] [0,1]
  ·have ki:decide ((i:Int) > 0)=true:=au WL
   have ki':decide ((0:Int)<(i:Int))=true:=au WL;have hw1:IntKind.i64.wrap ((i:Int)-1)=((i-1:Nat):Int):=by rw[aL WL WL];omega
   have hix:((i-1:Nat):Int)<((s.tabs.length:Nat):Int):=WL
   have hix2:i-1<s.tabs.length:=WL
   refine mP k6 ki ki' hw1 hgd hgp hix hix2 ?_;refine aK (d1) ?_;by_cases q7:0<=C
   ·have k7:decide (C ≥ 0)=true:=au q7;have k7':decide (0<=C)=true:=au q7;have:=hf0 (v:=1) (al7 ⟨WL,q7⟩) WN;obtain rfl:=r2 (fun c=>this (b6 c));refine cH k7 k7' ?_;exact ai
   ·have k7:decide (C ≥ 0)=false:=aA q7;have k7':decide (0<=C)=false:=aA q7;refine fp k7 k7' ?_;refine ah hw ?_;refine⟨i+1,⟨h1,(hf (by rw[al5 (fun h=>q7 h.2),al5 (fun h=>h q6)])).trans hG⟩,WL,?_⟩;exact ais [] [0,1]
 ·obtain rfl:i=s.tabs.length:=WL
  have e1:=inF (s.tabs.length);rw[wd]at hn;subst hn;refine aF e1 ?_;refine aK (c5) ?_;refine gon ?_;refine aK (c6) ?_;cases VV with
  | false =>
    obtain rfl:=r2 (fun c=>by have:=b7 c;cases this);refine aX ?_;exact ai
  |true=>
  refine gon ?_;by_cases q8:s.boost=rt0
  case neg=>
   repeat(first|refine bY ?_|simp only[go_sem,aA q8])
   refine aK (c7) ?_;by_cases q9:0<=FB
   case neg=>
    have k9:decide (FB<0)=true:=au WL;obtain rfl:=r2 (fun c=>(b8 c).elim q8 q9);refine aM k9 ?_;exact ai
   have k9:decide (FB<0)=false:=aA WL;by_cases q10:s.now<=1099511627776
   case neg=>
    have k10:decide (s.now > 1099511627776)=true:=au WL;have k10':decide ((1099511627776:Int)<s.now)=true:=au WL;obtain rfl:=r2 (fun c=>q10 (b9 c));refine fI k9 k10 k10' ?_;exact ai
   have k10:decide (s.now > 1099511627776)=false:=aA WL;have k10':decide ((1099511627776:Int)<s.now)=false:=aA WL;refine wg k9 k10 k10' ?_;refine aK (c8) ?_;by_cases q11:s.j.ep<=EN
   case neg=>
    have k11:decide (s.j.ep > EN)=true:=au WL;have k11':decide (EN<s.j.ep)=true:=au WL;obtain rfl:=r2 (fun c=>q11 (b10 c));refine cH k11 k11' ?_;exact ai
   have k11:decide (s.j.ep > EN)=false:=aA WL;have k11':decide (EN<s.j.ep)=false:=aA WL;refine aZ k11 k11' ?_;refine aK (c9) ?_;cases ES with
   | false =>
     obtain rfl:=r2 (fun c=>by have:=b11 c;cases this);refine aX ?_;exact ai
   |true=>
   refine gon ?_;refine aK (c10) ?_;cases NV with
   | true =>
     obtain rfl:=r2 (fun c=>by have:=b12 c;cases this);refine aX ?_;exact ai
   |false=>
   refine gon ?_;refine aK (c11) ?_;cases QV with
   | false =>
     obtain rfl:=r2 (fun c=>by have:=b13 c;cases this);refine aX ?_;exact ai
   | true =>
     obtain rfl:=bb q1 q2 q3 q4 q5 rfl rfl (.inr q9) q10 q11 rfl rfl rfl;refine bk ?_;exact ai
  by_cases q10:s.now<=1099511627776
  case neg=>
   have k10:decide (s.now > 1099511627776)=true:=au WL;have k10':decide ((1099511627776:Int)<s.now)=true:=au WL;obtain rfl:=r2 (fun c=>q10 (b9 c));repeat(first|refine bY ?_|simp only[go_sem,au q8,k10,k10'])
   refine agF ?_;exact ai
  have k10:decide (s.now > 1099511627776)=false:=aA WL;have k10':decide ((1099511627776:Int)<s.now)=false:=aA WL;repeat(first|refine bY ?_|simp only[go_sem,au q8,k10,k10'])
  refine agE ?_;refine aK (c8) ?_;by_cases q11:s.j.ep<=EN
  case neg=>
   have k11:decide (s.j.ep > EN)=true:=au WL;have k11':decide (EN<s.j.ep)=true:=au WL;obtain rfl:=r2 (fun c=>q11 (b10 c));refine cH k11 k11' ?_;exact ai
  have k11:decide (s.j.ep > EN)=false:=aA WL;have k11':decide (EN<s.j.ep)=false:=aA WL;refine aZ k11 k11' ?_;refine aK (c9) ?_;cases ES with
  | false =>
    obtain rfl:=r2 (fun c=>by have:=b11 c;cases this);refine aX ?_;exact ai
  |true=>
  refine gon ?_;refine aK (c10) ?_;cases NV with
  | true =>
    obtain rfl:=r2 (fun c=>by have:=b12 c;cases this);refine aX ?_;exact ai
  |false=>
  refine gon ?_;refine aK (c11) ?_;cases QV with
  | false =>
    obtain rfl:=r2 (fun c=>by have:=b13 c;cases this);refine aX ?_;exact ai
  | true =>
    obtain rfl:=bb q1 q2 q3 q4 q5 rfl rfl (.inl q8) q10 q11 rfl rfl rfl;refine bk ?_;exact ai
end Go.Proofs.YtmpddimhleianaaGreat
namespace Go.Proofs.YtmpddimhleianaaGreat
open Go Go.FH
def fg:ab:=(sR [wS 4 false]
(sR [om 13 0,kA 14 18 13,oo 5 (.new (aV rD)),sO 252 5 14]
(.seq (.dreg [(lA 16 252 5,0),(lA 17 252 5,0),(om 18 1,0),(bC 19 .and 18 (ci 16777215),4),(oo 20 (.call (cf 19) [(.t 17),(ci 99),(.t 19)]),14),(kB 21 20 16 20,31),(om 15 21,63),(eX 22 0 15,127),(eX 23 1 15,127),(eX 24 2 15,127),(oo 6 (.new (aV rD)),0),(sO 252 6 22,1279),(om 7 23,3583),(om 8 24,8191)])
(.seq (sR [fA 25 0 6,fA 26 115 25,fA 27 0 26,lF 28 1 27,lN 29 28,bC 30 .eql 29 (ci 0),om 31 30,wA 32 0 6 31,wA 33 115 32 31,wE 34 1 33 31,wV 35 31 34 31,wK 36 .neq 35 (ci 0) 31,wM 37 31 36,om 38 37,wA 39 0 6 38,wA 40 47 39 38,wA 41 33 40 38,wA 42 0 41 38,wC 43 1 42 38,wA 44 0 5 38,wA 45 47 44 38,wA 46 33 45 38,wA 47 0 46 38,wC 48 1 47 38,wI 49 .lss 43 48 38,wM 50 38 49]
(cN 50
(sR [wS 4 false]
.ret)
.skip))
(sR [fA 51 0 5,fA 52 115 51,lA 53 1 52,fA 54 0 5,fA 55 47 54,fA 56 33 55,fA 57 1 56,lA 58 32 57,kB 59 32 53 58,om 9 59]
(.seq (sR [fA 60 0 5,fA 61 115 60,lA 62 1 61,fA 63 0 6,fA 64 47 63,fA 65 33 64,fA 66 1 65,lA 67 32 66,kB 68 32 62 67,om 10 68]
(sR [om 69 10,bC 70 .geq 69 (ci 0),om 71 70,wB 72 0 5 71,wB 73 115 72 71,wF 74 1 73 71,wH 75 9 71,wH 76 10 71,og 77 (.call (cf 33) [(.t 74),(.t 75),(.t 76)]) 71 true,wQ 78 77 71,wN 79 71 78]
(cN 79
(sR [wS 4 false]
.ret)
.skip)))
(.seq (sR [wR 11 0]
(.block 0 (.loop (.seq (sR [om 80 11,fA 81 0 6,fA 82 115 81,fA 83 0 82,lF 84 1 83,lN 85 84,bI 86 .lss 80 85]
(cN 86
.skip
(.exit 0)))
(.seq (.block 1 (.seq (.dreg [(fA 89 0 5,0),(fA 90 115 89,1),(lA 91 1 90,3),(fA 92 0 6,0),(fA 93 115 92,8),(fA 94 0 93,24),(lF 95 1 94,56),(om 96 11,0),(iX 97 240 95 96,248),(fA 98 0 97,504),(fA 99 67 98,1016),(lA 100 32 99,2040),(kB 101 32 91 100,4095),(om 12 101,8191)])
(.seq (.seq (.dreg [(om 102 12,0),(bC 103 .geq 102 (ci 0),1),(om 104 103,3),(wB 105 0 5 104,7),(wB 106 115 105 104,15),(wB 107 0 106 104,31),(wD 108 1 107 104,63),(wH 109 12 104,7),(wU 110 240 108 109 104,255),(wB 111 239 110 104,511),(wD 112 1 111 104,1023),(wB 113 0 6 104,7),(wB 114 115 113 104,2055),(wB 115 0 114 104,6151),(wD 116 1 115 104,14343),(wH 117 11 104,7),(wU 118 240 116 117 104,63495),(wB 119 239 118 104,129031),(wD 120 1 119 104,260103),(wJ 121 .neq 112 120 104,524287),(wN 122 104 121,1048575),(om 123 122,2097151),(wB 124 0 5 123,4194303),(wB 125 115 124 123,8388607),(wB 126 0 125 123,16777215),(wD 127 1 126 123,33554431),(wH 128 12 123,4194303),(wU 129 240 127 128 123,134217727),(wB 130 239 129 123,268435455),(wD 131 1 130 123,536870911),(wL 132 .neq 131 (ci 0) 123,1073741823),(wN 133 123 132,2147483647)])
(cN 133
(sR [wS 4 false]
.ret)
.skip))
(.seq (.dreg [(om 134 12,0),(bC 135 .geq 134 (ci 0),1),(om 136 135,3),(wB 137 0 5 136,7),(wB 138 115 137 136,15),(wB 139 0 138 136,31),(wD 140 1 139 136,63),(wH 141 12 136,7),(wU 142 240 140 141 136,255),(wB 143 0 142 136,511),(wF 144 238 143 136,1023),(wB 145 0 6 136,7),(wB 146 115 145 136,2055),(wB 147 0 146 136,6151),(wD 148 1 147 136,14343),(wH 149 11 136,7),(wU 150 240 148 149 136,63495),(wB 151 0 150 136,129031),(wF 152 238 151 136,260103),(og 153 (.eqa [(237,1),(1,0)] true (.t 144) (.t 152)) 136 true,524287),(wN 154 136 153,1048575)])
(cN 154
(sR [wS 4 false]
.ret)
.skip)))))
(.reg [om 87 11,bC 88 .add 87 (ci 1),om 11 88]))))))
(sR [fA 155 0 6,lA 156 150 155,kA 157 34 156,bC 158 .eql 157 (ci 0),om 159 158,og 160 (.call (cf 17) []) 159 true,wN 161 159 160,om 4 161]
.ret))))))))
theorem qG:aJ Tryz.prog 8=some (162,[.tmp 4],fg):=by kernel_rfl
end Go.Proofs.YtmpddimhleianaaGreat
namespace Go.Proofs.YtmpddimhleianaaGreat
open Go Go.FH Go.RowKit
theorem Adv.tick{s:ap}(h:StV s)(h2:(gp s).2=0):Adv s (gp s).1:=by
 have r:=Adv.refl h;unfold gp at *;split at h2
 ·cases h2
 ·rename_i h3
  rw[al5 h3];have a:Adv s (tickA s):=r.same rfl rfl fun b hb=>hb
  have b:Adv s (tickB (tickA s)):=by
   unfold tickB;split
   ·exact a.upd _ _
   ·exact a
  generalize tickB (tickA s)=t at *;show Adv s (tickC t t.early)
  unfold tickC;refine Yy (f:=tickR t.early) (a:=withE t []) (fun _ u=>Adv s u) (b.same rfl rfl fun b hb=>hb) t.early.length (fun i u _ hu=>?_) _ (amb _);unfold tickR;split
  ·exact hu.same rfl rfl fun b hb=>hb
  ·split
   ·exact hu.same rfl rfl fun b hb=>hb
   ·exact hu
theorem Adv.att{s:ap}(h:StV s){a:bp}(h2:(mA s a).2=0):Adv s (mA s a).1:=by
 have r:=Adv.refl h;unfold mA at *;split at h2
 ·rename_i h3;exact absurd h2 h3
 ·rename_i h3
  rw[al5 h3];split at h2
  ·rename_i h4;rw[al7 h4];exact r.same rfl rfl fun b hb=>hb
  ·rename_i h4;rw[al5 h4];split at h2
   ·cases h2
   ·rename_i h5;rw[al5 h5];exact r.same rfl rfl fun b hb=>hb
theorem Adv.slash{s:ap}(h:StV s){x:fe}(h2:(ik s x).2=0):Adv s (ik s x).1:=by
 have r:=Adv.refl h;unfold ik at *;split at h2
 ·rename_i h3;exact absurd h2 h3
 ·rename_i h3;rw[al5 h3];split at h2
  ·cases h2
  ·rename_i h4;rw[al5 h4];exact r.same rfl rfl fun b hb=>hb
theorem Adv.reg{s:ap}(h:StV s){t:aW}(h2:(kY s t).2=0):Adv s (kY s t).1:=by
 have r:=Adv.refl h;unfold kY at *;split at h2
 ·rename_i h3;exact absurd h2 h3
 ·rename_i h3
  rw[al5 h3];split at h2
  ·cases h2
  ·rename_i h4;rw[al5 h4];split at h2
   ·rename_i h5;exact absurd h2 h5
   ·rename_i h5;rw[al5 h5];exact r.same rfl rfl fun b hb=>hb
theorem Wg{t:List Nod}{l:List Int}{st fb:Int}:∀ {k:Nat} {u:List Nod},bg (qf l st fb) (some t) k=some u->∀i,(nod u i).status=(nod t i).status\/((nod t i).status≠fb/\(nod u i).status=st)
 |0,u,h,i=>by cases h;exact .inl rfl
 | k + 1, u, h, i => by
   rw[cX]at h;cases h2:bg (qf l st fb) (some t) k with
   |none=>rw[h2]at h;cases h
   | some v =>
     rw[h2]at h;simp only[qf,ale]at h;have ih:=Wg h2 i;split at h
     ·cases h
     ·rename_i hf
      cases h;rw[E6];split
      ·rename_i hq;rw[hq.1]at hf;right
       refine⟨?_,rfl⟩;rcases ih with ih|ih
       ·rw[<-ih];exact hf
       ·exact ih.1
      ·exact ih
def Ji(t u:List Nod):Prop:=u.length=t.length/\∀i,(nod u i).blk=(nod t i).blk/\(i<t.length->(nod u i).status=(nod t i).status\/(nod t i).status=0)
theorem Ji.refl(t:List Nod):Ji t t:=⟨rfl,fun i=>⟨rfl,fun _=>.inl rfl⟩⟩
theorem Ji.trans{t u v:List Nod}(h:Ji t u)(g:Ji u v):Ji t v:=⟨g.1.trans h.1,fun i=>⟨(g.2 i).1.trans (h.2 i).1,fun hi=>by
 have a:=(h.2 i).2 hi;have b:=(g.2 i).2 (by rw[h.1];exact hi);omega⟩⟩
theorem Ji.raise{t:List Nod}(h:TrV t){i:Int}(h2:(fD t i).2=0):Ji t (fD t i).1:=by
 have hu:=sS h2;refine⟨hu.1,fun k=>⟨(hu.2 k).2,fun hk=>?_⟩⟩;have hr:=h.st k hk;unfold fD at *;split at h2
 ·rename_i h3
  rw[al7 h3];split at h2
  ·rename_i u hs;have:=Wg hs k;dsimp only;omega
  ·cases h2
 ·cases h2
theorem Ji.cond{t:List Nod}(h:TrV t){i:Int}(h2:(kF t i).2=0):Ji t (kF t i).1:=by
 have hu:=zP h2;refine⟨hu.1,fun k=>⟨(hu.2 k).2,fun hk=>?_⟩⟩;have hr:=h.st k hk;unfold kF at *;split at h2
 ·rename_i h3
  rw[al7 h3];split at h2
  ·rename_i u hs;have:=Wg hs k;dsimp only;omega
  ·cases h2
 ·cases h2
theorem Ji.judge{t:List Nod}(h:TrV t){i:Int}{v:Vdt}{keep:List Int}(h2:(iT t i v keep).2=0):Ji t (iT t i v keep).1:=by
 unfold iT at *;by_cases q1:isN t i=false
 ·rw[al7 q1]at h2;cases h2
 rw[al5 q1]at h2 ⊢;by_cases q2:v.kind=1
 ·rw[al7 q2]at h2 ⊢;exact Ji.raise h h2
 rw[al5 q2]at h2 ⊢;by_cases q3:v.kind=3\/v.kind=4
 ·rw[al7 q3];exact Ji.refl t
 rw[al5 q3]at h2 ⊢;by_cases q4:v.kind≠2
 ·rw[al7 q4]at h2;cases h2
 rw[al5 q4]at h2 ⊢;split at h2
 ·cases h2
 ·rename_i q5
  rw[al5 q5];by_cases q6:0<=(iY t i v.latest).1
  ·rw[al7 q6]at h2 ⊢;by_cases q7:(fD t (iY t i v.latest).1).2≠0
   ·rw[al7 q7]at h2;exact absurd h2 q7
   rw[al5 q7]at h2 ⊢;have q7:(fD t (iY t i v.latest).1).2=0:=by simpa using q7
   exact(Ji.raise h q7).trans (Ji.cond (h.raise q7).1 h2)
  ·rw[al5 q6]at h2 ⊢;exact Ji.cond h h2
theorem Adv.judge{s:ap}(h:StV s){u:List Nod}(hu:Ji s.nodes u):Adv s (dD s u):=by
 have r:=Adv.refl h;refine⟨r.ep,fun n hn=>?_,r.od⟩;change n∈u at hn
 obtain⟨k,hk,rfl⟩:=Ct hn;rw[hu.1]at hk;have h1:=hu.2 k;have h2:=h1.2 hk;exact .inl ⟨nod s.nodes k,Cw hk,h1.1.symm,WL⟩
theorem Adv.verd{s:aI}(h:StV s.sto){v:Vdt}(h2:(ky s v).2=0\/(ky s v).2=21):Adv s.sto (ky s v).1.sto:=by
 have r:=Adv.refl h;unfold ky at *;by_cases q1:(cz s v).2.2≠0
 ·rw[al7 q1];exact r
 rw[al5 q1]at h2 ⊢;have hm:=qj (s:=s) (v:=v) (by simpa using q1);by_cases q2:v.kind=3\/v.kind=4
 ·rw[al7 q2];show Adv s.sto (lO (cz s v).2.1 (cz s v).1).sto
  rw[um,hm];exact r
 rw[al5 q2]at h2 ⊢;by_cases q3:(judgeV (cz s v).2.1.sto (cz s v).1.block v).2≠0
 ·rw[al7 q3];exact r
 rw[al5 q3];rw[hm]at q3 ⊢;have a:=Adv.judge h (Ji.judge h.w.tree (show (iT s.sto.nodes (aj s.sto.nodes (cz s v).1.block) v [aj s.sto.nodes s.sto.j.rt,aj s.sto.nodes s.sto.f.rt]).2=0 from Decidable.not_not.1 q3));show Adv s.sto (boostV (dD s.sto (judgeV s.sto (cz s v).1.block v).1))
 unfold boostV;split
 ·exact a.same rfl rfl fun b hb=>hb
 ·exact a
theorem Adv.perf{s:aI}(h:StV s.sto){x:VOp}(h2:(ia s x).2=0\/(ia s x).2=21):Adv s.sto (ia s x).1.sto:=by
 unfold ia at *;by_cases q1:x.kind=1
 ·rw[al7 q1]at h2 ⊢
  by_cases q:(gp s.sto).2=0
  ·rw[al7 q];show Adv s.sto (zQ (mE (ij s (gp s.sto).1))).sto
   rw[zS];exact Adv.tick h q
  ·rw[al5 q]at h2;exact absurd h2 (by intro h5;rcases h5 with h5|h5;exact q h5;exact tG _ h5)
 rw[al5 q1]at h2 ⊢;by_cases q2:x.kind=2
 ·rw[al7 q2]at h2 ⊢
  by_cases q:(di s.sto x.blk).2.2=0
  ·rw[al7 q];show Adv s.sto (nK (mE (ij s (di s.sto x.blk).1)) (di s.sto x.blk).2.1).sto
   rw[ur];exact Adv.block h q
  ·rw[al5 q]at h2;exact absurd h2 (by intro h5;rcases h5 with h5|h5;exact q h5;exact jE _ _ h5)
 rw[al5 q2]at h2 ⊢;by_cases q3:x.kind=3
 ·rw[al7 q3]at h2 ⊢;exact Adv.att h (h2.resolve_right (vC _ _))
 rw[al5 q3]at h2 ⊢;by_cases q4:x.kind=4
 ·rw[al7 q4]at h2 ⊢;exact Adv.slash h (h2.resolve_right (qg _ _))
 rw[al5 q4]at h2 ⊢;by_cases q5:x.kind=5
 ·rw[al7 q5]at h2 ⊢;exact Adv.reg h (h2.resolve_right (vP _ _))
 rw[al5 q5]at h2 ⊢;by_cases q6:x.kind=6
 ·rw[al7 q6]at h2 ⊢;exact Adv.verd h h2
 rw[al5 q6];exact Adv.refl h
theorem Adv.step{s:aI}(h:StV s.sto)(x:VOp):Adv s.sto (kl s x).1.sto:=by
 unfold kl;split
 ·exact Adv.refl h
 ·split
  ·exact Adv.refl h
  ·split
   ·rename_i h3;exact Adv.perf h (.inr h3)
   ·split
    ·exact Adv.refl h
    ·rename_i h3 h4;show Adv s.sto (io (ia s x).1).1.sto
     rw[pm];exact Adv.perf h (.inl (by simpa using h4))
theorem Vf{s:ap}(h:StW s){g:Int}(h0:0<=g)(h1:g<s.nodes.length):aj s.nodes s.f.rt=0/\eh s.nodes (aj s.nodes s.f.rt) g=true:=by
 have hz:=xC h.tree h.tree.pos h.fr;have ht:=h.tree.r;refine⟨hz,?_⟩;rw[hz];obtain⟨k,rfl⟩:=ajO h0
 have:∀n k:Nat,k<n->k<s.nodes.length->eh s.nodes 0 k=true:=by
  intro n;induction n with
  |zero=>intro k hk;omega
  | succ n ih =>
    intro k hk hl;have e:=CK ht hl 0;rw[show ((0:Nat):Int)=0 from rfl]at e;rw[e];by_cases hk0:k=0
    ·subst hk0;rfl
    ·have hb:=ht.ok k WL hl;obtain⟨u,hu⟩:∃u:Nat,(nod s.nodes k).up=u:=⟨_,(amC hb.1).symm⟩
     rw[hu,ih u WL WL];simp
 exact this (k+1) k (akR _) WL
theorem Kw(a:Int):∃m:Nat,lI .i64 a 16777215=(m:Int):=by
 unfold lI;refine⟨(BitVec.ofInt IntKind.i64.bits a &&& BitVec.ofInt IntKind.i64.bits 16777215).toNat,?_⟩
 have h:(BitVec.ofInt IntKind.i64.bits a &&& BitVec.ofInt IntKind.i64.bits 16777215).toNat<=16777215:=by
  rw[alc];refine ams WE ?_;decide
 rw[aL WL WL]
theorem Pf{s:aI}{i:Nat}(h:j6 s i):PC Tryz.prog 34 [.agg (aE s.sto.a)] (.int .i64 0):=by
 have:=UK s.sto (ahn h.a.sto h.b) h.a.sto.nw.1;rwa [h.v.val (by have:=h.a.sto.cfg.ln;omega) h.a.sto.uf h.a.sto.nw.1]at this
theorem R6{s:aI}{i:Nat}(h:j6 s i):PC Tryz.prog 31 [.agg [.sl 240 false (rows bB s.sto.nodes)]] (.int .i64 0):=by
 have:=h.a.sto.nn;have c:=B0 s.sto.nodes WL;rwa [h.v.w.tree.statV WL]at c
theorem pc_EngineStatuses(l:List Int)(hl:l.length<=maxLen)(hwl:∀z∈l,(Lit.int .i64 z).wf=true)(k:Int)(hk:(Lit.int .i64 k).wf=true):PC Tryz.prog 8 [.sl 1 false (aH .i64 l),.int .i64 k] (.bool true):=by
 have ca:=sM;refine pfn 13 qG ?_;unfold fg;refine bd ?_;obtain⟨s,hg,cs⟩:=EW l;obtain⟨K,hK⟩:=Kw k;obtain⟨x,hx,co⟩:=Iv s 24 hg.a hg.a.sto.cfg.tt 99 K WL WN WN WN;have c1:=rQ hg WN hx;have hg2:=hg.step WN hx;have ha:=Adv.step hg.v x;have hn:=hg.a.sto.nn;have ht:=hg.v.w.tree;have hfa:=fun g h0 h1=>(Vf hg.v.w (g:=g) h0 h1).2
 generalize kl s x=T at *;obtain⟨t,T2,T3⟩:=T;dsimp only at c1 hg2 ha;have c2:=R6 hg2;have c3:=Pf hg2;have hn2:=hg2.a.sto.nn;have hp:¬ ((t.sto.nodes.length:Nat):Int)=0:=by have:=hg2.v.w.tree.pos;omega
 have he:¬t.sto.f.ep<s.sto.f.ep:=by have:=ha.ep;omega
 have hat:=fun i (h:i<t.sto.nodes.length)=>ha.at ht h
 have c4:=cC s.sto.nodes s.sto.f.rt WL;have cf:=fun r=>cC s.sto.nodes r WL
 obtain⟨G,hG,hq⟩:∃G:Int,aj s.sto.nodes t.sto.f.rt=G/\(¬0<=G\/0<=G/\PC Tryz.prog 33 [.agg [nA s.sto.nodes],.int .i64 (aj s.sto.nodes s.sto.f.rt),.int .i64 G] (.bool true)):=by
  have hb:=fM s.sto.nodes t.sto.f.rt;refine⟨_,rfl,?_⟩;by_cases q:0<=aj s.sto.nodes t.sto.f.rt
  ·have:=AD s.sto.nodes ht.r.ok WL (aj s.sto.nodes s.sto.f.rt) (aj s.sto.nodes t.sto.f.rt);rw[hfa _ q WL]at this;exact .inr ⟨q,this⟩
  ·exact .inl q
 have c5:=cf t.sto.f.rt;rw[hG]at c5;generalize aj s.sto.nodes s.sto.f.rt=F at *;clear hG hfa ha hg hg2 hx;rcases hq with q|⟨q,c6⟩
 all_goals
  refine nx fun _=>?_
  refine BA t.sto.nodes.length (fun i=>[(11,.int .i64 i),(12,.dead),(6,.ptr 1 0)]) (fun _=>[.var (aV s.a),.var (aV t.a)]) (fun i h1 hw h2=>?_) (fun h=>?_)
  ·have hgd:=dy h1
   have c7:=cf (nod t.sto.nodes i).blk.root;have hx:=hat i h1;have bx:=fM s.sto.nodes (nod t.sto.nodes i).blk.root;clear hat cf;generalize aj s.sto.nodes (nod t.sto.nodes i).blk.root=X at *;by_cases hx0:0<=X
   ·obtain⟨n,rfl⟩:=ajO hx0;have hgn:=dy (t:=s.sto.nodes) (i:=n) WL;obtain⟨e1,e2⟩:=hx hx0;rw[amw]at e1 e2;clear hx;have hnl:n<s.sto.nodes.length:=WL
    generalize nod s.sto.nodes n=M at *;generalize nod t.sto.nodes i=B at *;obtain⟨M1,M2,M3⟩:=M;dsimp only at e1 e2;subst e1;rcases e2 with rfl|rfl<;>exact aw
   ·clear hx;exact aw
  ·clear hat cf;exact aw
end Go.Proofs.YtmpddimhleianaaGreat
