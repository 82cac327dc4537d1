/- Joined. -/
import Derived.Test.YtmpddimhleianaaGreatV4v
import Derived.Test.YtmpddimhleianaaGreatV5v
import Derived.Test.YtmpddimhleianaaGreatR1v
import Derived.Test.YtmpddimhleianaaGreatT6v
import Derived.Test.YtmpddimhleianaaGreatW3v
import Derived.Test.YtmpddimhleianaaGreatV7v
set_option linter.unusedVariables false
set_option linter.unusedSimpArgs false
set_option maxRecDepth 8000
set_option maxHeartbeats 4000000
namespace Go.Proofs.YtmpddimhleianaaGreat
open Go Go.FH Go.RowKit
theorem rZ(t:List Nod)(r:Rt):0<=ab t r↔r∈t.map (·.blk.root):=by
 constructor
 ·intro h;obtain⟨d,c⟩:=dD h;rw[acz];refine⟨nod t (ab t r).toNat,?_,c⟩;unfold nod;grind
 ·intro h;obtain⟨n,d,c⟩:=acz.1 h;obtain⟨k,f,g⟩:=acp d;refine j5 (k:=k) f ?_;unfold nod;grind
theorem Nx(t:List Nod)(hb:t.length<=2097152):PC Tryz.prog 63 [.agg [.sl 240 false (rows aT t)]] (.int .i64 (mW t)):=by
 refine aQ 5 ?_;obtain⟨R,hR⟩:∃R,R=mW t:=⟨_,rfl⟩
 rw[<-hR];unfold mW at hR;by_cases q0:t.length=0
 ·have e0:((t.length:Int)==0)=true:=af3
  rw[afA (.inl q0)]at hR;subst hR;repeat(first|refine aM ?_|simp_all)
  refine aac ?_;exact aj
 have e0:((t.length:Int)==0)=false:=af3
 by_cases q1:4096<t.length
 ·have e1:decide ((t.length:Int) > 4096)=true:=ax af0;have e1':decide ((4096:Int)<(t.length:Int))=true:=ax af0;rw[afA (.inr q1)]at hR;subst hR;refine kU e0 e1 e1' ?_;exact aj
 have e1:decide ((t.length:Int) > 4096)=false:=aD af0;have e1':decide ((4096:Int)<(t.length:Int))=false:=aD af0;rw[afx (fun h=>h.elim q0 q1)]at hR;refine xX e0 e1 e1' ?_;refine aE (fun i:Nat=>[(3,.int .i64 i)]) (fun i=>[.var [.sl 240 false (rows aT t)]]) (fun i=>t.length-i) (fun i=>i<=t.length/\R=frE (vo t) (t.length-i) i) 0 ⟨afK _,hR⟩ ?_ ?_
 ·exact abS [] [0]
 clear hR e0 e1 e1';rintro i ⟨hi,hn⟩;refine fM ?_;by_cases h1:i<t.length
 ·have e1:=inT h1
  have hw:=ae h1 af0;have hgd:(rows aT t).getD i []=aT (nod t i):=aK (f:=aT) kr h1;have c1:=FW (nod t i).status;have c2:=cj (t.take i) (nod t i).blk.root (by rw[adG];omega);have htk:(rows aT t).take i=rows aT (t.take i):=pZ _ _ _;have ht:∀ {v:Int},vo t i=v->v≠0->R=v:=fun h0 h2=>by rw[hn,uz h1 (by rw[h0];exact h2),h0]
  have hf:vo t i=0->R=frE (vo t) (t.length-(i+1)) (i+1):=fun h0=>by rw[hn,uy h1 h0]
  clear hn;have hU:∀k:Nat,(nod t i).up=k->k<i->(rows aT t).getD (nod t i).up.toNat []=aT (nod t (nod t i).up.toNat):=fun k hk hki=>aK (f:=aT) kr af0
  obtain⟨G,hG⟩:∃G,G=frE (vo t) (t.length-(i+1)) (i+1):=⟨_,rfl⟩
  rw[<-hG]at hf;unfold vo at ht hf;simp only[<-rZ]at ht hf;have hile:(i:Int)<=((t.length:Nat):Int):=af0
  generalize hx:nod t i=x at *;generalize ab (t.take i) x.blk.root=I at *;unfold nA at c2;generalize htk0:rows aT (t.take i)=tk at *;refine bO e1 ?_;refine aA hgd ?_;refine ap c1 ?_;by_cases q1:0<=x.status/\x.status<=2
  case neg=>
   have k1:(decide (0<=x.status)&&decide (x.status<=2))=false:=by rw[aen,afQ,afQ];omega
   obtain rfl:=ht (afA q1) af2;refine aW k1 ?_;exact aj
  have k1:(decide (0<=x.status)&&decide (x.status<=2))=true:=by simp[q1]
  rw[afx (fun h=>h q1)]at ht hf;by_cases qi:i=0
  ·subst qi
   obtain rfl:[]=tk:=htk0;by_cases q2:x.up=-1
   case neg=>
    have k2:(x.up != -1)=true:=by simp[q2]
    obtain rfl:=ht (afA ⟨rfl,q2⟩) af2;refine dV k1 k2 ?_;exact aj
   have k2:(x.up != -1)=false:=by simp[q2]
   rw[afx (fun h=>h.2 q2),afx af0]at ht hf;refine iJ k1 k2 ?_;refine aA htk ?_;refine aP (c2) ?_;by_cases q3:0<=I
   ·have k3:decide (I ≥ 0)=true:=ax q3;have k3':decide (0<=I)=true:=ax q3;obtain rfl:=ht (afA q3) af2;refine dV k3 k3' ?_;exact aj
   have k3:decide (I ≥ 0)=false:=aD q3;have k3':decide (0<=I)=false:=aD q3;rw[afx q3]at ht hf;refine pi k3 k3' ?_;refine aI ?_;refine d6 ?_;refine aA hw ?_;refine⟨0+1,⟨h1,(hf (afA rfl)).trans hG⟩,af0,?_⟩;exact abS [] [0]
  ·have ki:((i:Int)==0)=false:=by simp;omega
   have kp:decide ((i:Int) > 0)=true:=ax af0;have kp':decide ((0:Int)<(i:Int))=true:=ax af0;rw[afx (fun h=>qi h.1)]at ht hf;by_cases q2:x.up<0
   ·have k2:=ax q2;obtain rfl:=ht (afA ⟨af0,.inl q2⟩) af2;refine ec k1 ki kp kp' k2 ?_;refine aac ?_;exact aj
   have k2:=aD q2;by_cases q3:(i:Int)<=x.up
   ·have k3:decide (x.up ≥ (i:Int))=true:=ax q3;have k3':decide ((i:Int)<=x.up)=true:=ax q3;obtain rfl:=ht (afA ⟨af0,.inr q3⟩) af2;refine lx k1 ki kp kp' k2 k3 k3' ?_;refine aac ?_;exact aj
   have k3:decide (x.up ≥ (i:Int))=false:=aD q3;have k3':decide ((i:Int)<=x.up)=false:=aD q3;rw[afx (fun h=>h.2.elim q2 q3)]at ht hf;have hU:=hU x.up.toNat af0 af0;have hub:decide (x.up<((t.length:Nat):Int))=true:=ax af0;have hu0:0<=x.up:=af0
   have hu1:x.up<((t.length:Nat):Int):=af0
   generalize nod t x.up.toNat=y at *;refine lx k1 ki kp kp' k2 k3 k3' ?_;refine aI ?_;refine aA htk ?_;refine aP (c2) ?_;by_cases q4:0<=I
   ·have k4:decide (I ≥ 0)=true:=ax q4;have k4':decide (0<=I)=true:=ax q4;obtain rfl:=ht (afA q4) af2;refine dV k4 k4' ?_;exact aj
   have k4:decide (I ≥ 0)=false:=aD q4;have k4':decide (0<=I)=false:=aD q4;rw[afx q4,afx qi]at ht hf;refine iJ k4 k4' ?_;refine eS kp kp' hU ?_;by_cases q5:x.blk.parent=y.blk.root
   case neg=>
    have k5:(decide (x.blk.parent=y.blk.root) != true)=true:=by simp[q5]
    obtain rfl:=ht (afA q5) af2;repeat(first|refine aM ?_|simp only[go_sem,k5,aD q5])
    refine aac ?_;exact aj
   rw[afx (fun h=>h q5)]at ht hf;repeat(first|refine aM ?_|simp only[go_sem,ax q5])
   refine aI ?_;refine eS kp kp' hU ?_;by_cases q6:x.blk.slot<=y.blk.slot
   ·have k6:=ax q6;obtain rfl:=ht (afA q6) af2;refine aW k6 ?_;exact aj
   have k6:=aD q6;rw[afx q6]at ht hf;refine da k6 ?_;refine aA hw ?_;refine⟨i+1,⟨h1,(hf rfl).trans hG⟩,af0,?_⟩;exact abS [] [0]
 ·obtain rfl:i=t.length:=af0
  have e1:=inF (t.length);rw[ux]at hn;subst hn;refine aS e1 ?_;exact aj
theorem xc(t:List Nod)(hb:t.length<=2097152):PC Tryz.prog 31 [.agg [.sl 240 false (rows aT t)]] (.int .i64 (statV t)):=by
 refine aQ 7 ?_;have c1:=Nx t hb;obtain⟨R,hR⟩:∃R,R=statV t:=⟨_,rfl⟩
 rw[<-hR];unfold statV at hR;have hok:=fun h=>sS (t:=t) h
 generalize mW t=V at *;refine gon ?_;refine ap c1 ?_;by_cases q1:V=0
 case neg=>
  have e1:(V != 0)=true:=af3
  rw[afA q1]at hR;subst hR;refine aW e1 ?_;exact aj
 have e1:(V != 0)=false:=af3
 rw[afx af0]at hR;obtain⟨ht,hl⟩:=hok q1;have hp:=ht.pos;refine aS e1 ?_;refine aE (fun i:Nat=>[(4,.int .i64 i)]) (fun i=>[.var [.sl 240 false (rows aT t)]]) (fun i=>t.length-i) (fun i=>1<=i/\i<=t.length/\R=frE (pp t) (t.length-1-(i-1)) (i-1)) 1 ⟨afE _,hp,hR⟩ ?_ ?_
 ·exact abS [] [0]
 clear hR e1;rintro i ⟨h0,hi,hn⟩;refine fM ?_;by_cases h1:i<t.length
 ·have e1:=inT h1
  have hw:=ae h1 af0;obtain⟨k,rfl⟩:∃k,i=k+1:=⟨i-1,af0⟩
  have hk:k+1-1=k:=rfl;rw[hk]at hn;have hgd:(rows aT t).getD (k+1) []=aT (nod t (k+1)):=aK (f:=aT) kr h1;have hf0:∀ {v:Int},pp t k=v->v≠0->R=v:=fun h0 h2=>by rw[hn,uz af0 (by rw[h0];exact h2),h0]
  have hf:pp t k=0->R=frE (pp t) (t.length-1-(k+1)) (k+1):=fun h0=>by rw[hn,uy af0 h0]
  clear hn;obtain⟨u0,u1⟩:=ht.ok (k+1) af0 af0;have hU:(rows aT t).getD (nod t (k+1)).up.toNat []=aT (nod t (nod t (k+1)).up.toNat):=aK (f:=aT) kr af0;have hub:decide ((nod t (k+1)).up<((t.length:Nat):Int))=true:=ax af0;have hun:decide (0<=(nod t (k+1)).up)=true:=ax u0;have hu1:(nod t (k+1)).up<((t.length:Nat):Int):=af0
  have hix:((k+1:Nat):Int)<((t.length:Nat):Int):=af0
  unfold pp at hf0 hf;generalize nod t (k+1)=x at *;generalize nod t x.up.toNat=y at *;generalize hK:k+1=K at *;refine bO e1 ?_;refine bm hgd hU ?_;by_cases q1:x.status=1
  ·have k1:(x.status==1)=true:=by simp[q1]
   by_cases q2:y.status=1
   ·have k2:(y.status != 1)=false:=by simp[q2]
    have k3:(y.status==2)=false:=by simp[q2]
    refine uA k1 k2 k3 ?_;refine aA hw ?_;refine⟨K+1,⟨af0,h1,hf (afx (by rintro (h|h);exact h.2 q2;have:=h.1;omega))⟩,af0,?_⟩;exact abS [] [0]
   ·have k2:(y.status != 1)=true:=by simp[q2]
    obtain rfl:=hf0 (afA (.inl ⟨q1,q2⟩)) af2;refine dV k1 k2 ?_;exact aj
  ·have k1:(x.status==1)=false:=by simp[q1]
   by_cases q2:y.status=2
   ·have k2:(y.status==2)=true:=by simp[q2]
    by_cases q3:x.status=2
    ·have k3:(x.status != 2)=false:=by simp[q3]
     refine uA k1 k2 k3 ?_;refine aA hw ?_;refine⟨K+1,⟨af0,h1,hf (afx (by rintro (h|h);exact q1 h.1;exact h.2 q3))⟩,af0,?_⟩;exact abS [] [0]
    ·have k3:(x.status != 2)=true:=by simp[q3]
     obtain rfl:=hf0 (afA (.inr ⟨q2,q3⟩)) af2;refine kU k1 k2 k3 ?_;exact aj
   ·have k2:(y.status==2)=false:=by simp[q2]
    refine iJ k1 k2 ?_;refine aA hw ?_;refine⟨K+1,⟨af0,h1,hf (afx (by rintro (h|h);exact q1 h.1;exact q2 h.1))⟩,af0,?_⟩;exact abS [] [0]
 ·obtain rfl:i=t.length:=af0
  have e1:=inF (t.length);rw[ux]at hn;subst hn;refine aS e1 ?_;exact aj
theorem KR(latest:List Vot)(eqv:List Int)(n:Nat)(hl:latest.length<=2097152)(he:eqv.length<=2097152):PC Tryz.prog 70 [.agg [.sl 34 false (rows bJ latest),.sl 1 false (ah .i64 eqv)],.int .i64 n]
 (.bool (decide (latest.length=n)&&(!(cm (fun i=>!(vot latest i).has&&decide (vot latest i≠eY)) latest.length).isSome&&(decide (eqv.length=0) || decide (cM eqv n=0))))):=by
 refine pfn 6 vW ?_;unfold oI;refine bd ?_;have c1:=gV eqv false n af0;by_cases q0:latest.length=n
 case neg=>
  have e0:((latest.length:Int) != (n:Int))=true:=af3
  rw[aD q0,acI];refine aW e0 ?_;exact aj
 have e0:((latest.length:Int) != (n:Int))=false:=af3
 rw[ax q0,acD];obtain⟨R,hR⟩:∃R,R=cm (fun i=>!(vot latest i).has&&decide (vot latest i≠eY)) latest.length:=⟨_,rfl⟩
 rw[<-hR];have hR:R=gl (fun i=>!(vot latest i).has&&decide (vot latest i≠eY)) (latest.length-0) 0:=hR;generalize cM eqv n=V at *;refine aS e0 ?_;refine aE (fun i:Nat=>[(5,.int .i64 i)]) (fun i=>[.var [.sl 34 false (rows bJ latest),.sl 1 false (ah .i64 eqv)]]) (fun i=>latest.length-i) (fun i=>i<=latest.length/\R=gl (fun i=>!(vot latest i).has&&decide (vot latest i≠eY)) (latest.length-i) i) 0 ⟨afK _,hR⟩ ?_ ?_
 ·exact abS [] [0]
 clear hR e0;rintro i ⟨hi,hn⟩;refine fM ?_;by_cases h1:i<latest.length
 ·have e1:=inT h1
  have hw:=ae h1 af0;have hgd:(rows bJ latest).getD i []=bJ (vot latest i):=aK (f:=bJ) eY h1;have ht:(!(vot latest i).has&&decide (vot latest i≠eY))=true->R=some i:=fun h=>by rw[hn,jP h1 h]
  have hf:(!(vot latest i).has&&decide (vot latest i≠eY))=false->R=gl (fun i=>!(vot latest i).has&&decide (vot latest i≠eY)) (latest.length-(i+1)) (i+1):=fun h=>by rw[hn,jt h1 h]
  clear hn;have hv0:bJ eY=bJ ⟨false,0,rt0⟩:=rfl;generalize vot latest i=x at *;refine bO e1 ?_;refine aA hgd ?_;by_cases q1:x.has=true
  ·have k1:x.has=true:=q1;rw[q1]at hf;refine iJ hgd k1 ?_;refine aA hw ?_;refine⟨i+1,⟨h1,hf rfl⟩,af0,?_⟩;exact abS [] [0]
  ·have k1:x.has=false:=by simpa using q1
   by_cases q2:x=eY
   ·have k2:decide (x=⟨false,0,rt0⟩)=true:=ax q2;rw[k1,aD (fun h=>h q2)]at hf;refine uA hgd k1 k2 ?_;refine aA hw ?_;refine⟨i+1,⟨h1,hf rfl⟩,af0,?_⟩;exact abS [] [0]
   ·have k2:decide (x=⟨false,0,rt0⟩)=false:=aD q2;obtain rfl:=ht (by rw[k1,ax q2];rfl);refine kU hgd k1 k2 ?_;exact aj
 ·obtain rfl:i=latest.length:=af0
  have e1:=inF (latest.length);rw[lK]at hn;subst hn;refine da e1 ?_;by_cases q3:eqv.length=0
  ·have k3:((eqv.length:Int)==0)=true:=by simp[q3]
   rw[ax q3];refine aA k3 ?_;exact aj
  ·have k3:((eqv.length:Int)==0)=false:=by simp;intro h;exact q3 (by simp[h])
   rw[aD q3,ac9];refine aA k3 ?_;refine abl c1 ?_;exact aj
theorem KP(s:af)(hb:s.nodes.length<=2097152)(h0:s.cfg.spe≠0):PC Tryz.prog 73 [.agg (ak s.a)] (.bool (!(cm (fun i=>decide (s.now<(nod s.nodes i).blk.slot) || !mw s (nod s.nodes i).blk) s.nodes.length).isSome)):=by
 refine aQ 4 ?_;obtain⟨R,hR⟩:∃R,R=cm (fun i=>decide (s.now<(nod s.nodes i).blk.slot) || !mw s (nod s.nodes i).blk) s.nodes.length:=⟨_,rfl⟩
 rw[<-hR];have hR:R=gl (fun i=>decide (s.now<(nod s.nodes i).blk.slot) || !mw s (nod s.nodes i).blk) (s.nodes.length-0) 0:=hR;refine gon ?_;refine aE (fun i:Nat=>[(3,.int .i64 i)]) (fun i=>[.var (ak s.a)]) (fun i=>s.nodes.length-i) (fun i=>i<=s.nodes.length/\R=gl (fun i=>decide (s.now<(nod s.nodes i).blk.slot) || !mw s (nod s.nodes i).blk) (s.nodes.length-i) i) 0 ⟨afK _,hR⟩ ?_ ?_
 ·exact abS [] [0]
 clear hR;rintro i ⟨hi,hn⟩;refine fM ?_;by_cases h1:i<s.nodes.length
 ·have e1:=inT h1
  have hw:=ae h1 af0;have hgd:(rows aT s.nodes).getD i []=aT (nod s.nodes i):=aK (f:=aT) kr h1;have c1:=ww s (nod s.nodes i).blk h0;have ht:(decide (s.now<(nod s.nodes i).blk.slot) || !mw s (nod s.nodes i).blk)=true->R=some i:=fun h=>by rw[hn,jP h1 h]
  have hf:(decide (s.now<(nod s.nodes i).blk.slot) || !mw s (nod s.nodes i).blk)=false->R=gl (fun i=>decide (s.now<(nod s.nodes i).blk.slot) || !mw s (nod s.nodes i).blk) (s.nodes.length-(i+1)) (i+1):=fun h=>by rw[hn,jt h1 h]
  clear hn;generalize nod s.nodes i=x at *;generalize mw s x.blk=O at *;refine bO e1 ?_;by_cases q1:s.now<x.blk.slot
  ·have k1:decide (x.blk.slot > s.now)=true:=ax q1;have k1':decide (s.now<x.blk.slot)=true:=ax q1;obtain rfl:=ht af3;refine kU hgd k1 k1' ?_;exact aj
  ·have k1:decide (x.blk.slot > s.now)=false:=aD q1
   have k1':decide (s.now<x.blk.slot)=false:=aD q1;rw[k1',ac9]at ht hf;refine eS hgd k1 k1' ?_;refine aP (c1) ?_;cases O with
   | true =>
     refine d6 ?_;refine aA hw ?_;refine⟨i+1,⟨h1,hf rfl⟩,af0,?_⟩;exact abS [] [0]
   | false =>
     obtain rfl:=ht rfl;refine bD ?_;exact aj
 ·obtain rfl:i=s.nodes.length:=af0
  have e1:=inF (s.nodes.length);rw[lK]at hn;subst hn;refine aS e1 ?_;exact aj
theorem ZP{s:af}{i:Nat}(h:(cU s.orph i).root=rt0\/0<=ab s.nodes (cU s.orph i).root\/0<=ab s.nodes (cU s.orph i).parent\/(cU s.orph i).timely=true\/s.now<(cU s.orph i).slot\/(cU s.orph i).slot<=(cH s.f.ep s.cfg.spe).1\/(cU s.orph i).root∈(s.orph.take i).map (·.root)):sy s i≠0:=by
 rw[rZ,rZ]at h;unfold sy qJ;(repeat' split)<;>first|decide|(rcases h with h|h|h|h|h|h|h<;>contradiction)
theorem U8{s:af}{i:Nat}(h1:¬ (cU s.orph i).root=rt0)(h2:¬0<=ab s.nodes (cU s.orph i).root)(h3:¬0<=ab s.nodes (cU s.orph i).parent)(h4:(cU s.orph i).timely=false)(h5:¬s.now<(cU s.orph i).slot)(h6:¬ (cU s.orph i).slot<=(cH s.f.ep s.cfg.spe).1)(h7:(cU s.orph i).root∉(s.orph.take i).map (·.root)):sy s i=0:=by
 rw[rZ]at h2 h3;unfold sy qJ;rw[afx h1,afx h2,afx h7,afx h3,afx (by rw[h4];decide),afx h5,afx h6]
theorem KS (s : af) (hn : s.nodes.length <= 2097152) (he : s.early.length <= 2097152) (ho : s.orph.length <= 2097152) (hv : ∀ a ∈ s.early, a.vals.length <= 2097152) : PC Tryz.prog 74 [.agg (ak s.a)] (.bool (vb s)) := by
 refine aQ 9 ?_;unfold vb;obtain⟨E,hE⟩:∃E,E=frE (eaE s) (s.early.length-0) 0:=⟨_,rfl⟩
 obtain⟨O,hO⟩:∃O,O=frE (sy s) (s.orph.length-0) 0:=⟨_,rfl⟩
 rw[<-hE,<-hO];have c0:=qc s;refine gon ?_;refine aE (fun i:Nat=>[(3,.int .i64 i)]) (fun i=>[.var (ak s.a)]) (fun i=>s.early.length-i) (fun i=>i<=s.early.length/\E=frE (eaE s) (s.early.length-i) i) 0 ⟨afK _,hE⟩ ?_ ?_
 ·exact abS [] [0]
 clear hE;rintro i ⟨hi,hE⟩;refine fM ?_;by_cases h1:i<s.early.length
 ·have e1:=inT h1
  have hw:=ae h1 af0;have hgd:(rows aX.c s.early).getD i []=cK (fB s.early i).a:=aK (f:=aX.c) default h1;have hm:fB s.early i∈s.early:=cR default h1;have c1:=gV (fB s.early i).vals false s.cfg.bals.length (by have:=hv _ hm;omega);have hf0:∀ {v:Int},eaE s i=v->v≠0->E=v:=fun h0 h2=>by rw[hE,uz h1 (by rw[h0];exact h2),h0]
  have hf1:eaE s i=0->E=frE (eaE s) (s.early.length-(i+1)) (i+1):=fun h0=>by rw[hE,uy h1 h0]
  clear hE;unfold eaE at hf0 hf1;generalize cM (fB s.early i).vals s.cfg.bals.length=V at *;refine bO e1 ?_;refine aA hgd ?_;refine aP (c0) ?_;refine aA hgd ?_;refine aP (c1) ?_;by_cases q:V=0
  ·have k:(V != 0)=false:=by simp[q]
   refine da k ?_;refine aA hw ?_;refine⟨i+1,⟨h1,hf1 q⟩,af0,?_⟩;exact abS [] [0]
  ·have k:(V != 0)=true:=by simp[q]
   obtain rfl:=hf0 rfl q;rw[aD q,acI];refine aW k ?_;exact aj
 ·obtain rfl:i=s.early.length:=af0
  have e1:=inF (s.early.length);rw[ux]at hE;subst hE;rw[ax rfl,acD];clear hi h1;have c2:=kg s s.f.ep;obtain⟨S,hS⟩:∃S,S=di s s.f.ep:=⟨_,rfl⟩
  have hS1:S.1=(cH s.f.ep s.cfg.spe).1:=by rw[hS];rfl
  rw[<-hS]at c2;obtain⟨S1,S2⟩:=S;clear hS;dsimp only at c2 hS1;refine aS e1 ?_;refine abl c2 ?_;refine aE (fun i:Nat=>[(6,.int .i64 i)]) (fun i=>[.var (ak s.a)]) (fun i=>s.orph.length-i) (fun i=>i<=s.orph.length/\O=frE (sy s) (s.orph.length-i) i) 0 ⟨afK _,hO⟩ ?_ ?_
  ·exact abS [] [0]
  clear hO e1;rintro i ⟨hi,hO⟩;refine fM ?_;by_cases h1:i<s.orph.length
  ·have e1:=inT h1
   have hw:=ae h1 af0;have hgd:(rows au s.orph).getD i []=au (cU s.orph i):=aK (f:=au) dx h1;have hf0:sy s i≠0->O≠0:=fun h0=>by rw[hO,uz h1 h0];exact h0
   have hf1:sy s i=0->O=frE (sy s) (s.orph.length-(i+1)) (i+1):=fun h0=>by rw[hO,uy h1 h0]
   clear hO;have c3:=cj s.nodes (cU s.orph i).root hn;have c4:=cj s.nodes (cU s.orph i).parent hn;have yy:=fun h=>hf0 (ZP (s:=s) (i:=i) h)
   have nn:=fun a1 a2 a3 a4 a5 a6 a7=>hf1 (U8 (s:=s) (i:=i) a1 a2 a3 a4 a5 a6 a7)
   rw[<-hS1]at yy nn;clear hf0 hf1
   have hin:∀k,k<i->cU s.orph k∈s.orph.take i:=fun k hk=>by
    unfold cU;rw[afy,afz af0];exact adt.2 ⟨k,af0,rfl⟩
   have hout:∀b∈s.orph.take i,∃k,k<i/\cU s.orph k=b:=fun b hb=>by
    obtain⟨k,hk,he⟩:=adt.1 hb;refine⟨k,af0,?_⟩;unfold cU;rw[afy,afz af0];exact he
   generalize hx:cU s.orph i=x at *;generalize ab s.nodes x.root=I at *;generalize ab s.nodes x.parent=J at *;unfold nA at c3 c4;refine bO e1 ?_;by_cases q1:x.root=rt0
   ·have k1:=ax q1;rw[aD (yy (.inl q1))];refine dV hgd k1 ?_;exact aj
   have k1:=aD q1;refine bm hgd k1 ?_;refine ap c3 ?_;by_cases q2:0<=I
   ·have k2:decide (I ≥ 0)=true:=ax q2;have k2':decide (0<=I)=true:=ax q2;rw[aD (yy (.inr (.inl q2)))];refine dV k2 k2' ?_;exact aj
   have k2:decide (I ≥ 0)=false:=aD q2;have k2':decide (0<=I)=false:=aD q2;refine bm k2 k2' ?_;refine ap c4 ?_;by_cases q3:0<=J
   ·have k3:decide (J ≥ 0)=true:=ax q3;have k3':decide (0<=J)=true:=ax q3;rw[aD (yy (.inr (.inr (.inl q3))))];refine dV k3 k3' ?_;exact aj
   have k3:decide (J ≥ 0)=false:=aD q3;have k3':decide (0<=J)=false:=aD q3;by_cases q4:x.timely=true
   ·rw[aD (yy (.inr (.inr (.inr (.inl q4)))))];refine kU k3 k3' q4 ?_;exact aj
   have k4:x.timely=false:=by simpa using q4
   by_cases q5:s.now<x.slot
   ·have k5:decide (x.slot > s.now)=true:=ax q5;have k5':decide (s.now<x.slot)=true:=ax q5;rw[aD (yy (.inr (.inr (.inr (.inr (.inl q5))))))];refine ec k3 k3' k4 k5 k5' ?_;refine aac ?_;exact aj
   have k5:decide (x.slot > s.now)=false:=aD q5;have k5':decide (s.now<x.slot)=false:=aD q5;by_cases q6:x.slot<=S1
   ·have k6:=ax q6;rw[aD (yy (.inr (.inr (.inr (.inr (.inr (.inl q6)))))))];refine gO k3 k3' k4 k5 k5' k6 ?_;refine aac ?_;exact aj
   have k6:=aD q6;refine gO k3 k3' k4 k5 k5' k6 ?_;refine aab ?_;clear c3 c4 k1 k2 k2' k3 k3' k4 k5 k5' k6;refine aE (fun k:Nat=>[(8,.int .i64 k)]) (fun k=>[.var (ak s.a),.var (au x)]) (fun k=>i-k) (fun k=>k<=i/\∀m,m<k->(cU s.orph m).root≠x.root) 0 ⟨afK _,fun m hm=>absurd hm (acJ m)⟩ ?_ ?_
   ·exact abS [] [0,1]
   rintro k ⟨hk,hm⟩;refine fM ?_;by_cases h2:k<i
   ·have e2:=inT h2
    have hwk:=ae h2 af0;have hgk:(rows au s.orph).getD k []=au (cU s.orph k):=aK (f:=au) dx af0;have hxk:k<s.orph.length:=af0
    have hyk:=hin k h2;generalize hy:cU s.orph k=y at *;refine bO e2 ?_;by_cases q7:y.root=x.root
    ·have k7:=ax q7;rw[aD (yy (.inr (.inr (.inr (.inr (.inr (.inr (by rw[<-q7];exact List.mem_map_of_mem hyk))))))))];refine kU hgk k7 hxk ?_;exact aj
    ·have k7:=aD q7
     refine uA hgk k7 hxk ?_;refine aA hwk ?_;refine⟨k+1,⟨h2,fun m h3=>?_⟩,af0,?_⟩
     ·by_cases h4:m=k
      ·subst h4;rw[hy];exact q7
      ·exact hm m af0
     ·exact abS [] [0,1]
   ·obtain rfl:k=i:=af0
    have e2:=inF k
    have hz:x.root∉(s.orph.take k).map (·.root):=fun h=>by
     obtain⟨b,hb,he⟩:=acz.1 h;obtain⟨m,hm1,hm2⟩:=hout b hb;exact hm m hm1 (by rw[hm2];exact he)
    refine da e2 ?_;refine aA hw ?_;refine⟨k+1,⟨h1,nn q1 q2 q3 (by simpa using q4) q5 q6 hz⟩,af0,?_⟩;exact abS [] [0]
  ·obtain rfl:i=s.orph.length:=af0
   have e1:=inF (s.orph.length);rw[ux]at hO;subst hO;rw[ax rfl];refine aS e1 ?_;exact aj
structure rC(s:af):Prop where
 a1:(nod s.nodes 0).blk.root=s.f.rt
 a2:0<=ab s.nodes s.j.rt
 a3:(nod s.nodes (ab s.nodes s.j.rt).toNat).status≠2
 a4:s.f.ep<=s.j.ep
 a5:0<=dr s.tabs s.j
 a6:frE (mO s) (s.tabs.length-0) 0=0
 a7:(decide (s.latest.length=s.cfg.bals.length)&&(!(cm (fun i=>!(vot s.latest i).has&&decide (vot s.latest i≠eY)) s.latest.length).isSome&&(decide (s.eqv.length=0) || decide (cM s.eqv s.cfg.bals.length=0))))=true
 a8:s.boost=rt0\/0<=ab s.nodes s.boost
 a9:s.now<=1099511627776
 a10:s.j.ep<=dg s s.now
 a11:lI s 0 s.f.ep=true
 a12:(cm (fun i=>decide (s.now<(nod s.nodes i).blk.slot) || !mw s (nod s.nodes i).blk) s.nodes.length).isSome=false
 a13:vb s=true
theorem U7(p:Nat->Bool):∀n,orN p n=true↔∃k,k<n/\p k=true
 |0=>⟨fun h=>(by cases h),fun ⟨k,hk,_⟩=>absurd hk (acJ k)⟩
 | n + 1 => by
   show (orN p n || p n)=true↔_
   rw[adm,U7 p n];constructor
   ·rintro (⟨k,h1,h2⟩|h)
    ·exact⟨k,af0,h2⟩
    ·exact⟨n,af0,h⟩
   ·rintro⟨k,h1,h2⟩;by_cases hk:k=n
    ·subst hk;exact .inr h2
    ·exact .inl ⟨k,af0,h2⟩
theorem BG(l:List aB)(c:Cp):0<=dr l c↔orN (fun i=>decide ((tab l i).cp=c)) l.length=true:=by
 rw[U7];unfold dr;cases h:cm (fun i=>decide ((tab l i).cp=c)) l.length with
 | none =>
   rw[j7];exact⟨fun h=>absurd h af2,fun ⟨k,h1,h2⟩=>by rw[fh h k h1]at h2;cases h2⟩
 | some k =>
   obtain⟨h1,h2,_⟩:=cJ h;rw[iu];exact⟨fun _=>⟨k,h1,h2⟩,fun _=>af0⟩
theorem JA{s:af}(h1:1<=s.cfg.spe)(h2:s.cfg.spe<=64)(n:Int):(iC n s.cfg.spe).1=dg s n:=by
 unfold iC nS;rw[ax h1,ax h2];rfl
theorem Ct{c:cI}(h:gF c=0):1<=c.spe/\c.spe<=64:=by
 unfold gF at h;by_cases h1:c.spe<1
 ·rw[afA h1]at h;cases h
 ·rw[afx h1]at h;by_cases h2:64<c.spe
  ·rw[afA h2]at h;cases h
  ·exact⟨af0,af0⟩
theorem ZO{s:af}(h1:1<=s.cfg.spe)(h2:s.cfg.spe<=64)(b:Blk):wv s b=mw s b:=by
 unfold wv mw;rw[JA h1 h2]
theorem Wl{s:af}(hn:gF s.cfg=0)(hs:statV s.nodes=0)(z1:¬s.cfg.lim.node<s.nodes.length)(z2:¬s.cfg.lim.orph<s.orph.length)(z3:¬s.cfg.lim.early<s.early.length)(z4:¬s.cfg.lim.table<s.tabs.length)(hf:U64 s.f.ep)(hw:U64 s.now):(rC s->oz s=0)/\(¬rC s->oz s=2):=by
 obtain⟨p1,p2⟩:=Ct hn
 have key:oz s=if En s=false then 2 else if (decide (frE (mO s) (s.tabs.length-0) 0=0)&&orN (fun i=>decide ((tab s.tabs i).cp=s.j)) s.tabs.length)=false then 2
  else if mP s=false then 2 else if sv s=false then 2 else if vb s=false then 2 else 0:=by
  unfold oz;rw[afx (fun h=>h hn),afx (fun h=>h hs),afx z1,afx z2,afx z3,afx z4]
 have hv:mP s=(decide (s.latest.length=s.cfg.bals.length)&&(!(cm (fun i=>!(vot s.latest i).has&&decide (vot s.latest i≠eY)) s.latest.length).isSome&&(decide (s.eqv.length=0) || decide (cM s.eqv s.cfg.bals.length=0)))):=by
  unfold mP
  have e1:decide ((s.latest.length:Int)=(s.cfg.bals.length:Int))=decide (s.latest.length=s.cfg.bals.length):=by
   by_cases q:s.latest.length=s.cfg.bals.length
   ·rw[ax q,ax af0]
   ·rw[aD q,aD af0]
  have e2:decide ((s.eqv.length:Int)=0)=decide (s.eqv.length=0):=by
   by_cases q:s.eqv.length=0
   ·rw[ax q,ax af0]
   ·rw[aD q,aD af0]
  rw[e1,e2,Bool.and_left_comm]
 have hnd:sv s=!(cm (fun i=>decide (s.now<(nod s.nodes i).blk.slot) || !mw s (nod s.nodes i).blk) s.nodes.length).isSome:=by
  have he:(fun i=>decide (s.now<(nod s.nodes i).blk.slot) || !wv s (nod s.nodes i).blk)=(fun i=>decide (s.now<(nod s.nodes i).blk.slot) || !mw s (nod s.nodes i).blk):=funext fun i=>by rw[ZO p1 p2]
  unfold sv;rw[he]
 have hfin:En s=true↔((nod s.nodes 0).blk.root=s.f.rt/\0<=ab s.nodes s.j.rt/\(nod s.nodes (ab s.nodes s.j.rt).toNat).status≠2/\s.f.ep<=s.j.ep)/\((s.boost=rt0\/0<=ab s.nodes s.boost)/\s.now<=1099511627776/\s.j.ep<=dg s s.now)/\(cH s.f.ep s.cfg.spe).2=0/\(nod s.nodes 0).blk.slot<=(cH s.f.ep s.cfg.spe).1:=by
  unfold En;rw[JA p1 p2];simp only[afL,adm,afJ];exact⟨fun ⟨⟨a,b⟩,c⟩=>⟨a,b,c⟩,fun ⟨a,b,c⟩=>⟨⟨a,b⟩,c⟩⟩
 have hea:lI s 0 s.f.ep=true↔((cH s.f.ep s.cfg.spe).2≠0\/(nod s.nodes 0).blk.slot<=(cH s.f.ep s.cfg.spe).1):=by
  unfold lI di;by_cases q:(cH s.f.ep s.cfg.spe).2=0
  ·simp[q]
  ·simp[q]
 constructor
 ·intro h;have hst:(cH s.f.ep s.cfg.spe).2=0:=sM hf.lo p1 p2 hw.lo hw.hi (adK h.a4 h.a10);have hF:En s=true:=hfin.2 ⟨⟨h.a1,h.a2,h.a3,h.a4⟩,⟨h.a8,h.a9,h.a10⟩,hst,(hea.1 h.a11).resolve_left (fun hh=>hh hst)⟩;have hT:=(BG s.tabs s.j).1 h.a5;rw[key,hF,afx af2,hT,ax h.a6,hv,h.a7,hnd,h.a12,h.a13];rfl
 ·intro h;rw[key];by_cases q1:En s=false
  ·rw[afA q1]
  rw[afx q1];by_cases q2:(decide (frE (mO s) (s.tabs.length-0) 0=0)&&orN (fun i=>decide ((tab s.tabs i).cp=s.j)) s.tabs.length)=false
  ·rw[afA q2]
  rw[afx q2];by_cases q3:mP s=false
  ·rw[afA q3]
  rw[afx q3];by_cases q4:sv s=false
  ·rw[afA q4]
  rw[afx q4];by_cases q5:vb s=false
  ·rw[afA q5]
  exfalso
  simp only[adM]at q1 q2 q3 q4 q5;obtain⟨⟨b1,b2,b3,b4⟩,⟨b5,b6,b7⟩,b8,b9⟩:=hfin.1 q1;rw[afL,afJ]at q2;rw[hnd]at q4;exact h ⟨b1,b2,b3,b4,(BG _ _).2 q2.2,q2.1,hv▸q3,b5,b6,b7,hea.2 (.inr b9),by simpa using q4,q5⟩
theorem ZJ(c:cI):(wu c).2=gF c:=by
 unfold wu;split
 ·rename_i h;exact h.symm
 ·rfl
theorem RA(s:af)(h:Ly s)(hnw:U64 s.now):PC Tryz.prog 34 [.agg (ak s.a)] (.int .i64 (oz s)):=by
 refine aQ 8 ?_;have c1:=Kb s.cfg h.bc;have c2:=xc s.nodes h.bn;have c3:=cj s.nodes s.j.rt h.bn;have c4:=qy s.tabs s.j h.bt;have c5:=qc s;have c6:=KR s.latest s.eqv s.cfg.bals.length h.bl h.be;have c7:=cj s.nodes s.boost h.bn;have c9:=Mc s 0 s.f.ep af2;have c11:=KS s h.bn h.ba h.bo h.bv;have n2:=ZJ s.cfg;have vc:=fun a b z1 z2 z3 z4=>Wl (s:=s) a b z1 z2 z3 z4 h.uf hnw
 have hspe:=Ct (c:=s.cfg)
 have htr:statV s.nodes=0->bk s.nodes:=fun h4=>by
  unfold statV at h4;split at h4
  ·rename_i h5;exact absurd h4 h5
  ·rename_i h5;exact(sS (by simpa using h5)).1
 unfold nA at c3 c7;generalize hR:oz s=R at *;unfold oz at hR;rw[<-n2]at hR vc hspe;clear n2;generalize wu s.cfg=NS at *;obtain⟨NS1,E1⟩:=NS;generalize statV s.nodes=SV at *;dsimp only at c1 hR vc hspe;by_cases q1:E1=0
 case neg=>
  rw[afA q1]at hR;subst hR;exact aw
 subst q1;rw[afx (fun h=>h rfl)]at hR;by_cases q2:SV=0
 case neg=>
  rw[afA q2]at hR;subst hR;exact aw
 subst q2;rw[afx (fun h=>h rfl)]at hR;have ht:=htr rfl;have hpos:=ht.pos;obtain⟨p1,p2⟩:=hspe rfl;clear htr hspe;refine nx fun _=>?_
 by_cases z1:s.cfg.lim.node<s.nodes.length
 ·rw[afA z1]at hR;subst hR;exact aw
 rw[afx z1]at hR;by_cases z2:s.cfg.lim.orph<s.orph.length
 ·rw[afA z2]at hR;subst hR;exact aw
 rw[afx z2]at hR;by_cases z3:s.cfg.lim.early<s.early.length
 ·rw[afA z3]at hR;subst hR;exact aw
 rw[afx z3]at hR;by_cases z4:s.cfg.lim.table<s.tabs.length
 ·rw[afA z4]at hR;subst hR;exact aw
 clear hR;obtain⟨r0,r2⟩:=vc rfl rfl z1 z2 z3 z4;clear vc;have c8:=gY s s.now af0;have c9:=c9 af0;have c10:=KP s h.bn af0;have hg0:=dv hpos;have hgJ:0<=ab s.nodes s.j.rt->(rows aT s.nodes).getD (ab s.nodes s.j.rt).toNat []=aT (nod s.nodes (ab s.nodes s.j.rt).toNat):=fun hh=>dv (dD hh).1
 have hJl:0<=ab s.nodes s.j.rt->(ab s.nodes s.j.rt).toNat<s.nodes.length:=fun hh=>(dD hh).1
 have hp0:(0:Int)<((s.nodes.length:Nat):Int):=af0
 refine nx fun _=>?_
 clear z1 z2 z3 z4 c1 c2 c3;have b1:=fun(c:rC s)=>c.a1
 have b2:=fun(c:rC s)=>c.a2
 have b3:=fun(c:rC s)=>c.a3
 have b4:=fun(c:rC s)=>c.a4
 have b5:=fun(c:rC s)=>c.a5
 have b6:=fun(c:rC s)=>c.a6
 have b7:=fun(c:rC s)=>c.a7
 have b8:=fun(c:rC s)=>c.a8
 have b9:=fun(c:rC s)=>c.a9
 have b10:=fun(c:rC s)=>c.a10
 have b11:=fun(c:rC s)=>c.a11
 have b12:=fun(c:rC s)=>c.a12
 have b13:=fun(c:rC s)=>c.a13
 have bb:=fun x1 x2 x3 x4 x5 x6 x7 x8 x9 x10 x11 x12 x13=>r0 (⟨x1,x2,x3,x4,x5,x6,x7,x8,x9,x10,x11,x12,x13⟩:rC s)
 clear r0;generalize nod s.nodes 0=N0 at *;generalize ab s.nodes s.j.rt=J at *;generalize dr s.tabs s.j=FT at *;generalize ab s.nodes s.boost=FB at *;generalize vb s=QV at *;generalize lI s 0 s.f.ep=ES at *;generalize (cm (fun i=>decide (s.now<(nod s.nodes i).blk.slot) || !mw s (nod s.nodes i).blk) s.nodes.length).isSome=NV at *;generalize (decide (s.latest.length=s.cfg.bals.length)&&(!(cm (fun i=>!(vot s.latest i).has&&decide (vot s.latest i≠eY)) s.latest.length).isSome&&(decide (s.eqv.length=0) || decide (cM s.eqv s.cfg.bals.length=0))))=VV at *;generalize dg s s.now=EN at *;by_cases q1:N0.blk.root=s.f.rt
 case neg=>
  obtain rfl:=r2 (fun c=>q1 (b1 c));clear b1 b2 b3 b4 b5 b6 b7 b8 b9 b10 b11 b12 b13 bb r2 hgJ hJl;exact aw
 by_cases q2:J<0
 ·obtain rfl:=r2 (fun c=>by have:=b2 c;omega);clear b1 b2 b3 b4 b5 b6 b7 b8 b9 b10 b11 b12 b13 bb r2 hgJ hJl;exact aw
 obtain⟨k,rfl⟩:=afF (ac8.1 q2);have hgJ:=hgJ (ac8.1 q2);have hJl:=hJl (ac8.1 q2);rw[afH]at hgJ hJl b3 bb;generalize nod s.nodes k=NJ at *;have e1:(N0.blk.root=s.f.rt)=True:=eq_true q1;by_cases q3:NJ.status=2
 ·obtain rfl:=r2 (fun c=>b3 c q3);clear b1 b2 b3 b4 b5 b6 b7 b8 b9 b10 b11 b12 b13 bb r2 q1;exact aw
 by_cases q4:s.j.ep<s.f.ep
 ·obtain rfl:=r2 (fun c=>by have:=b4 c;omega);clear b1 b2 b3 b4 b5 b6 b7 b8 b9 b10 b11 b12 b13 bb r2 q1;exact aw
 by_cases q5:FT<0
 ·obtain rfl:=r2 (fun c=>by have:=b5 c;omega);clear b1 b2 b3 b4 b5 b6 b7 b8 b9 b10 b11 b12 b13 bb r2 q1;exact aw
 replace bb:=bb q1 af0 q3 af0 af0
 clear b1 b2 b3 b4 b5 q1;obtain⟨F,hF⟩:∃F,F=frE (mO s) (s.tabs.length-0) 0:=⟨_,rfl⟩
 rw[<-hF]at b6 bb;have hbt:=h.bt;refine nx fun _=>?_
 refine oU s.tabs.length (fun i=>F=frE (mO s) (s.tabs.length-i) i) (fun i=>[(7,.int .i64 i)]) (fun i=>[.var (ak s.a),.var (ak NS1.a)]) hF (fun i h1 hn hw h2=>?_) (fun hn _=>?_)
 ·have hgd:(rows aB.c s.tabs).getD i []=bE (tab s.tabs i).a:=aK (f:=aB.c) default h1
  have hm:tab s.tabs i∈s.tabs:=cR default h1;have hgp:(rows aB.c s.tabs).getD (i-1) []=bE (tab s.tabs (i-1)).a:=aK (f:=aB.c) default af0;have d1:=Ft (tab s.tabs (i-1)).cp (tab s.tabs i).cp;have d2:=tH (tab s.tabs i) s.cfg.bals.length (h.bb _ hm)
  have hf0:¬mO s i=0->R=2:=fun h2=>r2 (fun c=>by
   have:=b6 c;rw[hn,uz h1 h2]at this;exact h2 this)
  have hf:mO s i=0->F=frE (mO s) (s.tabs.length-(i+1)) (i+1):=fun h0=>by rw[hn,uy h1 h0]
  clear hn hF bb b6 b7 b8 b9 b10 b11 b12 b13 c4 c6 c7 c8 c9 c10 c11 r2 q2 q3 q4 q5 hgJ hJl hg0 e1 hm ht;generalize frE (mO s) (s.tabs.length-(i+1)) (i+1)=G at *;unfold mO at hf0 hf;generalize tab s.tabs (i-1)=y at *;generalize tab s.tabs i=x at *;generalize fY x s.cfg.bals.length=V at *;generalize gT y.cp x.cp=C at *;by_cases q6:V=0
  case neg=>
   obtain rfl:=hf0 (by(repeat' split)<;>first|simp<;>fail|contradiction);clear hf0 hf;exact aw
  by_cases qi:i=0
  ·have hf:=hf (by rw[afx (fun h=>af0),afx (fun h=>h q6)]);have e0:¬ (i:Int) > 0:=af0
   clear hf0 qi;subst q6;exact aw
  ·have e0:(i:Int) > 0:=af0
   have hw1:IntKind.i64.wrap ((i:Int)-1)=((i-1:Nat):Int):=by rw[ar af0 af0];omega
   have hix:((i-1:Nat):Int)<((s.tabs.length:Nat):Int):=af0
   have hix2:i-1<s.tabs.length:=af0
   by_cases q7:0<=C
   ·obtain rfl:=hf0 (by rw[afA ⟨af0,q7⟩];decide);clear hf0 hf;subst q6;exact aw
   ·have hf:=hf (by rw[afx (fun h=>q7 h.2),afx (fun h=>h q6)]);clear hf0;subst q6;exact aw
 ·rw [ux] at hn
  subst hn;clear hF b6 hgJ hJl hg0 e1 q2 q3 q4 q5 c4;cases VV with
  | false =>
    obtain rfl:=r2 (fun c=>by have:=b7 c;cases this);clear r2 bb b7 b8 b9 b10 b11 b12 b13;exact aw
  |true=>
  refine nx fun _=>?_
  by_cases q9:s.boost=rt0\/¬s.boost=rt0/\¬FB<0
  case neg=>
   rw[GG,not_and]at q9;obtain⟨q8,q9⟩:=q9;have q9:=Decidable.not_not.1 (q9 q8);obtain rfl:=r2 (fun c=>(b8 c).elim q8 (fun h=>af0));clear r2 bb b7 b8 b9 b10 b11 b12 b13;exact aw
  have q9':s.boost=rt0\/0<=FB:=q9.imp id (fun h=>af0);replace bb:=bb rfl rfl q9'
  clear q9' b7 b8 c6;rcases q9 with q8|⟨q8,q9⟩
  case' inl=>have e8:(s.boost=rt0)=True:=eq_true q8;clear q8
  all_goals
   by_cases q10:1099511627776<s.now
   ·obtain rfl:=r2 (fun c=>by have:=b9 c;omega);clear r2 bb b9 b10 b11 b12 b13;exact aw
   by_cases q11:EN<s.j.ep
   ·obtain rfl:=r2 (fun c=>by have:=b10 c;omega);clear r2 bb b9 b10 b11 b12 b13;exact aw
   replace bb:=bb af0 af0
   clear b9 b10;refine nx fun _=>?_
   cases ES with
   | false =>
     obtain rfl:=r2 (fun c=>by have:=b11 c;cases this);clear r2 bb b11 b12 b13;exact aw
   |true=>
   refine nx fun _=>?_
   cases NV with
   | true =>
     obtain rfl:=r2 (fun c=>by have:=b12 c;cases this);clear r2 bb b11 b12 b13;exact aw
   |false=>
   refine nx fun _=>?_
   cases QV with
   | false =>
     obtain rfl:=r2 (fun c=>by have:=b13 c;cases this);clear r2 bb b11 b12 b13;exact aw
   | true =>
     obtain rfl:=bb rfl rfl rfl;clear r2 b11 b12 b13;exact aw
end Go.Proofs.YtmpddimhleianaaGreat
