/-
 My texts Sa, Sb, joined.
-/
import Derived.Test.YtkgimpdgncakjaaGreatV4
import Derived.Test.YtkgimpdgncakjaaGreatV5
import Derived.Test.YtkgimpdgncakjaaGreatR1
import Derived.Test.YtkgimpdgncakjaaGreatT7
namespace Go.Proofs.YtkgimpdgncakjaaGreat
open Go Go.FH Go.RowKit
set_option linter.unusedVariables false
set_option linter.unusedSimpArgs false
set_option maxRecDepth 8000
set_option maxHeartbeats 4000000
theorem mL_(t:List Nod)(r:Rt):0≤af_ t r↔r∈t.map (·.blk.root):=by
 constructor
 ·intro h;obtain⟨h1,h2⟩:=cn_ h;rw[List.mem_map];refine⟨nod t (af_ t r).toNat,?_,h2⟩;unfold nod;rw[List.getD_eq_getElem?_getD,List.getElem?_eq_getElem h1];exact List.getElem_mem h1
 ·intro h;obtain⟨n,h1,h2⟩:=List.mem_map.1 h;obtain⟨k,hk,he⟩:=List.getElem_of_mem h1;refine fO_ (k:=k) hk ?_;unfold nod;rw[List.getD_eq_getElem?_getD,List.getElem?_eq_getElem hk];show t[k].blk.root=r
  rw[he];exact h2
theorem Hd_(t:List Nod)(hb:t.length≤1000000):PC Tryz.prog 142 [.agg [.sl 240 false (rows ax_ t)]] (.int .i64 (hX_ t)):=by
 refine PC.fact 5 rA_ (by simp) puA puA ?_;unfold ke_;refine bd ?_;obtain⟨R,hR⟩:∃R,R=hX_ t:=⟨_,rfl⟩
 rw[←hR];unfold hX_ at hR;by_cases q0:t.length=0
 ·have e0:((t.length:Int)==0)=true:=by simp[q0]
  rw[if_pos (.inl q0)]at hR;subst hR;repeat(first|refine aa_ ?_|simp only[go_sem,e0])
  refine Ri_ ?_
  exact ae_
 have e0:((t.length:Int)==0)=false:=by simp;intro h;exact q0 (by simp[h])
 by_cases q1:4096<t.length
 ·have e1:decide ((t.length:Int) > 4096)=true:=decide_eq_true (by omega);have e1':decide ((4096:Int)<(t.length:Int))=true:=decide_eq_true (by omega);rw[if_pos (.inr q1)]at hR;subst hR;repeat(first|refine aa_ ?_|simp only[go_sem,e0,e1,e1'])
  refine Ri_ ?_
  exact ae_
 have e1:decide ((t.length:Int) > 4096)=false:=decide_eq_false (by omega);have e1':decide ((4096:Int)<(t.length:Int))=false:=decide_eq_false (by omega);rw[if_neg (fun h=>h.elim q0 q1)]at hR;repeat(first|refine aa_ ?_|simp only[go_sem,e0,e1,e1'])
 refine Rh_ ?_
 refine an_ (fun i:Nat=>[(3,.int .i64 i)]) (fun i=>[.var [.sl 240 false (rows ax_ t)]]) (fun i=>t.length-i) (fun i=>i≤t.length∧R=frE (pK_ t) (t.length-i) i) 0 ⟨Nat.zero_le _,hR⟩ ?_ ?_
 ·exact SN_ [] [0]
 clear hR e0 e1 e1';rintro i ⟨hi,hn⟩;refine cJ_ ?_;by_cases h1:i<t.length
 ·have e1:=inT h1
  have hw:=ag_ h1 (by omega);have hgd:(rows ax_ t).getD i []=ax_ (nod t i):=aA_ (f:=ax_) gs_ h1;have c1:=zs_ (nod t i).status;have c2:=bg_ (t.take i) (nod t i).blk.root (by rw[List.length_take];omega);have htk:(rows ax_ t).take i=rows ax_ (t.take i):=ky_ _ _ _;have ht:∀ {v:Int},pK_ t i=v→v≠0→R=v:=fun h0 h2=>by rw[hn,oS_ h1 (by rw[h0];exact h2),h0]
  have hf:pK_ t i=0→R=frE (pK_ t) (t.length-(i+1)) (i+1):=fun h0=>by rw[hn,oR_ h1 h0]
  clear hn;have hU:∀k:Nat,(nod t i).up=k→k<i→(rows ax_ t).getD (nod t i).up.toNat []=ax_ (nod t (nod t i).up.toNat):=fun k hk hki=>aA_ (f:=ax_) gs_ (by omega)
  obtain⟨G,hG⟩:∃G,G=frE (pK_ t) (t.length-(i+1)) (i+1):=⟨_,rfl⟩
  rw[←hG]at hf;unfold pK_ at ht hf;simp only[←mL_]at ht hf;have hile:(i:Int)≤((t.length:Nat):Int):=by omega
  generalize hx:nod t i=x at *;generalize af_ (t.take i) x.blk.root=I at *;unfold nA at c2;generalize htk0:rows ax_ (t.take i)=tk at *;repeat(first|refine aa_ ?_|simp only[go_sem,e1])
  refine ac_ ?_;repeat(first|refine aa_ ?_|simp only[go_sem,hgd])
  refine aj_ c1 ?_;by_cases q1:0≤x.status∧x.status≤2
  case neg=>
   have k1:(decide (0≤x.status)&&decide (x.status≤2))=false:=by rw[Bool.and_eq_false_iff,decide_eq_false_iff_not,decide_eq_false_iff_not];omega
   obtain rfl:=ht (if_pos q1) (by decide);repeat(first|refine aa_ ?_|simp only[go_sem,k1])
   refine Ri_ ?_
   exact ae_
  have k1:(decide (0≤x.status)&&decide (x.status≤2))=true:=by simp[q1]
  rw[if_neg (fun h=>h q1)]at ht hf;by_cases qi:i=0
  ·subst qi
   obtain rfl:[]=tk:=htk0;by_cases q2:x.up=-1
   case neg=>
    have k2:(x.up != -1)=true:=by simp[q2]
    obtain rfl:=ht (if_pos ⟨rfl,q2⟩) (by decide);repeat(first|refine aa_ ?_|simp only[go_sem,k1,k2])
    refine Ri_ ?_
    exact ae_
   have k2:(x.up != -1)=false:=by simp[q2]
   rw[if_neg (fun h=>h.2 q2),if_neg (by omega)]at ht hf;repeat(first|refine aa_ ?_|simp only[go_sem,k1,k2])
   refine ab_ ?_;repeat(first|refine aa_ ?_|simp only[go_sem,htk])
   refine ao_ (c2) ?_;by_cases q3:0≤I
   ·have k3:decide (I ≥ 0)=true:=decide_eq_true q3;have k3':decide (0≤I)=true:=decide_eq_true q3;obtain rfl:=ht (if_pos q3) (by decide);repeat(first|refine aa_ ?_|simp only[go_sem,k3,k3'])
    refine Ri_ ?_
    exact ae_
   have k3:decide (I ≥ 0)=false:=decide_eq_false q3;have k3':decide (0≤I)=false:=decide_eq_false q3;rw[if_neg q3]at ht hf;repeat(first|refine aa_ ?_|simp only[go_sem,k3,k3'])
   refine Rh_ ?_
   refine Rh_ ?_
   refine ab_ ?_;repeat(first|refine aa_ ?_|simp only[go_sem,hw])
   refine⟨0+1,⟨h1,(hf (if_pos rfl)).trans hG⟩,by omega,?_⟩;exact SN_ [] [0]
  ·have ki:((i:Int)==0)=false:=by simp;omega
   have kp:decide ((i:Int) > 0)=true:=decide_eq_true (by omega);have kp':decide ((0:Int)<(i:Int))=true:=decide_eq_true (by omega);rw[if_neg (fun h=>qi h.1)]at ht hf;by_cases q2:x.up<0
   ·have k2:decide (x.up<0)=true:=decide_eq_true q2;obtain rfl:=ht (if_pos ⟨by omega,.inl q2⟩) (by decide);repeat(first|refine aa_ ?_|simp only[go_sem,k1,ki,kp,kp',k2])
    refine Ri_ ?_
    exact ae_
   have k2:decide (x.up<0)=false:=decide_eq_false q2;by_cases q3:(i:Int)≤x.up
   ·have k3:decide (x.up ≥ (i:Int))=true:=decide_eq_true q3;have k3':decide ((i:Int)≤x.up)=true:=decide_eq_true q3;obtain rfl:=ht (if_pos ⟨by omega,.inr q3⟩) (by decide);repeat(first|refine aa_ ?_|simp only[go_sem,k1,ki,kp,kp',k2,k3,k3'])
    refine Ri_ ?_
    exact ae_
   have k3:decide (x.up ≥ (i:Int))=false:=decide_eq_false q3;have k3':decide ((i:Int)≤x.up)=false:=decide_eq_false q3;rw[if_neg (fun h=>h.2.elim q2 q3)]at ht hf;have hU:=hU x.up.toNat (by omega) (by omega);have hub:decide (x.up<((t.length:Nat):Int))=true:=decide_eq_true (by omega);have hu0:0≤x.up:=by omega
   have hu1:x.up<((t.length:Nat):Int):=by omega
   generalize nod t x.up.toNat=y at *;repeat(first|refine aa_ ?_|simp only[go_sem,k1,ki,kp,kp',k2,k3,k3'])
   refine ab_ ?_;repeat(first|refine aa_ ?_|simp only[go_sem,htk])
   refine ao_ (c2) ?_;by_cases q4:0≤I
   ·have k4:decide (I ≥ 0)=true:=decide_eq_true q4;have k4':decide (0≤I)=true:=decide_eq_true q4;obtain rfl:=ht (if_pos q4) (by decide);repeat(first|refine aa_ ?_|simp only[go_sem,k4,k4'])
    refine Ri_ ?_
    exact ae_
   have k4:decide (I ≥ 0)=false:=decide_eq_false q4;have k4':decide (0≤I)=false:=decide_eq_false q4;rw[if_neg q4,if_neg qi]at ht hf;repeat(first|refine aa_ ?_|simp only[go_sem,k4,k4'])
   refine ab_ ?_;repeat(first|refine aa_ ?_|simp only[go_sem,kp,kp',hU])
   by_cases q5:x.blk.parent=y.blk.root
   case neg=>
    have k5:(decide (x.blk.parent=y.blk.root) != true)=true:=by simp[q5]
    obtain rfl:=ht (if_pos q5) (by decide);repeat(first|refine aa_ ?_|simp only[go_sem,k5,decide_eq_false q5])
    refine Ri_ ?_
    exact ae_
   rw[if_neg (fun h=>h q5)]at ht hf;repeat(first|refine aa_ ?_|simp only[go_sem,decide_eq_true q5])
   refine ab_ ?_;repeat(first|refine aa_ ?_|simp only[go_sem,kp,kp',hU])
   by_cases q6:x.blk.slot≤y.blk.slot
   ·have k6:=decide_eq_true q6;obtain rfl:=ht (if_pos q6) (by decide);repeat(first|refine aa_ ?_|simp only[go_sem,k6])
    refine Ri_ ?_
    exact ae_
   have k6:=decide_eq_false q6;rw[if_neg q6]at ht hf;repeat(first|refine aa_ ?_|simp only[go_sem,k6])
   refine ab_ ?_;repeat(first|refine aa_ ?_|simp only[go_sem,hw])
   refine⟨i+1,⟨h1,(hf rfl).trans hG⟩,by omega,?_⟩;exact SN_ [] [0]
 ·obtain rfl:i=t.length:=by omega
  have e1:=inF (t.length);rw[oQ_]at hn;subst hn;repeat(first|refine aa_ ?_|simp only[go_sem,e1])
  refine Rh_ ?_
  exact ae_
theorem BI_(t:List Nod)(hb:t.length≤1000000):PC Tryz.prog 67 [.agg [.sl 240 false (rows ax_ t)]] (.int .i64 (statV t)):=by
 refine PC.fact 7 uT_ (by simp) puA puA ?_;unfold mf_;refine bd ?_;have c1:=Hd_ t hb;obtain⟨R,hR⟩:∃R,R=statV t:=⟨_,rfl⟩
 rw[←hR];unfold statV at hR;have hok:=fun h=>ri_ (t:=t) h
 generalize hX_ t=V at *;try refine aa_ ?_
 refine aj_ c1 ?_;by_cases q1:V=0
 case neg=>
  have e1:(V != 0)=true:=by simp[q1]
  rw[if_pos q1]at hR;subst hR;repeat(first|refine aa_ ?_|simp only[go_sem,e1])
  refine Ri_ ?_
  exact ae_
 have e1:(V != 0)=false:=by simp[q1]
 rw[if_neg (by simp[q1])]at hR;obtain⟨ht,hl⟩:=hok q1;have hp:=ht.pos;repeat(first|refine aa_ ?_|simp only[go_sem,e1])
 refine Rh_ ?_
 refine an_ (fun i:Nat=>[(4,.int .i64 i)]) (fun i=>[.var [.sl 240 false (rows ax_ t)]]) (fun i=>t.length-i) (fun i=>1≤i∧i≤t.length∧R=frE (tJ_ t) (t.length-1-(i-1)) (i-1)) 1 ⟨Nat.le_refl _,hp,hR⟩ ?_ ?_
 ·exact SN_ [] [0]
 clear hR e1;rintro i ⟨h0,hi,hn⟩;refine cJ_ ?_;by_cases h1:i<t.length
 ·have e1:=inT h1
  have hw:=ag_ h1 (by omega);obtain⟨k,rfl⟩:∃k,i=k+1:=⟨i-1,by omega⟩
  have hk:k+1-1=k:=rfl;rw[hk]at hn;have hgd:(rows ax_ t).getD (k+1) []=ax_ (nod t (k+1)):=aA_ (f:=ax_) gs_ h1;have hf0:∀ {v:Int},tJ_ t k=v→v≠0→R=v:=fun h0 h2=>by rw[hn,oS_ (by omega) (by rw[h0];exact h2),h0]
  have hf:tJ_ t k=0→R=frE (tJ_ t) (t.length-1-(k+1)) (k+1):=fun h0=>by rw[hn,oR_ (by omega) h0]
  clear hn;obtain⟨u0,u1⟩:=ht.ok (k+1) (by omega) (by omega);have hU:(rows ax_ t).getD (nod t (k+1)).up.toNat []=ax_ (nod t (nod t (k+1)).up.toNat):=aA_ (f:=ax_) gs_ (by omega);have hub:decide ((nod t (k+1)).up<((t.length:Nat):Int))=true:=decide_eq_true (by omega);have hun:decide (0≤(nod t (k+1)).up)=true:=decide_eq_true u0;have hu1:(nod t (k+1)).up<((t.length:Nat):Int):=by omega
  have hix:((k+1:Nat):Int)<((t.length:Nat):Int):=by omega
  unfold tJ_ at hf0 hf;generalize nod t (k+1)=x at *;generalize nod t x.up.toNat=y at *;generalize hK:k+1=K at *;repeat(first|refine aa_ ?_|simp only[go_sem,e1])
  refine ac_ ?_;repeat(first|refine aa_ ?_|simp only[go_sem,hgd,hU])
  by_cases q1:x.status=1
  ·have k1:(x.status==1)=true:=by simp[q1]
   by_cases q2:y.status=1
   ·have k2:(y.status != 1)=false:=by simp[q2]
    have k3:(y.status==2)=false:=by simp[q2]
    repeat(first|refine aa_ ?_|simp only[go_sem,k1,k2,k3])
    refine ab_ ?_;repeat(first|refine aa_ ?_|simp only[go_sem,hw])
    refine⟨K+1,⟨by omega,h1,hf (if_neg (by rintro (h|h);exact h.2 q2;have:=h.1;omega))⟩,by omega,?_⟩;exact SN_ [] [0]
   ·have k2:(y.status != 1)=true:=by simp[q2]
    obtain rfl:=hf0 (if_pos (.inl ⟨q1,q2⟩)) (by decide);repeat(first|refine aa_ ?_|simp only[go_sem,k1,k2])
    refine Ri_ ?_
    exact ae_
  ·have k1:(x.status==1)=false:=by simp[q1]
   by_cases q2:y.status=2
   ·have k2:(y.status==2)=true:=by simp[q2]
    by_cases q3:x.status=2
    ·have k3:(x.status != 2)=false:=by simp[q3]
     repeat(first|refine aa_ ?_|simp only[go_sem,k1,k2,k3])
     refine ab_ ?_;repeat(first|refine aa_ ?_|simp only[go_sem,hw])
     refine⟨K+1,⟨by omega,h1,hf (if_neg (by rintro (h|h);exact q1 h.1;exact h.2 q3))⟩,by omega,?_⟩;exact SN_ [] [0]
    ·have k3:(x.status != 2)=true:=by simp[q3]
     obtain rfl:=hf0 (if_pos (.inr ⟨q2,q3⟩)) (by decide);repeat(first|refine aa_ ?_|simp only[go_sem,k1,k2,k3])
     refine Ri_ ?_
     exact ae_
   ·have k2:(y.status==2)=false:=by simp[q2]
    repeat(first|refine aa_ ?_|simp only[go_sem,k1,k2])
    refine ab_ ?_;repeat(first|refine aa_ ?_|simp only[go_sem,hw])
    refine⟨K+1,⟨by omega,h1,hf (if_neg (by rintro (h|h);exact q1 h.1;exact q2 h.1))⟩,by omega,?_⟩;exact SN_ [] [0]
 ·obtain rfl:i=t.length:=by omega
  have e1:=inF (t.length);rw[oQ_]at hn;subst hn;repeat(first|refine aa_ ?_|simp only[go_sem,e1])
  refine Rh_ ?_
  exact ae_
theorem ED_(latest:List Vot)(eqv:List Int)(n:Nat)(hl:latest.length≤1000000)(he:eqv.length≤1000000):PC Tryz.prog 72 [.agg [.sl 34 false (rows aV_ latest),.sl 1 false (aq_ .i64 eqv)],.int .i64 n]
 (.bool (decide (latest.length=n)&&(!(bD_ (fun i=>!(vot latest i).has&&decide (vot latest i≠do_)) latest.length).isSome&&(decide (eqv.length=0) || decide (cd_ eqv n=0))))):=by
 refine PC.fact 6 qA_ (by simp) puA puA ?_;unfold jq_;refine bd ?_;have c1:=dX_ eqv false n (by omega);by_cases q0:latest.length=n
 case neg=>
  have e0:((latest.length:Int) != (n:Int))=true:=by simp;omega
  rw[decide_eq_false q0,Bool.false_and];repeat(first|refine aa_ ?_|simp only[go_sem,e0])
  refine Ri_ ?_
  exact ae_
 have e0:((latest.length:Int) != (n:Int))=false:=by simp;omega
 rw[decide_eq_true q0,Bool.true_and];obtain⟨R,hR⟩:∃R,R=bD_ (fun i=>!(vot latest i).has&&decide (vot latest i≠do_)) latest.length:=⟨_,rfl⟩
 rw[←hR];have hR:R=dV_ (fun i=>!(vot latest i).has&&decide (vot latest i≠do_)) (latest.length-0) 0:=hR;generalize cd_ eqv n=V at *;repeat(first|refine aa_ ?_|simp only[go_sem,e0])
 refine Rh_ ?_
 refine an_ (fun i:Nat=>[(5,.int .i64 i)]) (fun i=>[.var [.sl 34 false (rows aV_ latest),.sl 1 false (aq_ .i64 eqv)]]) (fun i=>latest.length-i) (fun i=>i≤latest.length∧R=dV_ (fun i=>!(vot latest i).has&&decide (vot latest i≠do_)) (latest.length-i) i) 0 ⟨Nat.zero_le _,hR⟩ ?_ ?_
 ·exact SN_ [] [0]
 clear hR e0;rintro i ⟨hi,hn⟩;refine cJ_ ?_;by_cases h1:i<latest.length
 ·have e1:=inT h1
  have hw:=ag_ h1 (by omega);have hgd:(rows aV_ latest).getD i []=aV_ (vot latest i):=aA_ (f:=aV_) do_ h1;have ht:(!(vot latest i).has&&decide (vot latest i≠do_))=true→R=some i:=fun h=>by rw[hn,fD_ h1 h]
  have hf:(!(vot latest i).has&&decide (vot latest i≠do_))=false→R=dV_ (fun i=>!(vot latest i).has&&decide (vot latest i≠do_)) (latest.length-(i+1)) (i+1):=fun h=>by rw[hn,fC_ h1 h]
  clear hn;have hv0:aV_ do_=aV_ ⟨false,0,rt0⟩:=rfl;generalize vot latest i=x at *;repeat(first|refine aa_ ?_|simp only[go_sem,e1])
  refine ac_ ?_;repeat(first|refine aa_ ?_|simp only[go_sem,hgd])
  by_cases q1:x.has=true
  ·have k1:x.has=true:=q1;rw[q1]at hf;repeat(first|refine aa_ ?_|simp only[go_sem,hgd,k1])
   refine ab_ ?_;repeat(first|refine aa_ ?_|simp only[go_sem,hw])
   refine⟨i+1,⟨h1,hf rfl⟩,by omega,?_⟩;exact SN_ [] [0]
  ·have k1:x.has=false:=by simpa using q1
   by_cases q2:x=do_
   ·have k2:decide (x=⟨false,0,rt0⟩)=true:=decide_eq_true q2;rw[k1,decide_eq_false (fun h=>h q2)]at hf;repeat(first|refine aa_ ?_|simp only[go_sem,hgd,k1,k2])
    refine ab_ ?_;repeat(first|refine aa_ ?_|simp only[go_sem,hw])
    refine⟨i+1,⟨h1,hf rfl⟩,by omega,?_⟩;exact SN_ [] [0]
   ·have k2:decide (x=⟨false,0,rt0⟩)=false:=decide_eq_false q2;obtain rfl:=ht (by rw[k1,decide_eq_true q2];rfl);repeat(first|refine aa_ ?_|simp only[go_sem,hgd,k1,k2])
    refine Ri_ ?_
    exact ae_
 ·obtain rfl:i=latest.length:=by omega
  have e1:=inF (latest.length);rw[fB_]at hn;subst hn;repeat(first|refine aa_ ?_|simp only[go_sem,e1])
  refine ab_ ?_;by_cases q3:eqv.length=0
  ·have k3:((eqv.length:Int)==0)=true:=by simp[q3]
   rw[decide_eq_true q3];repeat(first|refine aa_ ?_|simp only[go_sem,k3])
   exact ae_
  ·have k3:((eqv.length:Int)==0)=false:=by simp;intro h;exact q3 (by simp[h])
   rw[decide_eq_false q3,Bool.false_or];repeat(first|refine aa_ ?_|simp only[go_sem,k3])
   refine So_ c1 ?_
   exact ae_
theorem EB_(s:ah_)(hb:s.nodes.length≤1000000)(h0:s.cfg.spe≠0):PC Tryz.prog 75 [.agg (ak_ s.a)] (.bool (!(bD_ (fun i=>decide (s.now<(nod s.nodes i).blk.slot) || !jj_ s (nod s.nodes i).blk) s.nodes.length).isSome)):=by
 refine PC.fact 4 xD_ (by simp) puA puA ?_;unfold oz_;refine bd ?_;obtain⟨R,hR⟩:∃R,R=bD_ (fun i=>decide (s.now<(nod s.nodes i).blk.slot) || !jj_ s (nod s.nodes i).blk) s.nodes.length:=⟨_,rfl⟩
 rw[←hR];have hR:R=dV_ (fun i=>decide (s.now<(nod s.nodes i).blk.slot) || !jj_ s (nod s.nodes i).blk) (s.nodes.length-0) 0:=hR;try refine aa_ ?_
 refine an_ (fun i:Nat=>[(3,.int .i64 i)]) (fun i=>[.var (ak_ s.a)]) (fun i=>s.nodes.length-i) (fun i=>i≤s.nodes.length∧R=dV_ (fun i=>decide (s.now<(nod s.nodes i).blk.slot) || !jj_ s (nod s.nodes i).blk) (s.nodes.length-i) i) 0 ⟨Nat.zero_le _,hR⟩ ?_ ?_
 ·exact SN_ [] [0]
 clear hR;rintro i ⟨hi,hn⟩;refine cJ_ ?_;by_cases h1:i<s.nodes.length
 ·have e1:=inT h1
  have hw:=ag_ h1 (by omega);have hgd:(rows ax_ s.nodes).getD i []=ax_ (nod s.nodes i):=aA_ (f:=ax_) gs_ h1;have c1:=qT_ s (nod s.nodes i).blk h0;have ht:(decide (s.now<(nod s.nodes i).blk.slot) || !jj_ s (nod s.nodes i).blk)=true→R=some i:=fun h=>by rw[hn,fD_ h1 h]
  have hf:(decide (s.now<(nod s.nodes i).blk.slot) || !jj_ s (nod s.nodes i).blk)=false→R=dV_ (fun i=>decide (s.now<(nod s.nodes i).blk.slot) || !jj_ s (nod s.nodes i).blk) (s.nodes.length-(i+1)) (i+1):=fun h=>by rw[hn,fC_ h1 h]
  clear hn;generalize nod s.nodes i=x at *;generalize jj_ s x.blk=O at *;repeat(first|refine aa_ ?_|simp only[go_sem,e1])
  refine ac_ ?_;by_cases q1:s.now<x.blk.slot
  ·have k1:decide (x.blk.slot > s.now)=true:=decide_eq_true q1;have k1':decide (s.now<x.blk.slot)=true:=decide_eq_true q1;obtain rfl:=ht (by rw[k1'];rfl);repeat(first|refine aa_ ?_|simp only[go_sem,hgd,k1,k1'])
   refine Ri_ ?_
   exact ae_
  ·have k1:decide (x.blk.slot > s.now)=false:=decide_eq_false q1
   have k1':decide (s.now<x.blk.slot)=false:=decide_eq_false q1;rw[k1',Bool.false_or]at ht hf;repeat(first|refine aa_ ?_|simp only[go_sem,hgd,k1,k1'])
   refine ao_ (c1) ?_;cases O with
   | true =>
     try refine aa_ ?_
     refine ab_ ?_;repeat(first|refine aa_ ?_|simp only[go_sem,hw])
     refine⟨i+1,⟨h1,hf rfl⟩,by omega,?_⟩;exact SN_ [] [0]
   | false =>
     obtain rfl:=ht rfl;try refine aa_ ?_
     refine Ri_ ?_
     exact ae_
 ·obtain rfl:i=s.nodes.length:=by omega
  have e1:=inF (s.nodes.length);rw[fB_]at hn;subst hn;repeat(first|refine aa_ ?_|simp only[go_sem,e1])
  refine Rh_ ?_
  exact ae_
end Go.Proofs.YtkgimpdgncakjaaGreat
