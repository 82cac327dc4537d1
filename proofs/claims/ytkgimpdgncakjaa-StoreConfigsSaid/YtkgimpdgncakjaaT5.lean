/-
 My texts Qj, Qk, joined.
-/
import Derived.Test.YtkgimpdgncakjaaT4
import Derived.Test.YtkgimpdgncakjaaV5
namespace Go.Proofs.Ytkgimpdgncakjaa
open Go Go.FH Go.RowKit
set_option linter.unusedVariables false
set_option linter.unusedSimpArgs false
set_option maxRecDepth 8000
set_option maxHeartbeats 4000000
theorem vN_(t:List Nod)(hb:t.length≤1000000):PC Try.prog 62 [.agg [.sl 240 false (rows av_ t)]] (.int .i64 (jE_ t)):=by
 refine PC.fact 21 hU_ (by simp) puA puA ?_;unfold eB_;refine bd ?_;obtain⟨R,hR⟩:∃R,R=jE_ t:=⟨_,rfl⟩
 rw[←hR];unfold jE_ at hR;by_cases q0:t.length=0
 ·have e0:((t.length:Int)==0)=true:=by simp[q0]
  rw[if_pos (.inl q0)]at hR;subst hR;repeat(first|refine aa_ ?_|simp only[go_sem,e0])
  refine EB_ ?_
  exact am_
 have e0:((t.length:Int)==0)=false:=by simp;intro h;exact q0 (by simp[h])
 by_cases q1:4096<t.length
 ·have e1:decide ((t.length:Int) > 4096)=true:=decide_eq_true (by omega);have e1':decide ((4096:Int)<(t.length:Int))=true:=decide_eq_true (by omega);rw[if_pos (.inr q1)]at hR;subst hR;repeat(first|refine aa_ ?_|simp only[go_sem,e0,e1,e1'])
  refine EB_ ?_
  exact am_
 have e1:decide ((t.length:Int) > 4096)=false:=decide_eq_false (by omega);have e1':decide ((4096:Int)<(t.length:Int))=false:=decide_eq_false (by omega);rw[if_neg (fun h=>h.elim q0 q1)]at hR;repeat(first|refine aa_ ?_|simp only[go_sem,e0,e1,e1'])
 refine EA_ ?_
 refine aE_ (fun i:Nat=>[(20,.int .i64 i)]) (fun i=>[.var [.sl 240 false (rows av_ t)],.map (mrt ((t.take i).map (·.blk.root)))]) (fun i=>t.length-i) (fun i=>i≤t.length∧R=frE (us_ t) (t.length-i) i) 0 ⟨Nat.zero_le _,hR⟩ ?_ ?_
 ·rw[List.take_zero,List.map_nil,show mrt []=[]from rfl];exact GH_ [] [0,1]
 clear hR e0 e1 e1';rintro i ⟨hi,hn⟩;refine eP_ ?_;by_cases h1:i<t.length
 ·have e1:=inT h1
  have hw:=ai_ h1 (by omega);have hgd:(rows av_ t).getD i []=av_ (nod t i):=aR_ (f:=av_) fX_ h1;have c1:=vE_ (nod t i).status
  have hps:(t.take (i+1)).map (·.blk.root)=(t.take i).map (·.blk.root)++[(nod t i).blk.root]:=by
   rw[List.take_add_one,List.getElem?_eq_getElem h1,List.map_append];unfold nod;rw[List.getD_eq_getElem?_getD,List.getElem?_eq_getElem h1];rfl
  have ht:∀ {v:Int},us_ t i=v→v≠0→R=v:=fun h0 h2=>by rw[hn,tk_ h1 (by rw[h0];exact h2),h0]
  have hf:us_ t i=0→R=frE (us_ t) (t.length-(i+1)) (i+1):=fun h0=>by rw[hn,tj_ h1 h0]
  clear hn;have hU:∀k:Nat,(nod t i).up=k→k<i→(rows av_ t).getD (nod t i).up.toNat []=av_ (nod t (nod t i).up.toNat):=fun k hk hki=>aR_ (f:=av_) fX_ (by omega)
  unfold us_ at ht hf;generalize (t.take i).map (·.blk.root)=m at *;generalize hx:nod t i=x at *;repeat(first|refine aa_ ?_|simp only[go_sem,e1])
  refine ab_ ?_;repeat(first|refine aa_ ?_|simp only[go_sem,hgd])
  refine aA_ c1 ?_;by_cases q1:0≤x.status∧x.status≤2
  case neg=>
   have k1:(decide (0≤x.status)&&decide (x.status≤2))=false:=by rw[Bool.and_eq_false_iff,decide_eq_false_iff_not,decide_eq_false_iff_not];omega
   obtain rfl:=ht (if_pos q1) (by decide);repeat(first|refine aa_ ?_|simp only[go_sem,k1])
   refine EB_ ?_
   exact am_
  have k1:(decide (0≤x.status)&&decide (x.status≤2))=true:=by simp[q1]
  rw[if_neg (fun h=>h q1)]at ht hf;by_cases qi:i=0
  ·subst qi
   by_cases q2:x.up=-1
   case neg=>
    have k2:(x.up != -1)=true:=by simp[q2]
    obtain rfl:=ht (if_pos ⟨rfl,q2⟩) (by decide);repeat(first|refine aa_ ?_|simp only[go_sem,k1,k2])
    refine EB_ ?_
    exact am_
   have k2:(x.up != -1)=false:=by simp[q2]
   rw[if_neg (fun h=>h.2 q2),if_neg (by omega)]at ht hf;repeat(first|refine aa_ ?_|simp only[go_sem,k1,k2])
   refine ac_ ?_;by_cases q3:x.blk.root∈m
   ·obtain⟨j,j1,j2,j3⟩:=iI_ q3;obtain rfl:=ht (if_pos q3) (by decide);repeat(first|refine aa_ ?_|simp only[go_sem,j1,j2])
    refine EB_ ?_
    exact am_
   have j1:=lm_ q3;rw[if_neg q3]at ht hf;repeat(first|refine aa_ ?_|simp only[go_sem,j1])
   refine ac_ ?_;repeat(first|refine aa_ ?_|simp only[go_sem,j1])
   refine ab_ ?_;repeat(first|refine aa_ ?_|simp only[go_sem,hw])
   refine⟨0+1,⟨h1,hf (if_pos rfl)⟩,by omega,?_⟩;rw[hps];exact GH_ [] [0,1]
  ·have ki:((i:Int)==0)=false:=by simp;omega
   have kp:decide ((i:Int) > 0)=true:=decide_eq_true (by omega);have kp':decide ((0:Int)<(i:Int))=true:=decide_eq_true (by omega);rw[if_neg (fun h=>qi h.1)]at ht hf;by_cases q2:x.up<0
   ·have k2:decide (x.up<0)=true:=decide_eq_true q2;obtain rfl:=ht (if_pos ⟨by omega,.inl q2⟩) (by decide);repeat(first|refine aa_ ?_|simp only[go_sem,k1,ki,kp,kp',k2])
    refine EB_ ?_
    exact am_
   have k2:decide (x.up<0)=false:=decide_eq_false q2;by_cases q3:(i:Int)≤x.up
   ·have k3:decide (x.up ≥ (i:Int))=true:=decide_eq_true q3;have k3':decide ((i:Int)≤x.up)=true:=decide_eq_true q3;obtain rfl:=ht (if_pos ⟨by omega,.inr q3⟩) (by decide);repeat(first|refine aa_ ?_|simp only[go_sem,k1,ki,kp,kp',k2,k3,k3'])
    refine EB_ ?_
    exact am_
   have k3:decide (x.up ≥ (i:Int))=false:=decide_eq_false q3;have k3':decide ((i:Int)≤x.up)=false:=decide_eq_false q3;rw[if_neg (fun h=>h.2.elim q2 q3)]at ht hf;have hU:=hU x.up.toNat (by omega) (by omega);have hub:decide (x.up<((t.length:Nat):Int))=true:=decide_eq_true (by omega);generalize nod t x.up.toNat=y at *;repeat(first|refine aa_ ?_|simp only[go_sem,k1,ki,kp,kp',k2,k3,k3'])
   refine ac_ ?_;by_cases q4:x.blk.root∈m
   ·obtain⟨j,j1,j2,j3⟩:=iI_ q4;obtain rfl:=ht (if_pos q4) (by decide);repeat(first|refine aa_ ?_|simp only[go_sem,j1,j2])
    refine EB_ ?_
    exact am_
   have j1:=lm_ q4;rw[if_neg q4,if_neg qi]at ht hf;repeat(first|refine aa_ ?_|simp only[go_sem,j1])
   refine ac_ ?_;repeat(first|refine aa_ ?_|simp only[go_sem,j1,ki])
   refine ac_ ?_;repeat(first|refine aa_ ?_|simp only[go_sem,hU])
   by_cases q5:x.blk.parent=y.blk.root
   case neg=>
    have k5:(decide (x.blk.parent=y.blk.root) != true)=true:=by simp[q5]
    obtain rfl:=ht (if_pos q5) (by decide);repeat(first|refine aa_ ?_|simp only[go_sem,k5,decide_eq_false q5])
    refine EB_ ?_
    exact am_
   rw[if_neg (fun h=>h q5)]at ht hf;repeat(first|refine aa_ ?_|simp only[go_sem,decide_eq_true q5])
   refine ac_ ?_;repeat(first|refine aa_ ?_|simp only[go_sem,hU])
   by_cases q6:x.blk.slot≤y.blk.slot
   ·have k6:=decide_eq_true q6;obtain rfl:=ht (if_pos q6) (by decide);repeat(first|refine aa_ ?_|simp only[go_sem,k6])
    refine EB_ ?_
    exact am_
   have k6:=decide_eq_false q6;rw[if_neg q6]at ht hf;repeat(first|refine aa_ ?_|simp only[go_sem,k6])
   refine ac_ ?_;repeat(first|refine aa_ ?_|simp only[go_sem,hw])
   refine⟨i+1,⟨h1,hf rfl⟩,by omega,?_⟩;rw[hps];exact GH_ [] [0,1]
 ·obtain rfl:i=t.length:=by omega
  have e1:=inF (t.length);rw[ti_]at hn;subst hn;repeat(first|refine aa_ ?_|simp only[go_sem,e1])
  refine EA_ ?_
  exact am_
theorem tT_(t:List Nod)(hb:t.length≤1000000):PC Try.prog 32 [.agg [.sl 240 false (rows av_ t)]] (.int .i64 (jD_ t)):=by
 refine PC.fact 17 kx_ (by simp) puA puA ?_;unfold gd_;refine bd ?_;have c1:=vN_ t hb;obtain⟨R,hR⟩:∃R,R=jD_ t:=⟨_,rfl⟩
 rw[←hR];unfold jD_ at hR;have hok:=fun h=>up_ (t:=t) h
 generalize jE_ t=V at *;try refine aa_ ?_
 refine aA_ c1 ?_;by_cases q1:V=0
 case neg=>
  have e1:(V != 0)=true:=by simp[q1]
  rw[if_pos q1]at hR;subst hR;repeat(first|refine aa_ ?_|simp only[go_sem,e1])
  refine EB_ ?_
  exact am_
 have e1:(V != 0)=false:=by simp[q1]
 rw[if_neg (by simp[q1])]at hR;obtain⟨ht,hl⟩:=hok q1;have hp:=ht.pos;have hb1:decide ((1:Int)≤(t.length:Int))=true:=decide_eq_true (by omega);have hdl:(rows av_ t).drop 1=rows av_ (t.drop 1):=by unfold rows;rw[List.map_drop]
 have hln:(t.drop 1).length=t.length-1:=by simp
 rw[←hln]at hR;have h1le:(1:Int)≤(t.length:Int):=by omega
 have htk:List.take (t.length-1) (rows av_ (t.drop 1))=rows av_ (t.drop 1):=List.take_of_length_le (by simp);repeat(first|refine aa_ ?_|simp only[go_sem,e1])
 refine ac_ ?_;repeat(first|refine aa_ ?_|simp only[go_sem,hdl,htk])
 refine aE_ (fun i:Nat=>[(16,.int .i64 i)]) (fun i=>[.var [.sl 240 false (rows av_ t)]]) (fun i=>(t.drop 1).length-i) (fun i=>i≤(t.drop 1).length∧R=frE (yN_ t) ((t.drop 1).length-i) i) 0 ⟨Nat.zero_le _,hR⟩ ?_ ?_
 ·exact GH_ [] [0]
 clear hR e1 hb1;rintro i ⟨hi,hn⟩;refine eP_ ?_;by_cases h1:i<(t.drop 1).length
 ·have e1:=inT h1
  have hw:=ai_ h1 (by omega)
  have hgd:(rows av_ (t.drop 1)).getD i []=av_ (nod t (i+1)):=by
   rw[aR_ (f:=av_) fX_ h1];unfold nod;rw[List.getD_eq_getElem?_getD,List.getD_eq_getElem?_getD,List.getElem?_drop,Nat.add_comm]
  have hf0:∀ {v:Int},yN_ t i=v→v≠0→R=v:=fun h0 h2=>by rw[hn,tk_ h1 (by rw[h0];exact h2),h0]
  have hf:yN_ t i=0→R=frE (yN_ t) ((t.drop 1).length-(i+1)) (i+1):=fun h0=>by rw[hn,tj_ h1 h0]
  clear hn;obtain⟨u0,u1⟩:=ht.ok (i+1) (by omega) (by omega);have hU:(rows av_ t).getD (nod t (i+1)).up.toNat []=av_ (nod t (nod t (i+1)).up.toNat):=aR_ (f:=av_) fX_ (by omega);have hub:decide ((nod t (i+1)).up<((t.length:Nat):Int))=true:=decide_eq_true (by omega);have hun:decide (0≤(nod t (i+1)).up)=true:=decide_eq_true u0;unfold yN_ at hf0 hf;generalize nod t (i+1)=x at *;generalize nod t x.up.toNat=y at *;repeat(first|refine aa_ ?_|simp only[go_sem,e1])
  refine ab_ ?_;repeat(first|refine aa_ ?_|simp only[go_sem,hgd,hU])
  by_cases q1:x.status=1
  ·have k1:(x.status==1)=true:=by simp[q1]
   by_cases q2:y.status=1
   ·have k2:(y.status != 1)=false:=by simp[q2]
    have k3:(y.status==2)=false:=by simp[q2]
    repeat(first|refine aa_ ?_|simp only[go_sem,k1,k2,k3])
    refine ac_ ?_;repeat(first|refine aa_ ?_|simp only[go_sem,hw])
    refine⟨i+1,⟨h1,hf (if_neg (by rintro (h|h);exact h.2 q2;have:=h.1;omega))⟩,by omega,?_⟩;exact GH_ [] [0]
   ·have k2:(y.status != 1)=true:=by simp[q2]
    obtain rfl:=hf0 (if_pos (.inl ⟨q1,q2⟩)) (by decide);repeat(first|refine aa_ ?_|simp only[go_sem,k1,k2])
    refine EB_ ?_
    exact am_
  ·have k1:(x.status==1)=false:=by simp[q1]
   by_cases q2:y.status=2
   ·have k2:(y.status==2)=true:=by simp[q2]
    by_cases q3:x.status=2
    ·have k3:(x.status != 2)=false:=by simp[q3]
     repeat(first|refine aa_ ?_|simp only[go_sem,k1,k2,k3])
     refine ac_ ?_;repeat(first|refine aa_ ?_|simp only[go_sem,hw])
     refine⟨i+1,⟨h1,hf (if_neg (by rintro (h|h);exact q1 h.1;exact h.2 q3))⟩,by omega,?_⟩;exact GH_ [] [0]
    ·have k3:(x.status != 2)=true:=by simp[q3]
     obtain rfl:=hf0 (if_pos (.inr ⟨q2,q3⟩)) (by decide);repeat(first|refine aa_ ?_|simp only[go_sem,k1,k2,k3])
     refine EB_ ?_
     exact am_
   ·have k2:(y.status==2)=false:=by simp[q2]
    repeat(first|refine aa_ ?_|simp only[go_sem,k1,k2])
    refine ac_ ?_;repeat(first|refine aa_ ?_|simp only[go_sem,hw])
    refine⟨i+1,⟨h1,hf (if_neg (by rintro (h|h);exact q1 h.1;exact q2 h.1))⟩,by omega,?_⟩;exact GH_ [] [0]
 ·obtain rfl:i=(t.drop 1).length:=by omega
  have e1:=inF ((t.drop 1).length);rw[ti_]at hn;subst hn;repeat(first|refine aa_ ?_|simp only[go_sem,e1])
  refine EA_ ?_
  exact am_
theorem ip_(s:ag_)(n:Int):PC Try.prog 63 [.agg (ak_ s.a),.int .u64 n] (.int .u64 (cM_ n s.cfg.spe).1):=by
 refine PC.fact 7 po_ (by simp) puA puA ?_;unfold js_;refine bd ?_;have c1:=iD_ n s.cfg.spe;try refine aa_ ?_
 refine FZ_ c1 ?_
 exact am_
def ve_(s:ag_):Bool:=
 (decide ((nod s.nodes 0).blk.root=s.f.rt)&&(decide (0≤al_ s.nodes s.j.rt)&&(decide ((nod s.nodes (al_ s.nodes s.j.rt).toNat).status≠2)&&decide (s.f.ep≤s.j.ep)))) &&
 ((decide (s.boost=rt0) || decide (0≤al_ s.nodes s.boost))&&(decide (s.now≤1099511627776)&&decide (s.j.ep≤(cM_ s.now s.cfg.spe).1)))&&(decide ((bL_ s.f.ep s.cfg.spe).2=0)&&decide ((nod s.nodes 0).blk.slot≤(bL_ s.f.ep s.cfg.spe).1))
def ow_(s:ag_)(i:Nat):Int:=if 0<i∧0≤uN_ (tab s.tabs (i-1)).cp (tab s.tabs i).cp then 1 else if dD_ (tab s.tabs i) s.cfg.bals.length≠0 then 1 else 0
def lD_(s:ag_):Bool:=!(cb_ (fun i=>!(vot s.latest i).has&&decide (vot s.latest i≠eu_)) s.latest.length).isSome&&(decide ((s.latest.length:Int)=s.cfg.bals.length)&&(decide ((s.eqv.length:Int)=0) || decide (fV_ s.eqv s.cfg.bals.length=0)))
def tJ_(s:ag_)(b:Blk):Bool:=decide (b.fin.ep≤b.just.ep)&&decide (b.just.ep≤b.pul.j.ep)&&decide (b.fin.ep≤b.pul.f.ep)&&decide (b.pul.f.ep≤b.pul.j.ep)&&decide (b.pul.j.ep≤(cM_ b.slot s.cfg.spe).1)
def ln_(s:ag_):Bool:=!(cb_ (fun i=>decide (s.now<(nod s.nodes i).blk.slot) || !tJ_ s (nod s.nodes i).blk) s.nodes.length).isSome
theorem ym_(s:ag_)(hb:s.nodes.length≤1000000)(h0:0<s.nodes.length)(hf:U64 s.f.ep):PC Try.prog 33 [.agg (ak_ s.a)] (.bool (ve_ s)):=by
 refine PC.fact 6 hz_ (by simp) puA puA ?_;unfold ek_;refine bd ?_;obtain⟨R,hR⟩:∃R,R=ve_ s:=⟨_,rfl⟩
 rw[←hR];unfold ve_ at hR;have c1:=dJ_ s.nodes s.j.rt hb;have c2:=nB_ s.boost;have c3:=dJ_ s.nodes s.boost hb;have c4:=ip_ s s.now;have c5:=eU_ (e:=s.f.ep) (p:=s.cfg.spe) hf.1 hf.2;have b1:=ic_ s.nodes s.j.rt;have hg0:(rows av_ s.nodes).getD 0 []=av_ (nod s.nodes 0):=aR_ (f:=av_) fX_ h0;have hgi:0≤al_ s.nodes s.j.rt→(rows av_ s.nodes).getD (al_ s.nodes s.j.rt).toNat []=av_ (nod s.nodes (al_ s.nodes s.j.rt).toNat):=fun h=>aR_ (f:=av_) fX_ (by omega)
 have hb0:decide ((0:Int)<((s.nodes.length:Nat):Int))=true:=decide_eq_true (by omega);generalize al_ s.nodes s.j.rt=I at *;generalize al_ s.nodes s.boost=B at *;generalize (cM_ s.now s.cfg.spe).1=E at *;generalize bL_ s.f.ep s.cfg.spe=S at *;generalize nod s.nodes I.toNat=x at *;generalize nod s.nodes 0=y at *;obtain⟨S1,S2⟩:=S;dsimp only at c5 hR;try refine aa_ ?_
 refine aA_ c1 ?_;by_cases q1:y.blk.root=s.f.rt
 case neg=>
  have e1:=decide_eq_false q1;obtain rfl:R=false:=by rw[hR];simp[q1]
  repeat(first|refine aa_ ?_|simp only[go_sem,hg0,e1])
  refine EB_ ?_
  exact am_
 have e1:=decide_eq_true q1;by_cases q2:I<0
 ·have e2:=decide_eq_true q2;obtain rfl:R=false:=by rw[hR,decide_eq_false (show ¬0≤I by omega)];simp
  repeat(first|refine aa_ ?_|simp only[go_sem,hg0,e1,e2])
  refine EB_ ?_
  exact am_
 have e2:=decide_eq_false q2;have hgi:=hgi (by omega);by_cases q3:x.status=2
 ·have e3:(x.status==2)=true:=by simp[q3]
  obtain rfl:R=false:=by rw[hR];simp[q3]
  repeat(first|refine aa_ ?_|simp only[go_sem,hg0,e1,e2,hgi,e3])
  refine EB_ ?_
  exact am_
 have e3:(x.status==2)=false:=by simp[q3]
 by_cases q4:s.j.ep<s.f.ep
 ·have e4:=decide_eq_true q4;obtain rfl:R=false:=by rw[hR,decide_eq_false (show ¬s.f.ep≤s.j.ep by omega)];simp
  repeat(first|refine aa_ ?_|simp only[go_sem,hg0,e1,e2,hgi,e3,e4])
  refine EB_ ?_
  exact am_
 have e4:=decide_eq_false q4
 have hR:R=(((decide (s.boost=rt0) || decide (0≤B))&&(decide (s.now≤1099511627776)&&decide (s.j.ep≤E)))&&(decide (S2=0)&&decide (y.blk.slot≤S1))):=by
  rw[hR,decide_eq_true (show s.f.ep≤s.j.ep by omega),decide_eq_true (show 0≤I by omega),decide_eq_true q1,decide_eq_true (p:=x.status≠2) q3];simp only[Bool.true_and]
 repeat(first|refine aa_ ?_|simp only[go_sem,hg0,e1,e2,hgi,e3,e4])
 refine EA_ ?_
 refine co_ (c2) ?_
 have tail:(s.boost=rt0∨0≤B)→R=((decide (s.now≤1099511627776)&&decide (s.j.ep≤E))&&(decide (S2=0)&&decide (y.blk.slot≤S1))):=fun h=>by
  rw[hR];have:(decide (s.boost=rt0) || decide (0≤B))=true:=by simpa using h
  rw[this,Bool.true_and]
 have now1:decide (s.now > 1099511627776)=decide ((1099511627776:Int)<s.now):=rfl;have jep1:decide (s.j.ep > E)=decide (E<s.j.ep):=rfl;by_cases q5:s.boost=rt0
 ·have e5:=decide_eq_true q5
  have hR:=tail (.inl q5);by_cases q7:1099511627776<s.now
  ·have e7:=decide_eq_true q7;obtain rfl:R=false:=by rw[hR,decide_eq_false (show ¬s.now≤1099511627776 by omega)];simp
   repeat(first|refine aa_ ?_|simp only[go_sem,e5,now1,e7])
   refine EB_ ?_
   exact am_
  have e7:=decide_eq_false q7;rw[decide_eq_true (show s.now≤1099511627776 by omega),Bool.true_and]at hR;repeat(first|refine aa_ ?_|simp only[go_sem,e5,now1,e7])
  refine co_ (c4) ?_;by_cases q8:E<s.j.ep
  ·have e8:=decide_eq_true q8;obtain rfl:R=false:=by rw[hR,decide_eq_false (show ¬s.j.ep≤E by omega)];simp
   repeat(first|refine aa_ ?_|simp only[go_sem,jep1,e8])
   refine EB_ ?_
   exact am_
  have e8:=decide_eq_false q8;rw[decide_eq_true (show s.j.ep≤E by omega),Bool.true_and]at hR;repeat(first|refine aa_ ?_|simp only[go_sem,jep1,e8])
  refine EA_ ?_
  refine aA_ c5 ?_;by_cases q9:S2=0
  ·have e9:(S2==0)=true:=by simp[q9]
   rw[decide_eq_true q9,Bool.true_and]at hR;subst hR;repeat(first|refine aa_ ?_|simp only[go_sem,e9,hg0])
   exact am_
  ·have e9:(S2==0)=false:=by simp[q9]
   rw[decide_eq_false q9,Bool.false_and]at hR;subst hR;repeat(first|refine aa_ ?_|simp only[go_sem,e9,hg0])
   exact am_
 ·have e5:=decide_eq_false q5
  repeat(first|refine aa_ ?_|simp only[go_sem,e5])
  refine co_ (c3) ?_;by_cases q6:B<0
  ·have e6:=decide_eq_true q6;obtain rfl:R=false:=by rw[hR,decide_eq_false q5,decide_eq_false (show ¬0≤B by omega)];simp
   repeat(first|refine aa_ ?_|simp only[go_sem,e6])
   refine EB_ ?_
   exact am_
  have e6:=decide_eq_false q6;have hR:=tail (.inr (by omega));by_cases q7:1099511627776<s.now
  ·have e7:=decide_eq_true q7;obtain rfl:R=false:=by rw[hR,decide_eq_false (show ¬s.now≤1099511627776 by omega)];simp
   repeat(first|refine aa_ ?_|simp only[go_sem,e6,now1,e7])
   refine EB_ ?_
   exact am_
  have e7:=decide_eq_false q7;rw[decide_eq_true (show s.now≤1099511627776 by omega),Bool.true_and]at hR;repeat(first|refine aa_ ?_|simp only[go_sem,e6,now1,e7])
  refine co_ (c4) ?_;by_cases q8:E<s.j.ep
  ·have e8:=decide_eq_true q8;obtain rfl:R=false:=by rw[hR,decide_eq_false (show ¬s.j.ep≤E by omega)];simp
   repeat(first|refine aa_ ?_|simp only[go_sem,jep1,e8])
   refine EB_ ?_
   exact am_
  have e8:=decide_eq_false q8;rw[decide_eq_true (show s.j.ep≤E by omega),Bool.true_and]at hR;repeat(first|refine aa_ ?_|simp only[go_sem,jep1,e8])
  refine EA_ ?_
  refine aA_ c5 ?_;by_cases q9:S2=0
  ·have e9:(S2==0)=true:=by simp[q9]
   rw[decide_eq_true q9,Bool.true_and]at hR;subst hR;repeat(first|refine aa_ ?_|simp only[go_sem,e9,hg0])
   exact am_
  ·have e9:(S2==0)=false:=by simp[q9]
   rw[decide_eq_false q9,Bool.false_and]at hR;subst hR;repeat(first|refine aa_ ?_|simp only[go_sem,e9,hg0])
   exact am_
end Go.Proofs.Ytkgimpdgncakjaa
