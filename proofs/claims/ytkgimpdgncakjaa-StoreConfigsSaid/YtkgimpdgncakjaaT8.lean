/-
 My texts Qn, joined.
-/
import Derived.Test.YtkgimpdgncakjaaT7
import Derived.Test.YtkgimpdgncakjaaU4
namespace Go.Proofs.Ytkgimpdgncakjaa
open Go Go.FH Go.RowKit
set_option linter.unusedVariables false
set_option linter.unusedSimpArgs false
set_option maxRecDepth 8000
set_option maxHeartbeats 4000000
theorem En_{c:aX_}(h:hg_ c=0):(1≤c.spe∧c.spe≤64)∧(1≤c.lim.node∧0≤c.lim.orph∧0≤c.lim.early∧1≤c.lim.table)∧c.gen≠rt0∧dD_ ⟨⟨0,c.gen⟩,c.bals⟩ c.bals.length=0∧c.bals.length≤1024:=by
 unfold hg_ at h;by_cases q0:c.spe<1
 ·rw[if_pos q0]at h;cases h
 rw[if_neg q0]at h;by_cases q1:64<c.spe
 ·rw[if_pos q1]at h;cases h
 rw[if_neg q1]at h;by_cases q2:100<c.boost
 ·rw[if_pos q2]at h;cases h
 rw[if_neg q2]at h;by_cases q3:1024<(c.bals.length:Int)
 ·rw[if_pos q3]at h;cases h
 rw[if_neg q3]at h;by_cases q4:wit c.lim.node 1 4096=false
 ·rw[if_pos q4]at h;cases h
 rw[if_neg q4]at h;by_cases q5:wit c.lim.orph 0 64=false
 ·rw[if_pos q5]at h;cases h
 rw[if_neg q5]at h;by_cases q6:wit c.lim.early 0 256=false
 ·rw[if_pos q6]at h;cases h
 rw[if_neg q6]at h;by_cases q7:wit c.lim.table 1 64=false
 ·rw[if_pos q7]at h;cases h
 rw[if_neg q7]at h;by_cases q8:wit c.lim.retry 0 256=false
 ·rw[if_pos q8]at h;cases h
 rw[if_neg q8]at h;by_cases q9:c.lim.backoff<1
 ·rw[if_pos q9]at h;cases h
 rw[if_neg q9]at h;by_cases q10:1048576<c.lim.backoff
 ·rw[if_pos q10]at h;cases h
 rw[if_neg q10]at h;by_cases q11:c.gen=rt0
 ·rw[if_pos q11]at h;cases h
 rw[if_neg q11]at h;simp only[wit,Bool.not_eq_false,Bool.and_eq_true,decide_eq_true_eq]at q4 q5 q6 q7;exact⟨⟨by omega,by omega⟩,⟨q4.1,q5.1,q6.1,q7.1⟩,q11,h,by omega⟩
def tk(c:aX_):ag_:=⟨c,List.replicate c.bals.length eu_,[],⟨0,c.gen⟩,⟨0,c.gen⟩,[],[],[⟨pr_ c.gen,-1,1⟩],1,rt0,[⟨⟨0,c.gen⟩,c.bals⟩]⟩
theorem yY_(c:aX_):tickA (cv_ c)=tk c:=rfl
theorem AO_(c:aX_):fd_ (tk c)=⟨⟨0,c.gen⟩,⟨0,c.gen⟩⟩:=rfl
theorem Cj_(c:aX_):cW_ (tk c).tabs 0=(tk c).tabs:=by
 unfold cW_;show bd_ _ [] 1=_
 rw[dq_,BH_];rfl
theorem Dq_(c:aX_):cN_ (tk c) ⟨0,c.gen⟩ ⟨0,c.gen⟩=tk c:=by
 have m1:cA_ (tk c).j ⟨0,c.gen⟩=⟨0,c.gen⟩:=by unfold cA_;split<;>rfl
 have m2:cA_ (tk c).f ⟨0,c.gen⟩=⟨0,c.gen⟩:=by unfold cA_;split<;>rfl
 unfold cN_;rw[m1,m2];split
 ·rfl
 ·rw[if_pos (show (⟨0,c.gen⟩:Cp)=(tk c).f from rfl)];simp only[Cj_];rfl
theorem BB_(c:aX_):tickB (tk c)=tk c:=by
 unfold tickB;rw[AO_,Dq_];split<;>rfl
theorem lA_(c:aX_):fT_ (cv_ c)=(tk c,0):=by
 unfold fT_;rw[if_neg (show ¬ (1099511627776:Int)≤(cv_ c).now from by show ¬ (1099511627776:Int)≤0;decide),yY_,BB_];rfl
theorem By_(c:aX_):jD_ (tk c).nodes=0:=by
 have h:jE_ (tk c).nodes=0:=by
  unfold jE_;rw[if_neg (by simp[tk])];refine th_.2 fun j h1 h2=>?_
  obtain rfl:j=0:=by simp[tk]at h2;omega
  unfold us_;simp[tk,nod]
 unfold jD_;rw[if_neg (by simp[h])];refine th_.2 fun j h1 h2=>?_
 simp[tk]at h2
theorem qn_(n p:Int):0≤(cM_ n p).1:=by
 unfold cM_;split
 ·exact(gM_ _).1
 ·exact Int.le_refl _
theorem Dv_{c:aX_}(h:hg_ c=0):BI_ (tk c)=0:=by
 obtain⟨⟨s1,s2⟩,⟨l1,l2,l3,l4⟩,hg,hv,hb⟩:=En_ h
 have hs:bL_ 0 c.spe=(0,0):=by
  have hb:gX_ c.spe=true:=by simp[gX_];omega
  unfold bL_;rw[if_pos hb];unfold vB_;have hd2:Int.tdiv 18446744073709551615 c.spe=18446744073709551615 / c.spe:=Int.tdiv_eq_ediv_of_nonneg (by decide);have hq0:0≤18446744073709551615 / c.spe:=Int.ediv_nonneg (by decide) (by omega);have hq1:18446744073709551615 / c.spe≤18446744073709551615:=Int.ediv_le_self _ (by decide);rw[hd2,aW_ hq0 (by omega),if_neg (by omega),Int.zero_mul];rfl
 have f1:al_ (tk c).nodes c.gen=0:=by
  have h1:0≤al_ (tk c).nodes c.gen:=iE_ (k:=0) Nat.zero_lt_one rfl;have h2:al_ (tk c).nodes c.gen<((1:Nat):Int):=(ic_ (tk c).nodes c.gen).2;omega
 have k1:ve_ (tk c)=true:=by
  unfold ve_;have e1:=qn_ 1 c.spe;show ((decide (c.gen=c.gen)&&(decide (0≤al_ (tk c).nodes c.gen)&&(decide ((nod (tk c).nodes (al_ (tk c).nodes c.gen).toNat).status≠2)&&decide ((0:Int)≤0))))&&((decide (rt0=rt0) || decide (0≤al_ (tk c).nodes rt0))&&(decide ((1:Int)≤1099511627776)&&decide (0≤(cM_ 1 c.spe).1)))&&(decide ((bL_ 0 c.spe).2=0)&&decide ((0:Int)≤(bL_ 0 c.spe).1)))=true
  rw[f1,hs];simp[tk,nod,e1]
 have k2:(decide (frE (ow_ (tk c)) ((tk c).tabs.length-0) 0=0)&&orN (fun i=>decide ((tab (tk c).tabs i).cp=(tk c).j)) (tk c).tabs.length)=true:=by
  rw[Bool.and_eq_true];refine⟨decide_eq_true (th_.2 fun j h1 h2=>?_),?_⟩
  ·obtain rfl:j=0:=by simp[tk]at h2;omega
   unfold ow_;rw[if_neg (by omega),if_neg (fun hh=>hh hv)]
  ·show (false || decide ((⟨0,c.gen⟩:Cp)=⟨0,c.gen⟩))=true
   simp
 have k3 : lD_ (tk c) = true := by
  unfold lD_
  have hn:cb_ (fun i=>!(vot (tk c).latest i).has&&decide (vot (tk c).latest i≠eu_)) (tk c).latest.length=none:=by
   cases hf:cb_ (fun i=>!(vot (tk c).latest i).has&&decide (vot (tk c).latest i≠eu_)) (tk c).latest.length with
   |none=>rfl
   | some j =>
     obtain⟨hj,hp,_⟩:=dj_ hf
     have:vot (tk c).latest j=eu_:=by
      unfold vot tk;rw[List.getD_eq_getElem?_getD,List.getElem?_replicate];split<;>rfl
     rw[this]at hp;simp at hp
  rw[hn];simp[tk]
 have k4:ln_ (tk c)=true:=by
  unfold ln_
  have hn:cb_ (fun i=>decide ((tk c).now<(nod (tk c).nodes i).blk.slot) || !tJ_ (tk c) (nod (tk c).nodes i).blk) (tk c).nodes.length=none:=by
   cases hf:cb_ (fun i=>decide ((tk c).now<(nod (tk c).nodes i).blk.slot) || !tJ_ (tk c) (nod (tk c).nodes i).blk) (tk c).nodes.length with
   |none=>rfl
   | some j =>
     obtain⟨hj,hp,_⟩:=dj_ hf;obtain rfl:j=0:=by simp[tk]at hj;omega
     have e0:=qn_ 0 c.spe;simp[tk,nod,pr_,tJ_,e0]at hp
  rw[hn];rfl
 have k5:AS_ (tk c)=true:=rfl;unfold BI_;rw[if_neg (fun hh=>hh h),By_,if_neg (fun hh=>hh rfl),k1,k2,k3,k4,k5];rw[if_neg (by simp[tk];omega),if_neg (by simp[tk];omega),if_neg (by simp[tk];omega),if_neg (by simp[tk];omega)];simp
theorem kj_:PC Try.prog 5 [] (.bool true):=by
 refine PC.fact 5 pn_ (by simp) puA puA ?_;unfold jr_;refine bd ?_;obtain⟨c,hc,cc⟩:=xl_ [];have hu:∀x∈c.bals,0≤x∧x<18446744073709551616:=fun x hx=>by have:=hc.bu x hx;omega
 have h1:=hc.r.b1;have c1:=lp_ c (by omega) hu;have hn:kJ_ c=(cv_ c,0):=by unfold kJ_;rw[if_pos hc.new]
 rw[hn]at c1;have hI:=aH_.new hc.r;have c2:=vM_ (cv_ c) 0 hI;rw[lA_]at c2;have hI2:aH_ (tk c) 0:=by have:=hI.tick (by rw[lA_]);rwa [lA_]at this
 have hr:=hI2.r
 have c3:=yr_ (tk c) ⟨hr.bn,hr.bl,hr.be,hr.bt,hr.bb,fun t ht x hx=>by
  have:t=⟨⟨0,c.gen⟩,c.bals⟩:=by simpa[tk]using ht
  subst this;exact hu x hx,hr.bo,hr.ba,fun a ha=>by have:=hI2.av a ha;omega,by show c.bals.length≤1000000;omega,hu,hI2.uf⟩
 rw[Dv_ hc.new]at c3;have hl:(cv_ c).nodes=[⟨pr_ c.gen,-1,1⟩]:=rfl;have hw:(tk c).now=1:=rfl;have hgd:(rows av_ (cv_ c).nodes).getD 0 []=av_ ⟨pr_ c.gen,-1,1⟩:=rfl;have hln:(cv_ c).nodes.length=1:=rfl;dsimp only at c1 c2;generalize cv_ c=s at *;generalize tk c=t at *;try refine aa_ ?_
 refine AN_ cc ⟨Wk.empty _ _ _,trivial⟩ ⟨trivial,trivial⟩ ?_;try refine aa_ ?_
 refine FZ_ c1 ?_
 refine aA_ c2 ?_;repeat(first|refine aa_ ?_|simp only[go_sem,hln,hgd,hw])
 refine FZ_ c3 ?_
 exact am_
end Go.Proofs.Ytkgimpdgncakjaa
