/-
 My texts Qn, joined.
-/
import Derived.Test.YtkgimpdgncakjaaGreatT7
import Derived.Test.YtkgimpdgncakjaaGreatU4
namespace Go.Proofs.YtkgimpdgncakjaaGreat
open Go Go.FH Go.RowKit
set_option linter.unusedVariables false
set_option linter.unusedSimpArgs false
set_option maxRecDepth 8000
set_option maxHeartbeats 4000000
theorem QT_{c:bu_}(h:eR_ c=0):(1≤c.spe∧c.spe≤64)∧(1≤c.lim.node∧0≤c.lim.orph∧0≤c.lim.early∧1≤c.lim.table)∧c.gen≠rt0∧dJ_ ⟨⟨0,c.gen⟩,c.bals⟩ c.bals.length=0∧c.bals.length≤1024:=by
 unfold eR_ at h;by_cases q0:c.spe<1
 ·rw[if_pos q0]at h;cases h
 rw[if_neg q0]at h;by_cases q1:64<c.spe
 ·rw[if_pos q1]at h;cases h
 rw[if_neg q1]at h;by_cases q2:100<c.boost
 ·rw[if_pos q2]at h;cases h
 rw[if_neg q2]at h;by_cases q3:1024<(c.bals.length:Int)
 ·rw[if_pos q3]at h;cases h
 rw[if_neg q3]at h;by_cases q4:wit c.lim.node 1 4096=false
 ·rw[if_pos q4]at h;cases h
 rw[if_neg q4]at h;by_cases q5:wit c.lim.orph 0 64=false
 ·rw[if_pos q5]at h;cases h
 rw[if_neg q5]at h;by_cases q6:wit c.lim.early 0 256=false
 ·rw[if_pos q6]at h;cases h
 rw[if_neg q6]at h;by_cases q7:wit c.lim.table 1 64=false
 ·rw[if_pos q7]at h;cases h
 rw[if_neg q7]at h;by_cases q8:wit c.lim.retry 0 256=false
 ·rw[if_pos q8]at h;cases h
 rw[if_neg q8]at h;by_cases q9:c.lim.backoff<1
 ·rw[if_pos q9]at h;cases h
 rw[if_neg q9]at h;by_cases q10:1048576<c.lim.backoff
 ·rw[if_pos q10]at h;cases h
 rw[if_neg q10]at h;by_cases q11:c.gen=rt0
 ·rw[if_pos q11]at h;cases h
 rw[if_neg q11]at h;simp only[wit,Bool.not_eq_false,Bool.and_eq_true,decide_eq_true_eq]at q4 q5 q6 q7;exact⟨⟨by omega,by omega⟩,⟨q4.1,q5.1,q6.1,q7.1⟩,q11,h,by omega⟩
def tk(c:bu_):ah_:=⟨c,List.replicate c.bals.length do_,[],⟨0,c.gen⟩,⟨0,c.gen⟩,[],[],[⟨xT_ c.gen,-1,1⟩],1,rt0,[⟨⟨0,c.gen⟩,c.bals⟩]⟩
theorem Li_(c:bu_):tickA (dn_ c)=tk c:=rfl
theorem Nh_(c:bu_):ft_ (tk c)=⟨⟨0,c.gen⟩,⟨0,c.gen⟩⟩:=rfl
theorem OF_(c:bu_):cY_ (tk c).tabs 0=(tk c).tabs:=by
 unfold cY_;show av_ _ [] 1=_
 rw[bi_,Hu_];rfl
theorem PX_(c:bu_):ch_ (tk c) ⟨0,c.gen⟩ ⟨0,c.gen⟩=tk c:=by
 have m1:cf_ (tk c).j ⟨0,c.gen⟩=⟨0,c.gen⟩:=by unfold cf_;split<;>rfl
 have m2:cf_ (tk c).f ⟨0,c.gen⟩=⟨0,c.gen⟩:=by unfold cf_;split<;>rfl
 unfold ch_;rw[m1,m2];split
 ·rfl
 ·rw[if_pos (show (⟨0,c.gen⟩:Cp)=(tk c).f from rfl)];simp only[OF_];rfl
theorem NW_(c:bu_):tickB (tk c)=tk c:=by
 unfold tickB;rw[Nh_,PX_];split<;>rfl
theorem si_(c:bu_):dF_ (dn_ c)=(tk c,0):=by
 unfold dF_;rw[if_neg (show ¬ (1099511627776:Int)≤(dn_ c).now from by show ¬ (1099511627776:Int)≤0;decide),Li_,NW_];rfl
theorem NS_(c:bu_):statV (tk c).nodes=0:=by
 have h:hX_ (tk c).nodes=0:=by
  unfold hX_;rw[if_neg (by simp[tk])];refine oP_.2 fun j h1 h2=>?_
  obtain rfl:j=0:=by simp[tk]at h2;omega
  unfold pK_;simp[tk,nod]
 unfold statV;rw[if_neg (by simp[h])];refine oP_.2 fun j h1 h2=>?_
 simp[tk]at h2
theorem zi_(n p:Int):0≤(dO_ n p).1:=by
 unfold dO_;split
 ·exact(be_ _).1
 ·exact Int.le_refl _
theorem Qc_{c:bu_}(h:eR_ c=0):kA_ (tk c)=0:=by
 obtain⟨⟨s1,s2⟩,⟨l1,l2,l3,l4⟩,hg,hv,hb⟩:=QT_ h
 have hs:bh_ 0 c.spe=(0,0):=by
  have hb:if_ c.spe=true:=by simp[if_];omega
  unfold bh_;rw[if_pos hb];unfold tw_;have hd2:Int.tdiv 18446744073709551615 c.spe=18446744073709551615 / c.spe:=Int.tdiv_eq_ediv_of_nonneg (by decide);have hq0:0≤18446744073709551615 / c.spe:=Int.ediv_nonneg (by decide) (by omega);have hq1:18446744073709551615 / c.spe≤18446744073709551615:=Int.ediv_le_self _ (by decide);rw[hd2,aH_ hq0 (by omega),if_neg (by omega),Int.zero_mul];rfl
 have f1:af_ (tk c).nodes c.gen=0:=by
  have h1:0≤af_ (tk c).nodes c.gen:=fO_ (k:=0) Nat.zero_lt_one rfl;have h2:af_ (tk c).nodes c.gen<((1:Nat):Int):=(cH_ (tk c).nodes c.gen).2;omega
 have k1:tu_ (tk c)=true:=by
  unfold tu_;have e1:=zi_ 1 c.spe;show ((decide (c.gen=c.gen)&&(decide (0≤af_ (tk c).nodes c.gen)&&(decide ((nod (tk c).nodes (af_ (tk c).nodes c.gen).toNat).status≠2)&&decide ((0:Int)≤0))))&&((decide (rt0=rt0) || decide (0≤af_ (tk c).nodes rt0))&&(decide ((1:Int)≤1099511627776)&&decide (0≤(dO_ 1 c.spe).1)))&&(decide ((bh_ 0 c.spe).2=0)&&decide ((0:Int)≤(bh_ 0 c.spe).1)))=true
  rw[f1,hs];simp[tk,nod,e1]
 have k2:(decide (frE (hL_ (tk c)) ((tk c).tabs.length-0) 0=0)&&orN (fun i=>decide ((tab (tk c).tabs i).cp=(tk c).j)) (tk c).tabs.length)=true:=by
  rw[Bool.and_eq_true];refine⟨decide_eq_true (oP_.2 fun j h1 h2=>?_),?_⟩
  ·obtain rfl:j=0:=by simp[tk]at h2;omega
   unfold hL_;rw[if_neg (by omega),if_neg (fun hh=>hh hv)]
  ·show (false || decide ((⟨0,c.gen⟩:Cp)=⟨0,c.gen⟩))=true
   simp
 have k3 : jT_ (tk c) = true := by
  unfold jT_
  have hn:bD_ (fun i=>!(vot (tk c).latest i).has&&decide (vot (tk c).latest i≠do_)) (tk c).latest.length=none:=by
   cases hf:bD_ (fun i=>!(vot (tk c).latest i).has&&decide (vot (tk c).latest i≠do_)) (tk c).latest.length with
   |none=>rfl
   | some j =>
     obtain⟨hj,hp,_⟩:=cD_ hf
     have:vot (tk c).latest j=do_:=by
      unfold vot tk;rw[List.getD_eq_getElem?_getD,List.getElem?_replicate];split<;>rfl
     rw[this]at hp;simp at hp
  rw[hn];simp[tk]
 have k4:jO_ (tk c)=true:=by
  unfold jO_
  have hn:bD_ (fun i=>decide ((tk c).now<(nod (tk c).nodes i).blk.slot) || !vT_ (tk c) (nod (tk c).nodes i).blk) (tk c).nodes.length=none:=by
   cases hf:bD_ (fun i=>decide ((tk c).now<(nod (tk c).nodes i).blk.slot) || !vT_ (tk c) (nod (tk c).nodes i).blk) (tk c).nodes.length with
   |none=>rfl
   | some j =>
     obtain⟨hj,hp,_⟩:=cD_ hf;obtain rfl:j=0:=by simp[tk]at hj;omega
     have e0:=zi_ 0 c.spe;simp[tk,nod,xT_,vT_,e0]at hp
  rw[hn];rfl
 have k5:tA_ (tk c)=true:=rfl;unfold kA_;rw[if_neg (fun hh=>hh h),NS_,if_neg (fun hh=>hh rfl),k1,k2,k3,k4,k5];rw[if_neg (by simp[tk];omega),if_neg (by simp[tk];omega),if_neg (by simp[tk];omega),if_neg (by simp[tk];omega)];simp
theorem AB_:PC Tryz.prog 14 [] (.bool true):=by
 refine PC.fact 5 xt_ (by simp) puA puA ?_;unfold oq_;refine bd ?_;obtain⟨c,hc,cc⟩:=yT_ [];have hu:∀x∈c.bals,0≤x∧x<18446744073709551616:=fun x hx=>by have:=hc.bu x hx;omega
 have h1:=hc.r.b1;have c1:=Kq_ c (by omega) hu;have hn:qQ_ c=(dn_ c,0):=by unfold qQ_;rw[if_pos hc.new]
 rw[hn]at c1;have hI:=aK_.new hc.r;have c2:=GQ_ (dn_ c) 0 hI;rw[si_]at c2;have hI2:aK_ (tk c) 0:=by have:=hI.tick (by rw[si_]);rwa [si_]at this
 have hr:=hI2.r
 have c3:=rW_ (tk c) ⟨hr.bn,hr.bl,hr.be,hr.bt,hr.bb,fun t ht x hx=>by
  have:t=⟨⟨0,c.gen⟩,c.bals⟩:=by simpa[tk]using ht
  subst this;exact hu x hx,hr.bo,hr.ba,fun a ha=>by have:=hI2.av a ha;omega,by show c.bals.length≤1000000;omega,hu,hI2.uf⟩
 rw[Qc_ hc.new]at c3;have hl:(dn_ c).nodes=[⟨xT_ c.gen,-1,1⟩]:=rfl;have hw:(tk c).now=1:=rfl;have hgd:(rows ax_ (dn_ c).nodes).getD 0 []=ax_ ⟨xT_ c.gen,-1,1⟩:=rfl;have hln:(dn_ c).nodes.length=1:=rfl;dsimp only at c1 c2;generalize dn_ c=s at *;generalize tk c=t at *;try refine aa_ ?_
 refine iW_ cc ⟨Wk.empty _ _ _,trivial⟩ ⟨trivial,trivial⟩ ?_;try refine aa_ ?_
 refine So_ c1 ?_
 refine aj_ c2 ?_;repeat(first|refine aa_ ?_|simp only[go_sem,hln,hgd,hw])
 refine So_ c3 ?_
 exact ae_
end Go.Proofs.YtkgimpdgncakjaaGreat
