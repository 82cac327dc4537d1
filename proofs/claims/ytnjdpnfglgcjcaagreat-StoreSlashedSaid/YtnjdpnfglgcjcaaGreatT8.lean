/-
 My texts Qn, Qo, joined.
-/
import Derived.Test.YtnjdpnfglgcjcaaGreatT7
import Derived.Test.YtnjdpnfglgcjcaaGreatU4
set_option linter.unusedVariables false
set_option linter.unusedSimpArgs false
set_option maxRecDepth 8000
set_option maxHeartbeats 4000000
namespace Go.Proofs.YtnjdpnfglgcjcaaGreat
open Go Go.FH Go.RowKit
theorem abH{c:cU}(h:iH c=0):(1<=c.spe/\c.spe<=64)/\(1<=c.lim.node/\0<=c.lim.orph/\0<=c.lim.early/\1<=c.lim.table)/\c.gen≠rt0/\fJ ⟨⟨0,c.gen⟩,c.bals⟩ c.bals.length=0/\c.bals.length<=1024:=by
 unfold iH at h;by_cases q0:c.spe<1
 ·rw[if_pos q0]at h;cases h
 rw[if_neg q0]at h;by_cases q1:64<c.spe
 ·rw[if_pos q1]at h;cases h
 rw[if_neg q1]at h;by_cases q2:100<c.boost
 ·rw[if_pos q2]at h;cases h
 rw[if_neg q2]at h;by_cases q3:1024<(c.bals.length:Int)
 ·rw[if_pos q3]at h;cases h
 rw[if_neg q3]at h;by_cases q4:wit c.lim.node 1 4096=false
 ·rw[if_pos q4]at h;cases h
 rw[if_neg q4]at h;by_cases q5:wit c.lim.orph 0 64=false
 ·rw[if_pos q5]at h;cases h
 rw[if_neg q5]at h;by_cases q6:wit c.lim.early 0 256=false
 ·rw[if_pos q6]at h;cases h
 rw[if_neg q6]at h;by_cases q7:wit c.lim.table 1 64=false
 ·rw[if_pos q7]at h;cases h
 rw[if_neg q7]at h;by_cases q8:wit c.lim.retry 0 256=false
 ·rw[if_pos q8]at h;cases h
 rw[if_neg q8]at h;by_cases q9:c.lim.backoff<1
 ·rw[if_pos q9]at h;cases h
 rw[if_neg q9]at h;by_cases q10:1048576<c.lim.backoff
 ·rw[if_pos q10]at h;cases h
 rw[if_neg q10]at h;by_cases q11:c.gen=rt0
 ·rw[if_pos q11]at h;cases h
 rw[if_neg q11]at h;simp only[wit,Bool.not_eq_false,Bool.and_eq_true,decide_eq_true_eq]at q4 q5 q6 q7;exact⟨⟨by omega,by omega⟩,⟨q4.1,q5.1,q6.1,q7.1⟩,q11,h,by omega⟩
def tk(c:cU):am:=⟨c,List.replicate c.bals.length fg,[],⟨0,c.gen⟩,⟨0,c.gen⟩,[],[],[⟨HH c.gen,-1,1⟩],1,rt0,[⟨⟨0,c.gen⟩,c.bals⟩]⟩
theorem Wq(c:cU):tickA (fm c)=tk c:=rfl
theorem Ym(c:cU):jp (tk c)=⟨⟨0,c.gen⟩,⟨0,c.gen⟩⟩:=rfl
theorem ZF(c:cU):eM (tk c).tabs 0=(tk c).tabs:=by
 unfold eM;show aL _ [] 1=_
 rw[bH,Ss];rfl
theorem aaT(c:cU):dl (tk c) ⟨0,c.gen⟩ ⟨0,c.gen⟩=tk c:=by
 have m1:dK (tk c).j ⟨0,c.gen⟩=⟨0,c.gen⟩:=by unfold dK;split<;>rfl
 have m2:dK (tk c).f ⟨0,c.gen⟩=⟨0,c.gen⟩:=by unfold dK;split<;>rfl
 unfold dl;rw[m1,m2];split
 ·rfl
 ·rw[if_pos (show (⟨0,c.gen⟩:Cp)=(tk c).f from rfl)];simp only[ZF];rfl
theorem Y1(c:cU):tickB (tk c)=tk c:=by
 unfold tickB;rw[Ym,aaT];split<;>rfl
theorem AT(c:cU):dH (fm c)=(tk c,0):=by
 unfold dH;rw[if_neg (show ¬ (1099511627776:Int)<=(fm c).now from by show ¬ (1099511627776:Int)<=0;decide),Wq,Y1];rfl
theorem YY(c:cU):statV (tk c).nodes=0:=by
 have h:mG (tk c).nodes=0:=by
  unfold mG;rw[if_neg (by simp[tk])];refine vS.2 fun j h1 h2=>?_
  obtain rfl:j=0:=by simp[tk]at h2;omega
  unfold xN;simp[tk,nod]
 unfold statV;rw[if_neg (by simp[h])];refine vS.2 fun j h1 h2=>?_
 simp[tk]at h2
theorem IW(n p:Int):0<=(fC n p).1:=by
 unfold fC;split
 ·exact(cH _).1
 ·exact Int.le_refl _
theorem aaW{c:cU}(h:iH c=0):rS (tk c)=0:=by
 obtain⟨⟨s1,s2⟩,⟨l1,l2,l3,l4⟩,hg,hv,hb⟩:=abH h
 have hs:bD 0 c.spe=(0,0):=by
  have hb:mO c.spe=true:=by simp[mO];omega
  unfold bD;rw[if_pos hb];unfold CV;have hd2:Int.tdiv 18446744073709551615 c.spe=18446744073709551615 / c.spe:=Int.tdiv_eq_ediv_of_nonneg (by decide);have hq0:0<=18446744073709551615 / c.spe:=Int.ediv_nonneg (by decide) (by omega);have hq1:18446744073709551615 / c.spe<=18446744073709551615:=Int.ediv_le_self _ (by decide);rw[hd2,aU hq0 (by omega),if_neg (by omega),Int.zero_mul];rfl
 have f1:aj (tk c).nodes c.gen=0:=by
  have h1:0<=aj (tk c).nodes c.gen:=jL (k:=0) Nat.zero_lt_one rfl;have h2:aj (tk c).nodes c.gen<((1:Nat):Int):=(dX (tk c).nodes c.gen).2;omega
 have k1:CT (tk c)=true:=by
  unfold CT;have e1:=IW 1 c.spe;show ((decide (c.gen=c.gen)&&(decide (0<=aj (tk c).nodes c.gen)&&(decide ((nod (tk c).nodes (aj (tk c).nodes c.gen).toNat).status≠2)&&decide ((0:Int)<=0))))&&((decide (rt0=rt0) || decide (0<=aj (tk c).nodes rt0))&&(decide ((1:Int)<=1099511627776)&&decide (0<=(fC 1 c.spe).1)))&&(decide ((bD 0 c.spe).2=0)&&decide ((0:Int)<=(bD 0 c.spe).1)))=true
  rw[f1,hs];simp[tk,nod,e1]
 have k2:(decide (frE (kI (tk c)) ((tk c).tabs.length-0) 0=0)&&orN (fun i=>decide ((tab (tk c).tabs i).cp=(tk c).j)) (tk c).tabs.length)=true:=by
  rw[Bool.and_eq_true];refine⟨ak (vS.2 fun j h1 h2=>?_),?_⟩
  ·obtain rfl:j=0:=by simp[tk]at h2;omega
   unfold kI;rw[if_neg (by omega),if_neg (fun hh=>hh hv)]
  ·show (false || decide ((⟨0,c.gen⟩:Cp)=⟨0,c.gen⟩))=true
   simp
 have k3 : pB (tk c) = true := by
  unfold pB
  have hn:cE (fun i=>!(vot (tk c).latest i).has&&decide (vot (tk c).latest i≠fg)) (tk c).latest.length=none:=by
   cases hf:cE (fun i=>!(vot (tk c).latest i).has&&decide (vot (tk c).latest i≠fg)) (tk c).latest.length with
   |none=>rfl
   | some j =>
     obtain⟨hj,hp,_⟩:=dY hf
     have:vot (tk c).latest j=fg:=by
      unfold vot tk;rw[List.getD_eq_getElem?_getD,List.getElem?_replicate];split<;>rfl
     rw[this]at hp;simp at hp
  rw[hn];simp[tk]
 have k4:pv (tk c)=true:=by
  unfold pv
  have hn:cE (fun i=>decide ((tk c).now<(nod (tk c).nodes i).blk.slot) || !tH (tk c) (nod (tk c).nodes i).blk) (tk c).nodes.length=none:=by
   cases hf:cE (fun i=>decide ((tk c).now<(nod (tk c).nodes i).blk.slot) || !tH (tk c) (nod (tk c).nodes i).blk) (tk c).nodes.length with
   |none=>rfl
   | some j =>
     obtain⟨hj,hp,_⟩:=dY hf;obtain rfl:j=0:=by simp[tk]at hj;omega
     have e0:=IW 0 c.spe;simp[tk,nod,HH,tH,e0]at hp
  rw[hn];rfl
 have k5:CY (tk c)=true:=rfl;unfold rS;rw[if_neg (fun hh=>hh h),YY,if_neg (fun hh=>hh rfl),k1,k2,k3,k4,k5];rw[if_neg (by simp[tk];omega),if_neg (by simp[tk];omega),if_neg (by simp[tk];omega),if_neg (by simp[tk];omega)];simp
theorem qA:PC Tryz.prog 37 [] (.bool true):=by
 refine PC.fact 5 He (by simp) puA puA ?_;unfold vn;refine bd ?_;obtain⟨c,hc,cc⟩:=IB [];have hu:∀x∈c.bals,0<=x/\x<18446744073709551616:=fun x hx=>by have:=hc.bu x hx;omega
 have h1:=hc.r.b1;have c1:=Vr c (by omega) hu;have hn:y9 c=(fm c,0):=by unfold y9;rw[if_pos hc.new]
 rw[hn]at c1;have hI:=bi.new hc.r;have c2:=xy (fm c) 0 hI;rw[AT]at c2;have hI2:bi (tk c) 0:=by have:=hI.tick (by rw[AT]);rwa [AT]at this
 have hr:=hI2.r
 have c3:=Vw (tk c) ⟨hr.bn,hr.bl,hr.be,hr.bt,hr.bb,fun t ht x hx=>by
  have:t=⟨⟨0,c.gen⟩,c.bals⟩:=by simpa[tk]using ht
  subst this;exact hu x hx,hr.bo,hr.ba,fun a ha=>by have:=hI2.av a ha;omega,by show c.bals.length<=1000000;omega,hu,hI2.uf⟩
 rw[aaW hc.new]at c3;have hl:(fm c).nodes=[⟨HH c.gen,-1,1⟩]:=rfl;have hw:(tk c).now=1:=rfl;have hgd:(rows aP (fm c).nodes).getD 0 []=aP ⟨HH c.gen,-1,1⟩:=rfl;have hln:(fm c).nodes.length=1:=rfl;dsimp only at c1 c2;generalize fm c=s at *;generalize tk c=t at *;refine gon ?_;refine mm cc ⟨Wk.empty _ _ _,trivial⟩ ⟨trivial,trivial⟩ ?_;refine gon ?_;refine acT c1 ?_;refine ai c2 ?_;refine cZ hln hgd hw ?_;refine acT c3 ?_;exact af
theorem yA:CpR d9:=⟨by simp[d9],by simp[d9],by simp[d9],by simp[d9],fun t ht=>by simp[d9]at ht,by simp[d9],by simp[d9],fun t ht=>by simp[d9]at ht,by simp[d9]⟩
end Go.Proofs.YtnjdpnfglgcjcaaGreat
