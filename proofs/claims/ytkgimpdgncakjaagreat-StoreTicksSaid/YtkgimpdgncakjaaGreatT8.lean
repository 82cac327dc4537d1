/-
 My texts Qn, Qo, joined.
-/
import Derived.Test.YtkgimpdgncakjaaGreatT7
import Derived.Test.YtkgimpdgncakjaaGreatU4
namespace Go.Proofs.YtkgimpdgncakjaaGreat
open Go Go.FH Go.RowKit
set_option linter.unusedVariables false
set_option linter.unusedSimpArgs false
set_option maxRecDepth 8000
set_option maxHeartbeats 4000000
theorem Pu_{c:bt_}(h:hi_ c=0):(1≤c.spe∧c.spe≤64)∧(1≤c.lim.node∧0≤c.lim.orph∧0≤c.lim.early∧1≤c.lim.table)∧c.gen≠rt0∧eu_ ⟨⟨0,c.gen⟩,c.bals⟩ c.bals.length=0∧c.bals.length≤1024:=by
 unfold hi_ at h;by_cases q0:c.spe<1
 ·rw[if_pos q0]at h;cases h
 rw[if_neg q0]at h;by_cases q1:64<c.spe
 ·rw[if_pos q1]at h;cases h
 rw[if_neg q1]at h;by_cases q2:100<c.boost
 ·rw[if_pos q2]at h;cases h
 rw[if_neg q2]at h;by_cases q3:1024<(c.bals.length:Int)
 ·rw[if_pos q3]at h;cases h
 rw[if_neg q3]at h;by_cases q4:wit c.lim.node 1 4096=false
 ·rw[if_pos q4]at h;cases h
 rw[if_neg q4]at h;by_cases q5:wit c.lim.orph 0 64=false
 ·rw[if_pos q5]at h;cases h
 rw[if_neg q5]at h;by_cases q6:wit c.lim.early 0 256=false
 ·rw[if_pos q6]at h;cases h
 rw[if_neg q6]at h;by_cases q7:wit c.lim.table 1 64=false
 ·rw[if_pos q7]at h;cases h
 rw[if_neg q7]at h;by_cases q8:wit c.lim.retry 0 256=false
 ·rw[if_pos q8]at h;cases h
 rw[if_neg q8]at h;by_cases q9:c.lim.backoff<1
 ·rw[if_pos q9]at h;cases h
 rw[if_neg q9]at h;by_cases q10:1048576<c.lim.backoff
 ·rw[if_pos q10]at h;cases h
 rw[if_neg q10]at h;by_cases q11:c.gen=rt0
 ·rw[if_pos q11]at h;cases h
 rw[if_neg q11]at h;simp only[wit,Bool.not_eq_false,Bool.and_eq_true,decide_eq_true_eq]at q4 q5 q6 q7;exact⟨⟨by omega,by omega⟩,⟨q4.1,q5.1,q6.1,q7.1⟩,q11,h,by omega⟩
def tk(c:bt_):aj_:=⟨c,List.replicate c.bals.length eh_,[],⟨0,c.gen⟩,⟨0,c.gen⟩,[],[],[⟨wO_ c.gen,-1,1⟩],1,rt0,[⟨⟨0,c.gen⟩,c.bals⟩]⟩
theorem JJ_(c:bt_):tickA (ea_ c)=tk c:=rfl
theorem LL_(c:bt_):fa_ (tk c)=⟨⟨0,c.gen⟩,⟨0,c.gen⟩⟩:=rfl
theorem Nf_(c:bt_):dx_ (tk c).tabs 0=(tk c).tabs:=by
 unfold dx_;show ay_ _ [] 1=_
 rw[br_,FV_];rfl
theorem Oz_(c:bt_):cp_ (tk c) ⟨0,c.gen⟩ ⟨0,c.gen⟩=tk c:=by
 have m1:cL_ (tk c).j ⟨0,c.gen⟩=⟨0,c.gen⟩:=by unfold cL_;split<;>rfl
 have m2:cL_ (tk c).f ⟨0,c.gen⟩=⟨0,c.gen⟩:=by unfold cL_;split<;>rfl
 unfold cp_;rw[m1,m2];split
 ·rfl
 ·rw[if_pos (show (⟨0,c.gen⟩:Cp)=(tk c).f from rfl)];simp only[Nf_];rfl
theorem MB_(c:bt_):tickB (tk c)=tk c:=by
 unfold tickB;rw[LL_,Oz_];split<;>rfl
theorem rf_(c:bt_):dd_ (ea_ c)=(tk c,0):=by
 unfold dd_;rw[if_neg (show ¬ (1099511627776:Int)≤(ea_ c).now from by show ¬ (1099511627776:Int)≤0;decide),JJ_,MB_];rfl
theorem My_(c:bt_):ob_ (tk c).nodes=0:=by
 have h:of_ (tk c).nodes=0:=by
  unfold of_;rw[if_neg (by simp[tk])];refine BW_.2 fun j h1 h2=>?_
  obtain rfl:j=0:=by simp[tk]at h2;omega
  unfold DB_;simp[tk,nod]
 unfold ob_;rw[if_neg (by simp[h])];refine BW_.2 fun j h1 h2=>?_
 simp[tk]at h2
theorem xW_(n p:Int):0≤(dY_ n p).1:=by
 unfold dY_;split
 ·exact(bg_ _).1
 ·exact Int.le_refl _
theorem OF_{c:bt_}(h:hi_ c=0):MH_ (tk c)=0:=by
 obtain⟨⟨s1,s2⟩,⟨l1,l2,l3,l4⟩,hg,hv,hb⟩:=Pu_ h
 have hs:cf_ 0 c.spe=(0,0):=by
  have hb:iC_ c.spe=true:=by simp[iC_];omega
  unfold cf_;rw[if_pos hb];unfold wV_;have hd2:Int.tdiv 18446744073709551615 c.spe=18446744073709551615 / c.spe:=Int.tdiv_eq_ediv_of_nonneg (by decide);have hq0:0≤18446744073709551615 / c.spe:=Int.ediv_nonneg (by decide) (by omega);have hq1:18446744073709551615 / c.spe≤18446744073709551615:=Int.ediv_le_self _ (by decide);rw[hd2,aL_ hq0 (by omega),if_neg (by omega),Int.zero_mul];rfl
 have f1:an_ (tk c).nodes c.gen=0:=by
  have h1:0≤an_ (tk c).nodes c.gen:=mD_ (k:=0) Nat.zero_lt_one rfl;have h2:an_ (tk c).nodes c.gen<((1:Nat):Int):=(cq_ (tk c).nodes c.gen).2;omega
 have k1:EE_ (tk c)=true:=by
  unfold EE_;have e1:=xW_ 1 c.spe;show ((decide (c.gen=c.gen)&&(decide (0≤an_ (tk c).nodes c.gen)&&(decide ((nod (tk c).nodes (an_ (tk c).nodes c.gen).toNat).status≠2)&&decide ((0:Int)≤0))))&&((decide (rt0=rt0) || decide (0≤an_ (tk c).nodes rt0))&&(decide ((1:Int)≤1099511627776)&&decide (0≤(dY_ 1 c.spe).1)))&&(decide ((cf_ 0 c.spe).2=0)&&decide ((0:Int)≤(cf_ 0 c.spe).1)))=true
  rw[f1,hs];simp[tk,nod,e1]
 have k2:(decide (frE (vv_ (tk c)) ((tk c).tabs.length-0) 0=0)&&orN (fun i=>decide ((tab (tk c).tabs i).cp=(tk c).j)) (tk c).tabs.length)=true:=by
  rw[Bool.and_eq_true];refine⟨decide_eq_true (BW_.2 fun j h1 h2=>?_),?_⟩
  ·obtain rfl:j=0:=by simp[tk]at h2;omega
   unfold vv_;rw[if_neg (by omega),if_neg (fun hh=>hh hv)]
  ·show (false || decide ((⟨0,c.gen⟩:Cp)=⟨0,c.gen⟩))=true
   simp
 have k3 : ri_ (tk c) = true := by
  unfold ri_
  have hn:cD_ (fun i=>!(vot (tk c).latest i).has&&decide (vot (tk c).latest i≠eh_)) (tk c).latest.length=none:=by
   cases hf:cD_ (fun i=>!(vot (tk c).latest i).has&&decide (vot (tk c).latest i≠eh_)) (tk c).latest.length with
   |none=>rfl
   | some j =>
     obtain⟨hj,hp,_⟩:=dR_ hf
     have:vot (tk c).latest j=eh_:=by
      unfold vot tk;rw[List.getD_eq_getElem?_getD,List.getElem?_replicate];split<;>rfl
     rw[this]at hp;simp at hp
  rw[hn];simp[tk]
 have k4:qQ_ (tk c)=true:=by
  unfold qQ_
  have hn:cD_ (fun i=>decide ((tk c).now<(nod (tk c).nodes i).blk.slot) || !CE_ (tk c) (nod (tk c).nodes i).blk) (tk c).nodes.length=none:=by
   cases hf:cD_ (fun i=>decide ((tk c).now<(nod (tk c).nodes i).blk.slot) || !CE_ (tk c) (nod (tk c).nodes i).blk) (tk c).nodes.length with
   |none=>rfl
   | some j =>
     obtain⟨hj,hp,_⟩:=dR_ hf;obtain rfl:j=0:=by simp[tk]at hj;omega
     have e0:=xW_ 0 c.spe;simp[tk,nod,wO_,CE_,e0]at hp
  rw[hn];rfl
 have k5:LO_ (tk c)=true:=rfl;unfold MH_;rw[if_neg (fun hh=>hh h),My_,if_neg (fun hh=>hh rfl),k1,k2,k3,k4,k5];rw[if_neg (by simp[tk];omega),if_neg (by simp[tk];omega),if_neg (by simp[tk];omega),if_neg (by simp[tk];omega)];simp
theorem ze_:PC Tryz.prog 14 [] (.bool true):=by
 refine PC.fact 5 wq_ (by simp) puA puA ?_;unfold ny_;refine bd ?_;obtain⟨c,hc,cc⟩:=xJ_ [];have hu:∀x∈c.bals,0≤x∧x<18446744073709551616:=fun x hx=>by have:=hc.bu x hx;omega
 have h1:=hc.r.b1;have c1:=IN_ c (by omega) hu;have hn:uH_ c=(ea_ c,0):=by unfold uH_;rw[if_pos hc.new]
 rw[hn]at c1;have hI:=aR_.new hc.r;have c2:=uP_ (ea_ c) 0 hI;rw[rf_]at c2;have hI2:aR_ (tk c) 0:=by have:=hI.tick (by rw[rf_]);rwa [rf_]at this
 have hr:=hI2.r
 have c3:=IS_ (tk c) ⟨hr.bn,hr.bl,hr.be,hr.bt,hr.bb,fun t ht x hx=>by
  have:t=⟨⟨0,c.gen⟩,c.bals⟩:=by simpa[tk]using ht
  subst this;exact hu x hx,hr.bo,hr.ba,fun a ha=>by have:=hI2.av a ha;omega,by show c.bals.length≤1000000;omega,hu,hI2.uf⟩
 rw[OF_ hc.new]at c3;have hl:(ea_ c).nodes=[⟨wO_ c.gen,-1,1⟩]:=rfl;have hw:(tk c).now=1:=rfl;have hgd:(rows aG_ (ea_ c).nodes).getD 0 []=aG_ ⟨wO_ c.gen,-1,1⟩:=rfl;have hln:(ea_ c).nodes.length=1:=rfl;dsimp only at c1 c2;generalize ea_ c=s at *;generalize tk c=t at *;try refine aa_ ?_
 refine ir_ cc ⟨Wk.empty _ _ _,trivial⟩ ⟨trivial,trivial⟩ ?_;try refine aa_ ?_
 refine Qy_ c1 ?_
 refine ah_ c2 ?_;repeat(first|refine aa_ ?_|simp only[go_sem,hln,hgd,hw])
 refine Qy_ c3 ?_
 exact af_
theorem KK_:CpR de_:=⟨by simp[de_],by simp[de_],by simp[de_],by simp[de_],fun t ht=>by simp[de_]at ht,by simp[de_],by simp[de_],fun t ht=>by simp[de_]at ht,by simp[de_]⟩
theorem Nc_{s:aj_}{i:Nat}(h:aR_ s i):CpR (dd_ s).1:=by
 by_cases h0:(dd_ s).2=0
 ·exact(h.tick h0).cp
 ·have:dd_ s=(de_,3):=by
   unfold dd_ at h0 ⊢;split
   ·rfl
   ·rename_i h1;rw[if_neg h1]at h0;exact absurd rfl h0
  rw[this];exact KK_
def withW(s:aj_)(n:Int):aj_:=⟨s.cfg,s.latest,s.eqv,s.j,s.f,s.early,s.orph,s.nodes,n,s.boost,s.tabs⟩
theorem aR_.withW{s:aj_}{i:Nat}(h:aR_ s i){n:Int}(hn:U64 n):aR_ (withW s n) i:=
 ⟨h.cfg,h.tree,h.jf,h.ll,h.nn,h.un,h.oo,h.uo,h.aa,h.av,h.tt,h.tb,h.qq,h.uj,h.uf,hn,h.ii⟩
theorem pc_StoreTicks(l:List Int)(hl:l.length≤maxLen)(hwl:∀z∈l,(Lit.int .i64 z).wf=true)(last:Int)(hla:(Lit.int .i64 last).wf=true):PC Tryz.prog 3 [.sl 1 false (aq_ .i64 l),.int .i64 last] (.bool true):=by
 refine PC.fact 10 oq_ (by simp) puA puA ?_;unfold hX_;refine bd ?_;obtain⟨a,ha,ca⟩:=FN_ l;have hs:=ha.sto
 have key:∀s:aj_,aR_ s 24→PC Tryz.prog 11 [.agg (ai_ s.a)] (.tup [.agg (ai_ (dd_ s).1.a),.int .i64 (dd_ s).2])∧PC Tryz.prog 12 [.agg (ai_ s.a)] (.tup [.agg (ai_ (dd_ s).1.a),.int .i64 (dd_ s).2])∧PC Tryz.prog 13 [.agg (ai_ (dd_ s).1.a),.agg (ai_ (dd_ s).1.a)] (.bool true):=
  fun s h=>⟨uP_ s 24 h,yR_ s 24 h,Jm_ _ (Nc_ h)⟩
 have c4:=ze_;have eq1:∀n:Int,(n==n)=true:=fun n=>by simp
 try refine aa_ ?_
 refine Qy_ ca ?_
 generalize a.sto=s at *;by_cases q:(fP_ .i64 last 15)=15
 ·have e:(fP_ .i64 last 15==15)=true:=by simp[q]
  obtain⟨c1,c2,c3⟩:=key (withW s (IntKind.u64.wrap (1099511627776-IntKind.u64.wrap (fP_ .i64 (dq_ .i64 last 4) 1)))) (hs.withW (bg_ _));generalize dd_ _=T at *;obtain⟨T1,T2⟩:=T;dsimp only at c1 c2 c3;repeat(first|refine aa_ ?_|simp only[go_sem,e])
  refine PH_ ?_
  refine Qy_ c1 ?_
  refine ah_ c2 ?_;repeat(first|refine aa_ ?_|simp only[go_sem,eq1])
  refine Qy_ c3 ?_
  refine Qy_ c4 ?_
  exact af_
 ·have e:(fP_ .i64 last 15==15)=false:=by simp[q]
  obtain⟨c1,c2,c3⟩:=key s hs;generalize dd_ _=T at *;obtain⟨T1,T2⟩:=T;dsimp only at c1 c2 c3;repeat(first|refine aa_ ?_|simp only[go_sem,e])
  refine PG_ ?_
  refine Qy_ c1 ?_
  refine ah_ c2 ?_;repeat(first|refine aa_ ?_|simp only[go_sem,eq1])
  refine Qy_ c3 ?_
  refine Qy_ c4 ?_
  exact af_
end Go.Proofs.YtkgimpdgncakjaaGreat
