/-
 My texts Qh, Qi, joined.
-/
import Derived.Test.YtkgimpdgncakjaaT3
import Derived.Test.YtkgimpdgncakjaaR1
import Derived.Test.YtkgimpdgncakjaaV1
namespace Go.Proofs.Ytkgimpdgncakjaa
open Go Go.FH Go.RowKit
set_option linter.unusedVariables false
set_option linter.unusedSimpArgs false
set_option maxRecDepth 8000
set_option maxHeartbeats 4000000
theorem rM_(n lo hi:Int):PC Try.prog 38 [.int .i64 n,.int .i64 lo,.int .i64 hi] (.bool (wit n lo hi)):=by
 refine PC.fact 7 nn_ (by simp) puA puA ?_;unfold hP_;refine bd ?_;unfold wit;by_cases h0:lo≤n
 ·have e0:decide (n ≥ lo)=true:=decide_eq_true h0;have e1:decide (lo≤n)=true:=decide_eq_true h0;repeat(first|refine aa_ ?_|simp only[go_sem,e0,e1])
  exact am_
 ·have e0:decide (n ≥ lo)=false:=decide_eq_false h0;have e1:decide (lo≤n)=false:=decide_eq_false h0;repeat(first|refine aa_ ?_|simp only[go_sem,e0,e1])
  exact am_
theorem qz_(c:aX_)(hb:c.bals.length≤1000000)(hu:∀x∈c.bals,0≤x∧x<18446744073709551616):PC Try.prog 12 [.agg (aU_ c.a)] (.int .i64 (hg_ c)):=by
 refine Sm.val (F:=fun r:Int=>PC Try.prog 12 [.agg (aU_ c.a)] (.int .i64 r)) ?_;refine wQ_ 4 iP_ (by simp) puA (fun r _=>puA) ?_;unfold fa_;refine bd ?_;have c0:=nB_ c.gen;have c1:PC Try.prog 40 [.agg (bj_ ⟨cp0,.sl 1 false (au_ .u64 c.bals)⟩),.int .i64 c.bals.length] (.int .i64 (dD_ ⟨⟨0,c.gen⟩,c.bals⟩ c.bals.length)):=mW_ ⟨cp0,c.bals⟩ c.bals.length hb hu;generalize hV:dD_ ⟨⟨0,c.gen⟩,c.bals⟩ c.bals.length=V at *;have lt:∀ (a b:Int),decide (a > b)=decide (b<a):=fun _ _=>rfl
 have ge:∀ (a b:Int),decide (a ≥ b)=decide (b≤a):=fun _ _=>rfl
 iterate 5 (repeat'(first|refine jA_ ?_|(refine fP_ (fun h=>?_) (fun h=>?_)<;>try(exact absurd h (by decide)))|refine oo_ (fun h=>?_) (fun h=>?_));all_goals try refine iw_ (rM_ _ _ _) ?_)
 repeat'(first|refine jA_ ?_|(refine fP_ (fun h=>?_) (fun h=>?_)<;>try(exact absurd h (by decide)))|refine oo_ (fun h=>?_) (fun h=>?_))
 all_goals try refine iw_ c0 ?_
 all_goals repeat'(first|refine jA_ ?_|(refine fP_ (fun h=>?_) (fun h=>?_)<;>try(exact absurd h (by decide)))|refine oo_ (fun h=>?_) (fun h=>?_))
 all_goals try refine iw_ c1 ?_
 all_goals repeat'(first|refine jA_ ?_|(refine fP_ (fun h=>?_) (fun h=>?_)<;>try(exact absurd h (by decide)))|refine oo_ (fun h=>?_) (fun h=>?_))
 all_goals try(refine Eu_ (by first|rfl|exact evd) (by first|rfl|((try simp only[go_sem,Nat.reduceAdd,Nat.reduceSub,Nat.reduceMul,Nat.reduceLT,Nat.reduceLeDiff,Nat.reduceEqDiff,reduceIte,Int.reduceToNat,Int.reduceLT,Int.reduceLE,Int.reduceEq,Int.reduceNeg,reduceCtorEq,Int.reduceBEq,Int.reduceBNe]);rfl)) ?_;(try simp only[Bool.not_false,Bool.not_true,decide_eq_true_eq,decide_eq_false_iff_not,Bool.not_eq_true',Bool.not_eq_false',beq_iff_eq,bne_iff_ne,beq_eq_false_iff_ne,bne_eq_false_iff_eq,ne_eq,Bool.not_eq_true,Bool.not_eq_false,Bool.or_eq_true,Bool.and_eq_true,Bool.or_eq_false_iff]at *);(simp only[hg_, *,reduceIte,Bool.true_eq_false,Bool.false_eq_true,not_true_eq_false,not_false_eq_true,ne_eq,true_and,and_true,false_and,and_false,true_or,or_true,false_or,or_false,Int.reduceEq,if_false,if_true,eq_self,reduceCtorEq,decide_true,decide_false,Bool.and_true,Bool.true_and,Bool.and_false,Bool.false_and,Bool.or_true,Bool.true_or,Bool.or_false,Bool.false_or,Bool.not_true,Bool.not_false]))
 all_goals(repeat' split)
 all_goals first|rfl|omega|contradiction
theorem lp_(c:aX_)(hb:c.bals.length≤1000000)(hu:∀x∈c.bals,0≤x∧x<18446744073709551616):PC Try.prog 6 [.agg (aU_ c.a)] (.tup [.agg (ak_ (kJ_ c).1.a),.int .i64 (kJ_ c).2]):=by
 refine PC.fact 8 tc_ (by simp) puA puA ?_;unfold lI_;refine bd ?_;have c1:=qz_ c hb hu;have c2:PC Try.prog 13 [.agg (aw_ (pr_ c.gen)),.int .i64 1] (.agg [.sl 240 false (rows av_ [⟨pr_ c.gen,-1,1⟩])]):=vF_ (pr_ c.gen) 1
 have hcp:hg_ c=0→CpR (cv_ c):=fun h=>by
  have hl:(c.bals.length:Int)≤1024:=by
   unfold hg_ at h;by_cases q:1024<(c.bals.length:Int)
   ·(repeat' split at h)<;>first|omega|contradiction
   ·omega
  exact⟨by simp[cv_],by simp[cv_];omega,by simp[cv_],by simp[cv_],fun t ht=>by simp[cv_]at ht;subst ht;exact hb,by simp[cv_],by simp[cv_],fun a ha=>by simp[cv_]at ha,hb⟩
 have c3:=fun h=>wt_ (cv_ c) (hcp h)
 unfold kJ_;generalize hg_ c=V at *;try refine aa_ ?_
 refine aA_ c1 ?_;by_cases q:V=0
 case neg=>
  have e1:(V != 0)=true:=by simp[q]
  rw[if_neg q];repeat(first|refine aa_ ?_|simp only[go_sem,e1])
  refine EB_ ?_
  exact AQ_ (by first|rfl|exact evd) (by first|rfl|exact evd)
 have e1:(V != 0)=false:=by simp[q]
 have c3:=c3 q;rw[if_pos q];have hrep:List.replicate c.bals.length (aV_ ⟨false,0,rt0⟩)=rows aV_ (List.replicate c.bals.length eu_):=qU_ _;have ht:List.take c.bals.length (rows aV_ (List.replicate c.bals.length ⟨false,0,rt0⟩))=rows aV_ (List.replicate c.bals.length ⟨false,0,rt0⟩):=List.take_of_length_le (by simp);repeat(first|refine aa_ ?_|simp only[go_sem,e1])
 refine ac_ ?_;repeat(first|refine aa_ ?_|simp only[go_sem,hrep,sh_])
 refine co_ (c2) ?_;repeat(first|refine Ei_ ?_|simp only[go_sem,hrep,sh_])
 refine BC_ [4] ?_;simp only[evZ,tw_];(try simp only[go_sem,Nat.reduceAdd,Nat.reduceSub,Nat.reduceMul,Nat.reduceLT,Nat.reduceLeDiff,Nat.reduceEqDiff,reduceIte,Int.reduceToNat,Int.reduceLT,Int.reduceLE,Int.reduceEq,Int.reduceNeg,reduceCtorEq,Int.reduceBEq,Int.reduceBNe,List.length_replicate,ht])
 try refine aa_ ?_
 refine AN_ c3 ⟨BN_ (cv_ c).a (rows as_.c (cv_ c).tabs),trivial⟩ ⟨wL_ (cv_ c),trivial⟩ ?_;try refine aa_ ?_
 exact am_
theorem yG_(l:List Vot)(hl:l.length≤1000000):PC Try.prog 20 [.sl 34 false (rows aV_ l),.sl 34 false (rows aV_ l)] (.bool true):=by
 refine PC.fact 6 le_ (by simp) puA puA ?_;unfold gD_;refine bd ?_;have e0:((l.length:Int) != (l.length:Int))=false:=by simp
 repeat(first|refine aa_ ?_|simp only[go_sem,e0])
 refine EA_ ?_
 refine aE_ (fun i:Nat=>[(5,.int .i64 i)]) (fun _=>[]) (fun i=>l.length-i) (fun i=>i≤l.length) 0 (Nat.zero_le _) ?_ ?_
 ·exact GH_ [] []
 intro i hi;refine eP_ ?_;by_cases h1:i<l.length
 ·have e1:=inT h1;have hw:=ai_ h1 (by omega);have hgd:(rows aV_ l).getD i []=aV_ (vot l i):=aR_ (f:=aV_) eu_ h1;repeat(first|refine aa_ ?_|simp only[go_sem,e1])
  refine ab_ ?_;repeat(first|refine aa_ ?_|simp only[go_sem,hgd])
  refine ac_ ?_;repeat(first|refine aa_ ?_|simp only[go_sem,hw])
  refine⟨i+1,h1,by omega,?_⟩;exact GH_ [] []
 ·obtain rfl:i=l.length:=by omega
  have e1:=inF (l.length);repeat(first|refine aa_ ?_|simp only[go_sem,e1])
  refine EA_ ?_
  exact am_
theorem yF_(l:List as_)(hl:l.length≤1000000)(hb:∀t∈l,t.bals.length≤1000000):PC Try.prog 23 [.sl 34 false (rows as_.c l),.sl 34 false (rows as_.c l)] (.bool true):=by
 refine PC.fact 6 kw_ (by simp) puA puA ?_;unfold gc_;refine bd ?_;have e0:((l.length:Int) != (l.length:Int))=false:=by simp
 repeat(first|refine aa_ ?_|simp only[go_sem,e0])
 refine EA_ ?_
 refine aE_ (fun i:Nat=>[(5,.int .i64 i)]) (fun _=>[]) (fun i=>l.length-i) (fun i=>i≤l.length) 0 (Nat.zero_le _) ?_ ?_
 ·exact GH_ [] []
 intro i hi;refine eP_ ?_;by_cases h1:i<l.length
 ·have e1:=inT h1
  have hw:=ai_ h1 (by omega);have hgd:(rows as_.c l).getD i []=bj_ (tab l i).a:=aR_ (f:=as_.c) default h1;have hm:tab l i∈l:=dy_ default h1
  have c1:PC Try.prog 49 [.agg (bj_ (tab l i).a),.agg (bj_ (tab l i).a)] (.bool true):=by
   have:=Bc_ (tab l i).a (tab l i).a (tab l i).bals (tab l i).bals false false rfl rfl (by have:=hb _ hm;omega) (by have:=hb _ hm;omega);simpa using this
  repeat(first|refine aa_ ?_|simp only[go_sem,e1])
  refine ab_ ?_;repeat(first|refine aa_ ?_|simp only[go_sem,hgd])
  refine co_ (c1) ?_;try refine aa_ ?_
  refine ac_ ?_;repeat(first|refine aa_ ?_|simp only[go_sem,hw])
  refine⟨i+1,h1,by omega,?_⟩;exact GH_ [] []
 ·obtain rfl:i=l.length:=by omega
  have e1:=inF (l.length);repeat(first|refine aa_ ?_|simp only[go_sem,e1])
  refine EA_ ?_
  exact am_
theorem yE_(l:List Nod)(hl:l.length≤1000000):PC Try.prog 22 [.agg [.sl 240 false (rows av_ l)],.agg [.sl 240 false (rows av_ l)]] (.bool true):=by
 refine PC.fact 6 rA_ (by simp) puA puA ?_;unfold kl_;refine bd ?_;have e0:((l.length:Int) != (l.length:Int))=false:=by simp
 repeat(first|refine aa_ ?_|simp only[go_sem,e0])
 refine EA_ ?_
 refine aE_ (fun i:Nat=>[(5,.int .i64 i)]) (fun _=>[.var [.sl 240 false (rows av_ l)],.var [.sl 240 false (rows av_ l)]]) (fun i=>l.length-i) (fun i=>i≤l.length) 0 (Nat.zero_le _) ?_ ?_
 ·exact GH_ [] [0,1]
 intro i hi;refine eP_ ?_;by_cases h1:i<l.length
 ·have e1:=inT h1;have hw:=ai_ h1 (by omega);have hgd:(rows av_ l).getD i []=av_ (nod l i):=aR_ (f:=av_) fX_ h1;repeat(first|refine aa_ ?_|simp only[go_sem,e1])
  refine ab_ ?_;repeat(first|refine aa_ ?_|simp only[go_sem,hgd])
  refine ac_ ?_;repeat(first|refine aa_ ?_|simp only[go_sem,hw])
  refine⟨i+1,h1,by omega,?_⟩;exact GH_ [] [0,1]
 ·obtain rfl:i=l.length:=by omega
  have e1:=inF (l.length);repeat(first|refine aa_ ?_|simp only[go_sem,e1])
  refine EA_ ?_
  exact am_
theorem qN_(s:ag_)(h:CpR s):PC Try.prog 8 [.agg (ak_ s.a),.agg (ak_ s.a)] (.bool true):=by
 refine PC.fact 9 rB_ (by simp) puA puA ?_;unfold km_;refine bd ?_
 have c1:PC Try.prog 19 [.sl 1 false (au_ .u64 s.cfg.bals),.sl 1 false (au_ .u64 s.cfg.bals)] (.bool true):=by
  have:=jy_ s.cfg.bals s.cfg.bals false false (by have:=h.bc;omega) (by have:=h.bc;omega);simpa using this
 have c2:=yG_ s.latest h.bl
 have c3:PC Try.prog 21 [.sl 1 false (au_ .i64 s.eqv),.sl 1 false (au_ .i64 s.eqv)] (.bool true):=by
  have:=jx_ s.eqv s.eqv false false (by have:=h.be;omega) (by have:=h.be;omega);simpa using this
 have c4:=yE_ s.nodes h.bn;have c5:=yF_ s.tabs (by have:=h.bt;omega) h.bb;have e0:∀n:Nat,((n:Int) != (n:Int))=false:=fun n=>by simp
 have e00:∀n:Int,(n != n)=false:=fun n=>by simp
 repeat(first|refine aa_ ?_|simp only[go_sem,e0,e00])
 refine FZ_ c1 ?_
 refine EA_ ?_
 refine FZ_ c2 ?_
 refine aA_ c3 ?_;repeat(first|refine aa_ ?_|simp only[go_sem,e0,e00])
 refine aA_ c4 ?_;repeat(first|refine aa_ ?_|simp only[go_sem,e0,e00])
 refine FZ_ c5 ?_
 refine ac_ ?_;have hba:=h.ba;have hbo:=h.bo;try refine aa_ ?_
 refine aE_ (fun i:Nat=>[(7,.int .i64 i),(5,.dead),(6,.dead)]) (fun _=>[.var (ak_ s.a),.var (ak_ s.a)]) (fun i=>s.early.length-i) (fun i=>i≤s.early.length) 0 (Nat.zero_le _) ?_ ?_
 ·exact GH_ [] [0,1]
 intro i hi;refine eP_ ?_;by_cases h1:i<s.early.length
 ·have e1:=inT h1
  have hw:=ai_ h1 (by omega);have hgd:(rows aB_.c s.early).getD i []=bg_ (dG_ s.early i).a:=aR_ (f:=aB_.c) default h1;have hm:dG_ s.early i∈s.early:=dy_ default h1
  have c6:PC Try.prog 24 [.agg (bg_ (dG_ s.early i).a),.agg (bg_ (dG_ s.early i).a)] (.bool true):=by
   have:=Bb_ (dG_ s.early i).a (dG_ s.early i).a (dG_ s.early i).vals (dG_ s.early i).vals false false rfl rfl (by have:=h.bv _ hm;omega) (by have:=h.bv _ hm;omega);simpa using this
  repeat(first|refine aa_ ?_|simp only[go_sem,e1])
  refine ab_ ?_;repeat(first|refine aa_ ?_|simp only[go_sem,hgd])
  refine co_ (c6) ?_;try refine aa_ ?_
  refine ac_ ?_;repeat(first|refine aa_ ?_|simp only[go_sem,hw])
  refine⟨i+1,h1,by omega,?_⟩;exact GH_ [] [0,1]
 ·obtain rfl:i=s.early.length:=by omega
  have e1:=inF (s.early.length);clear hi h1;repeat(first|refine aa_ ?_|simp only[go_sem,e1])
  refine EA_ ?_
  refine aE_ (fun i:Nat=>[(8,.int .i64 i),(5,.dead),(6,.dead)]) (fun _=>[.var (ak_ s.a),.var (ak_ s.a)]) (fun i=>s.orph.length-i) (fun i=>i≤s.orph.length) 0 (Nat.zero_le _) ?_ ?_
  ·exact GH_ [] [0,1]
  clear e1;intro i hi;refine eP_ ?_;by_cases h1:i<s.orph.length
  ·have e1:=inT h1;have hw:=ai_ h1 (by omega);have hgd:(rows aw_ s.orph).getD i []=aw_ (gT_ s.orph i):=aR_ (f:=aw_) eW_ h1;repeat(first|refine aa_ ?_|simp only[go_sem,e1])
   refine ab_ ?_;repeat(first|refine aa_ ?_|simp only[go_sem,hgd])
   refine ac_ ?_;repeat(first|refine aa_ ?_|simp only[go_sem,hw])
   refine⟨i+1,h1,by omega,?_⟩;exact GH_ [] [0,1]
  ·obtain rfl:i=s.orph.length:=by omega
   have e1:=inF (s.orph.length);repeat(first|refine aa_ ?_|simp only[go_sem,e1])
   refine EA_ ?_
   exact am_
end Go.Proofs.Ytkgimpdgncakjaa
