/-
 My texts Qh, Qi, joined.
-/
import Derived.Test.YtnjdpnfglgcjcaaGreatT3
import Derived.Test.YtnjdpnfglgcjcaaGreatR1
import Derived.Test.YtnjdpnfglgcjcaaGreatV1
set_option linter.unusedVariables false
set_option linter.unusedSimpArgs false
set_option maxRecDepth 8000
set_option maxHeartbeats 4000000
namespace Go.Proofs.YtnjdpnfglgcjcaaGreat
open Go Go.FH Go.RowKit
theorem L9(n lo hi:Int):PC Tryz.prog 322 [.int .i64 n,.int .i64 lo,.int .i64 hi] (.bool (wit n lo hi)):=by
 refine PC.fact 7 EO (by simp) puA puA ?_;unfold sJ;refine bd ?_;unfold wit;by_cases h0:lo<=n
 ·have e0:decide (n ≥ lo)=true:=ak h0;have e1:=ak h0;refine aO e0 e1 ?_;exact af
 ·have e0:decide (n ≥ lo)=false:=au h0;have e1:=au h0;refine aO e0 e1 ?_;exact af
theorem JA(c:cU)(hb:c.bals.length<=1000000)(hu:∀x∈c.bals,0<=x/\x<18446744073709551616):PC Tryz.prog 228 [.agg (cD c.a)] (.int .i64 (iH c)):=by
 refine Sm.val (F:=fun r:Int=>PC Tryz.prog 228 [.agg (cD c.a)] (.int .i64 r)) ?_;refine lu 4 uK (by simp) puA (fun r _=>puA) ?_;unfold mA;refine bd ?_;have c0:=jk c.gen;have c1:PC Tryz.prog 139 [.agg (bE ⟨cp0,.sl 1 false (ax .u64 c.bals)⟩),.int .i64 c.bals.length] (.int .i64 (fJ ⟨⟨0,c.gen⟩,c.bals⟩ c.bals.length)):=wv ⟨cp0,c.bals⟩ c.bals.length hb hu;generalize hV:fJ ⟨⟨0,c.gen⟩,c.bals⟩ c.bals.length=V at *;have lt:∀ (a b:Int),decide (a > b)=decide (b<a):=fun _ _=>rfl
 have ge:∀ (a b:Int),decide (a ≥ b)=decide (b<=a):=fun _ _=>rfl
 iterate 5 (repeat'(first|refine cQ ?_|(refine bB (fun h=>?_) (fun h=>?_)<;>try(exact absurd h (by decide)))|refine eA (fun h=>?_) (fun h=>?_));all_goals try refine dg (L9 _ _ _) ?_)
 repeat'(first|refine cQ ?_|(refine bB (fun h=>?_) (fun h=>?_)<;>try(exact absurd h (by decide)))|refine eA (fun h=>?_) (fun h=>?_))
 all_goals try refine dg c0 ?_
 all_goals repeat'(first|refine cQ ?_|(refine bB (fun h=>?_) (fun h=>?_)<;>try(exact absurd h (by decide)))|refine eA (fun h=>?_) (fun h=>?_))
 all_goals try refine dg c1 ?_
 all_goals repeat'(first|refine cQ ?_|(refine bB (fun h=>?_) (fun h=>?_)<;>try(exact absurd h (by decide)))|refine eA (fun h=>?_) (fun h=>?_))
 all_goals try(refine F7 (by first|rfl|exact evd) (by first|rfl|exact evd) ?_;(try simp only[Bool.not_false,Bool.not_true,decide_eq_true_eq,decide_eq_false_iff_not,Bool.not_eq_true',Bool.not_eq_false',beq_iff_eq,bne_iff_ne,beq_eq_false_iff_ne,bne_eq_false_iff_eq,ne_eq,Bool.not_eq_true,Bool.not_eq_false,Bool.or_eq_true,Bool.and_eq_true,Bool.or_eq_false_iff]at *);(simp only[iH, *,reduceIte,Bool.true_eq_false,Bool.false_eq_true,not_true_eq_false,not_false_eq_true,ne_eq,true_and,and_true,false_and,and_false,true_or,or_true,false_or,or_false,Int.reduceEq,if_false,if_true,eq_self,reduceCtorEq,decide_true,decide_false,Bool.and_true,Bool.true_and,Bool.and_false,Bool.false_and,Bool.or_true,Bool.true_or,Bool.or_false,Bool.false_or,Bool.not_true,Bool.not_false]))
 all_goals(repeat' split)
 all_goals first|rfl|omega|contradiction
theorem Vr(c:cU)(hb:c.bals.length<=1000000)(hu:∀x∈c.bals,0<=x/\x<18446744073709551616):PC Tryz.prog 106 [.agg (cD c.a)] (.tup [.agg (aw (y9 c).1.a),.int .i64 (y9 c).2]):=by
 refine PC.fact 8 N3 (by simp) puA puA ?_;unfold BG;refine bd ?_;have c1:=JA c hb hu;have c2:PC Tryz.prog 229 [.agg (aA (HH c.gen)),.int .i64 1] (.agg [.sl 240 false (rows aP [⟨HH c.gen,-1,1⟩])]):=RG (HH c.gen) 1
 have hcp:iH c=0->CpR (fm c):=fun h=>by
  have hl:(c.bals.length:Int)<=1024:=by
   unfold iH at h;by_cases q:1024<(c.bals.length:Int)
   ·(repeat' split at h)<;>first|omega|contradiction
   ·omega
  exact⟨by simp[fm],by simp[fm];omega,by simp[fm],by simp[fm],fun t ht=>by simp[fm]at ht;subst ht;exact hb,by simp[fm],by simp[fm],fun a ha=>by simp[fm]at ha,hb⟩
 have c3:=fun h=>K1 (fm c) (hcp h)
 unfold y9;generalize iH c=V at *;refine gon ?_;refine ai c1 ?_;by_cases q:V=0
 case neg=>
  have e1:(V != 0)=true:=by simp[q]
  rw[if_neg q];refine aE e1 ?_;exact gS (by first|rfl|exact evd) (by first|rfl|exact evd)
 have e1:(V != 0)=false:=by simp[q]
 have c3:=c3 q;rw[if_pos q];have hrep:List.replicate c.bals.length (bM ⟨false,0,rt0⟩)=rows bM (List.replicate c.bals.length fg):=J9 _;have ht:List.take c.bals.length (rows bM (List.replicate c.bals.length ⟨false,0,rt0⟩))=rows bM (List.replicate c.bals.length ⟨false,0,rt0⟩):=List.take_of_length_le (by simp);refine aQ e1 ?_;refine aO hrep ME ?_;refine aC (c2) ?_;repeat(first|refine jB ?_|simp only[go_sem,hrep,ME])
 refine Gp [4] ?_;simp only[evZ,E0];(try simp only[go_sem,Nat.reduceAdd,Nat.reduceSub,Nat.reduceMul,Nat.reduceLT,Nat.reduceLeDiff,Nat.reduceEqDiff,reduceIte,Int.reduceToNat,Int.reduceLT,Int.reduceLE,Int.reduceEq,Int.reduceNeg,reduceCtorEq,Int.reduceBEq,Int.reduceBNe,List.length_replicate,ht])
 refine gon ?_;refine mm c3 ⟨Zc (fm c).a (rows aH.c (fm c).tabs),trivial⟩ ⟨Tm (fm c),trivial⟩ ?_;refine gon ?_;exact af
theorem VT(l:List Vot)(hl:l.length<=1000000):PC Tryz.prog 132 [.sl 34 false (rows bM l),.sl 34 false (rows bM l)] (.bool true):=by
 refine PC.fact 6 Ac (by simp) puA puA ?_;unfold pU;refine bd ?_;have e0:((l.length:Int) != (l.length:Int))=false:=by simp
 refine aD e0 ?_;refine ay (fun i:Nat=>[(5,.int .i64 i)]) (fun _=>[]) (fun i=>l.length-i) (fun i=>i<=l.length) 0 (Nat.zero_le _) ?_ ?_
 ·exact adk [] []
 intro i hi;refine dM ?_;by_cases h1:i<l.length
 ·have e1:=inT h1;have hw:=ah h1 (by omega);have hgd:(rows bM l).getD i []=bM (vot l i):=aM (f:=bM) fg h1;refine bg e1 ?_;refine aQ hgd ?_;refine ap hw ?_;refine⟨i+1,h1,by omega,?_⟩;exact adk [] []
 ·obtain rfl:i=l.length:=by omega
  have e1:=inF (l.length);refine aD e1 ?_;exact af
theorem VS(l:List aH)(hl:l.length<=1000000)(hb:∀t∈l,t.bals.length<=1000000):PC Tryz.prog 135 [.sl 34 false (rows aH.c l),.sl 34 false (rows aH.c l)] (.bool true):=by
 refine PC.fact 6 yM (by simp) puA puA ?_;unfold oJ;refine bd ?_;have e0:((l.length:Int) != (l.length:Int))=false:=by simp
 refine aD e0 ?_;refine ay (fun i:Nat=>[(5,.int .i64 i)]) (fun _=>[]) (fun i=>l.length-i) (fun i=>i<=l.length) 0 (Nat.zero_le _) ?_ ?_
 ·exact adk [] []
 intro i hi;refine dM ?_;by_cases h1:i<l.length
 ·have e1:=inT h1
  have hw:=ah h1 (by omega);have hgd:(rows aH.c l).getD i []=bE (tab l i).a:=aM (f:=aH.c) default h1;have hm:tab l i∈l:=cG default h1
  have c1:PC Tryz.prog 259 [.agg (bE (tab l i).a),.agg (bE (tab l i).a)] (.bool true):=by
   have:=Pj (tab l i).a (tab l i).a (tab l i).bals (tab l i).bals false false rfl rfl (by have:=hb _ hm;omega) (by have:=hb _ hm;omega);simpa using this
  refine bg e1 ?_;refine ap hgd ?_;refine aC (c1) ?_;refine dk ?_;refine ap hw ?_;refine⟨i+1,h1,by omega,?_⟩;exact adk [] []
 ·obtain rfl:i=l.length:=by omega
  have e1:=inF (l.length);refine aD e1 ?_;exact af
theorem VR(l:List Nod)(hl:l.length<=1000000):PC Tryz.prog 134 [.agg [.sl 240 false (rows aP l)],.agg [.sl 240 false (rows aP l)]] (.bool true):=by
 refine PC.fact 6 LC (by simp) puA puA ?_;unfold yg;refine bd ?_;have e0:((l.length:Int) != (l.length:Int))=false:=by simp
 refine aD e0 ?_;refine ay (fun i:Nat=>[(5,.int .i64 i)]) (fun _=>[.var [.sl 240 false (rows aP l)],.var [.sl 240 false (rows aP l)]]) (fun i=>l.length-i) (fun i=>i<=l.length) 0 (Nat.zero_le _) ?_ ?_
 ·exact adk [] [0,1]
 intro i hi;refine dM ?_;by_cases h1:i<l.length
 ·have e1:=inT h1;have hw:=ah h1 (by omega);have hgd:(rows aP l).getD i []=aP (nod l i):=aM (f:=aP) jm h1;refine bg e1 ?_;refine aQ hgd ?_;refine ap hw ?_;refine⟨i+1,h1,by omega,?_⟩;exact adk [] [0,1]
 ·obtain rfl:i=l.length:=by omega
  have e1:=inF (l.length);refine aD e1 ?_;exact af
theorem uu(s:am)(h:CpR s):PC Tryz.prog 49 [.agg (aw s.a),.agg (aw s.a)] (.bool true):=by
 refine PC.fact 9 LH (by simp) puA puA ?_;unfold yk;refine bd ?_
 have c1:PC Tryz.prog 131 [.sl 1 false (ax .u64 s.cfg.bals),.sl 1 false (ax .u64 s.cfg.bals)] (.bool true):=by
  have:=we s.cfg.bals s.cfg.bals false false (by have:=h.bc;omega) (by have:=h.bc;omega);simpa using this
 have c2:=VT s.latest h.bl
 have c3:PC Tryz.prog 133 [.sl 1 false (ax .i64 s.eqv),.sl 1 false (ax .i64 s.eqv)] (.bool true):=by
  have:=pz s.eqv s.eqv false false (by have:=h.be;omega) (by have:=h.be;omega);simpa using this
 have c4:=VR s.nodes h.bn;have c5:=VS s.tabs (by have:=h.bt;omega) h.bb;have e0:∀n:Nat,((n:Int) != (n:Int))=false:=fun n=>by simp
 have e00:∀n:Int,(n != n)=false:=fun n=>by simp
 refine aO e0 e00 ?_;refine ai c1 ?_;refine bh ?_;refine acT c2 ?_;refine ai c3 ?_;refine aO e0 e00 ?_;refine ai c4 ?_;refine aO e0 e00 ?_;refine ai c5 ?_;refine dk ?_;have hba:=h.ba;have hbo:=h.bo;refine gon ?_;refine ay (fun i:Nat=>[(7,.int .i64 i),(5,.dead),(6,.dead)]) (fun _=>[.var (aw s.a),.var (aw s.a)]) (fun i=>s.early.length-i) (fun i=>i<=s.early.length) 0 (Nat.zero_le _) ?_ ?_
 ·exact adk [] [0,1]
 intro i hi;refine dM ?_;by_cases h1:i<s.early.length
 ·have e1:=inT h1
  have hw:=ah h1 (by omega);have hgd:(rows aW.c s.early).getD i []=bZ (fk s.early i).a:=aM (f:=aW.c) default h1;have hm:fk s.early i∈s.early:=cG default h1
  have c6:PC Tryz.prog 136 [.agg (bZ (fk s.early i).a),.agg (bZ (fk s.early i).a)] (.bool true):=by
   have:=Ph (fk s.early i).a (fk s.early i).a (fk s.early i).vals (fk s.early i).vals false false rfl rfl (by have:=h.bv _ hm;omega) (by have:=h.bv _ hm;omega);simpa using this
  refine bg e1 ?_;refine ap hgd ?_;refine aC (c6) ?_;refine dk ?_;refine ap hw ?_;refine⟨i+1,h1,by omega,?_⟩;exact adk [] [0,1]
 ·obtain rfl:i=s.early.length:=by omega
  have e1:=inF (s.early.length);clear hi h1;refine aD e1 ?_;refine ay (fun i:Nat=>[(8,.int .i64 i),(5,.dead),(6,.dead)]) (fun _=>[.var (aw s.a),.var (aw s.a)]) (fun i=>s.orph.length-i) (fun i=>i<=s.orph.length) 0 (Nat.zero_le _) ?_ ?_
  ·exact adk [] [0,1]
  clear e1;intro i hi;refine dM ?_;by_cases h1:i<s.orph.length
  ·have e1:=inT h1;have hw:=ah h1 (by omega);have hgd:(rows aA s.orph).getD i []=aA (cF s.orph i):=aM (f:=aA) dO h1;refine bg e1 ?_;refine aQ hgd ?_;refine ap hw ?_;refine⟨i+1,h1,by omega,?_⟩;exact adk [] [0,1]
  ·obtain rfl:i=s.orph.length:=by omega
   have e1:=inF (s.orph.length);refine aD e1 ?_;exact af
end Go.Proofs.YtnjdpnfglgcjcaaGreat
