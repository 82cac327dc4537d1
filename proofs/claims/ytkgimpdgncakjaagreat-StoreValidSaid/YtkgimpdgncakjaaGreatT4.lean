/-
 My texts Qh, Qi, joined.
-/
import Derived.Test.YtkgimpdgncakjaaGreatT3
import Derived.Test.YtkgimpdgncakjaaGreatR1
import Derived.Test.YtkgimpdgncakjaaGreatV1
namespace Go.Proofs.YtkgimpdgncakjaaGreat
open Go Go.FH Go.RowKit
set_option linter.unusedVariables false
set_option linter.unusedSimpArgs false
set_option maxRecDepth 8000
set_option maxHeartbeats 4000000
theorem BH_(n lo hi:Int):PC Tryz.prog 132 [.int .i64 n,.int .i64 lo,.int .i64 hi] (.bool (wit n lo hi)):=by
 refine PC.fact 7 vg_ (by simp) puA puA ?_;unfold mu_;refine bd ?_;unfold wit;by_cases h0:lo≤n
 ·have e0:decide (n ≥ lo)=true:=decide_eq_true h0;have e1:decide (lo≤n)=true:=decide_eq_true h0;repeat(first|refine aa_ ?_|simp only[go_sem,e0,e1])
  exact ae_
 ·have e0:decide (n ≥ lo)=false:=decide_eq_false h0;have e1:decide (lo≤n)=false:=decide_eq_false h0;repeat(first|refine aa_ ?_|simp only[go_sem,e0,e1])
  exact ae_
theorem zL_(c:bu_)(hb:c.bals.length≤1000000)(hu:∀x∈c.bals,0≤x∧x<18446744073709551616):PC Tryz.prog 56 [.agg (bn_ c.a)] (.int .i64 (eR_ c)):=by
 refine Sm.val (F:=fun r:Int=>PC Tryz.prog 56 [.agg (bn_ c.a)] (.int .i64 r)) ?_;refine gX_ 4 nQ_ (by simp) puA (fun r _=>puA) ?_;unfold hR_;refine bd ?_;have c0:=vx_ c.gen;have c1:PC Tryz.prog 96 [.agg (aY_ ⟨cp0,.sl 1 false (aq_ .u64 c.bals)⟩),.int .i64 c.bals.length] (.int .i64 (dJ_ ⟨⟨0,c.gen⟩,c.bals⟩ c.bals.length)):=us_ ⟨cp0,c.bals⟩ c.bals.length hb hu;generalize hV:dJ_ ⟨⟨0,c.gen⟩,c.bals⟩ c.bals.length=V at *;have lt:∀ (a b:Int),decide (a > b)=decide (b<a):=fun _ _=>rfl
 have ge:∀ (a b:Int),decide (a ≥ b)=decide (b≤a):=fun _ _=>rfl
 iterate 5 (repeat'(first|refine bq_ ?_|(refine aQ_ (fun h=>?_) (fun h=>?_)<;>try(exact absurd h (by decide)))|refine cK_ (fun h=>?_) (fun h=>?_));all_goals try refine bz_ (BH_ _ _ _) ?_)
 repeat'(first|refine bq_ ?_|(refine aQ_ (fun h=>?_) (fun h=>?_)<;>try(exact absurd h (by decide)))|refine cK_ (fun h=>?_) (fun h=>?_))
 all_goals try refine bz_ c0 ?_
 all_goals repeat'(first|refine bq_ ?_|(refine aQ_ (fun h=>?_) (fun h=>?_)<;>try(exact absurd h (by decide)))|refine cK_ (fun h=>?_) (fun h=>?_))
 all_goals try refine bz_ c1 ?_
 all_goals repeat'(first|refine bq_ ?_|(refine aQ_ (fun h=>?_) (fun h=>?_)<;>try(exact absurd h (by decide)))|refine cK_ (fun h=>?_) (fun h=>?_))
 all_goals try(refine ws_ (by first|rfl|exact evd) (by first|rfl|((try simp only[go_sem,Nat.reduceAdd,Nat.reduceSub,Nat.reduceMul,Nat.reduceLT,Nat.reduceLeDiff,Nat.reduceEqDiff,reduceIte,Int.reduceToNat,Int.reduceLT,Int.reduceLE,Int.reduceEq,Int.reduceNeg,reduceCtorEq,Int.reduceBEq,Int.reduceBNe]);rfl)) ?_;(try simp only[Bool.not_false,Bool.not_true,decide_eq_true_eq,decide_eq_false_iff_not,Bool.not_eq_true',Bool.not_eq_false',beq_iff_eq,bne_iff_ne,beq_eq_false_iff_ne,bne_eq_false_iff_eq,ne_eq,Bool.not_eq_true,Bool.not_eq_false,Bool.or_eq_true,Bool.and_eq_true,Bool.or_eq_false_iff]at *);(simp only[eR_, *,reduceIte,Bool.true_eq_false,Bool.false_eq_true,not_true_eq_false,not_false_eq_true,ne_eq,true_and,and_true,false_and,and_false,true_or,or_true,false_or,or_false,Int.reduceEq,if_false,if_true,eq_self,reduceCtorEq,decide_true,decide_false,Bool.and_true,Bool.true_and,Bool.and_false,Bool.false_and,Bool.or_true,Bool.true_or,Bool.or_false,Bool.false_or,Bool.not_true,Bool.not_false]))
 all_goals(repeat' split)
 all_goals first|rfl|omega|contradiction
theorem Kq_(c:bu_)(hb:c.bals.length≤1000000)(hu:∀x∈c.bals,0≤x∧x<18446744073709551616):PC Tryz.prog 54 [.agg (bn_ c.a)] (.tup [.agg (ak_ (qQ_ c).1.a),.int .i64 (qQ_ c).2]):=by
 refine PC.fact 8 Dy_ (by simp) puA puA ?_;unfold ss_;refine bd ?_;have c1:=zL_ c hb hu;have c2:PC Tryz.prog 131 [.agg (ap_ (xT_ c.gen)),.int .i64 1] (.agg [.sl 240 false (rows ax_ [⟨xT_ c.gen,-1,1⟩])]):=GI_ (xT_ c.gen) 1
 have hcp:eR_ c=0→CpR (dn_ c):=fun h=>by
  have hl:(c.bals.length:Int)≤1024:=by
   unfold eR_ at h;by_cases q:1024<(c.bals.length:Int)
   ·(repeat' split at h)<;>first|omega|contradiction
   ·omega
  exact⟨by simp[dn_],by simp[dn_];omega,by simp[dn_],by simp[dn_],fun t ht=>by simp[dn_]at ht;subst ht;exact hb,by simp[dn_],by simp[dn_],fun a ha=>by simp[dn_]at ha,hb⟩
 have c3:=fun h=>HG_ (dn_ c) (hcp h)
 unfold qQ_;generalize eR_ c=V at *;try refine aa_ ?_
 refine aj_ c1 ?_;by_cases q:V=0
 case neg=>
  have e1:(V != 0)=true:=by simp[q]
  rw[if_neg q];repeat(first|refine aa_ ?_|simp only[go_sem,e1])
  refine Ri_ ?_
  exact jR_ (by first|rfl|exact evd) (by first|rfl|exact evd)
 have e1:(V != 0)=false:=by simp[q]
 have c3:=c3 q;rw[if_pos q];have hrep:List.replicate c.bals.length (aV_ ⟨false,0,rt0⟩)=rows aV_ (List.replicate c.bals.length do_):=Ap_ _;have ht:List.take c.bals.length (rows aV_ (List.replicate c.bals.length ⟨false,0,rt0⟩))=rows aV_ (List.replicate c.bals.length ⟨false,0,rt0⟩):=List.take_of_length_le (by simp);repeat(first|refine aa_ ?_|simp only[go_sem,e1])
 refine ab_ ?_;repeat(first|refine aa_ ?_|simp only[go_sem,hrep,Cd_])
 refine ao_ (c2) ?_;repeat(first|refine mN_ ?_|simp only[go_sem,hrep,Cd_])
 refine la_ [4] ?_;simp only[evZ,pw_];(try simp only[go_sem,Nat.reduceAdd,Nat.reduceSub,Nat.reduceMul,Nat.reduceLT,Nat.reduceLeDiff,Nat.reduceEqDiff,reduceIte,Int.reduceToNat,Int.reduceLT,Int.reduceLE,Int.reduceEq,Int.reduceNeg,reduceCtorEq,Int.reduceBEq,Int.reduceBNe,List.length_replicate,ht])
 try refine aa_ ?_
 refine iW_ c3 ⟨Oe_ (dn_ c).a (rows au_.c (dn_ c).tabs),trivial⟩ ⟨If_ (dn_ c),trivial⟩ ?_;try refine aa_ ?_
 exact ae_
end Go.Proofs.YtkgimpdgncakjaaGreat
