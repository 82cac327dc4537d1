/-
 My texts Qh, Qi, joined.
-/
import Derived.Test.YtkgimpdgncakjaaGreatT3
import Derived.Test.YtkgimpdgncakjaaGreatR1
import Derived.Test.YtkgimpdgncakjaaGreatV1
namespace Go.Proofs.YtkgimpdgncakjaaGreat
open Go Go.FH Go.RowKit
set_option linter.unusedVariables false
set_option linter.unusedSimpArgs false
set_option maxRecDepth 8000
set_option maxHeartbeats 4000000
theorem BQ_(n lo hi:Int):PC Tryz.prog 132 [.int .i64 n,.int .i64 lo,.int .i64 hi] (.bool (wit n lo hi)):=by
 refine PC.fact 7 vj_ (by simp) puA puA ?_;unfold mq_;refine bd ?_;unfold wit;by_cases h0:lo≤n
 ·have e0:decide (n ≥ lo)=true:=decide_eq_true h0;have e1:decide (lo≤n)=true:=decide_eq_true h0;repeat(first|refine aa_ ?_|simp only[go_sem,e0,e1])
  exact ag_
 ·have e0:decide (n ≥ lo)=false:=decide_eq_false h0;have e1:decide (lo≤n)=false:=decide_eq_false h0;repeat(first|refine aa_ ?_|simp only[go_sem,e0,e1])
  exact ag_
theorem zV_(c:bD_)(hb:c.bals.length≤1000000)(hu:∀x∈c.bals,0≤x∧x<18446744073709551616):PC Tryz.prog 56 [.agg (bm_ c.a)] (.int .i64 (hy_ c)):=by
 refine Sm.val (F:=fun r:Int=>PC Tryz.prog 56 [.agg (bm_ c.a)] (.int .i64 r)) ?_;refine gM_ 4 nP_ (by simp) puA (fun r _=>puA) ?_;unfold hJ_;refine bd ?_;have c0:=fm_ c.gen;have c1:PC Tryz.prog 96 [.agg (bb_ ⟨cp0,.sl 1 false (aq_ .u64 c.bals)⟩),.int .i64 c.bals.length] (.int .i64 (eF_ ⟨⟨0,c.gen⟩,c.bals⟩ c.bals.length)):=us_ ⟨cp0,c.bals⟩ c.bals.length hb hu;generalize hV:eF_ ⟨⟨0,c.gen⟩,c.bals⟩ c.bals.length=V at *;have lt:∀ (a b:Int),decide (a > b)=decide (b<a):=fun _ _=>rfl
 have ge:∀ (a b:Int),decide (a ≥ b)=decide (b≤a):=fun _ _=>rfl
 iterate 5 (repeat'(first|refine bu_ ?_|(refine aS_ (fun h=>?_) (fun h=>?_)<;>try(exact absurd h (by decide)))|refine cD_ (fun h=>?_) (fun h=>?_));all_goals try refine bE_ (BQ_ _ _ _) ?_)
 repeat'(first|refine bu_ ?_|(refine aS_ (fun h=>?_) (fun h=>?_)<;>try(exact absurd h (by decide)))|refine cD_ (fun h=>?_) (fun h=>?_))
 all_goals try refine bE_ c0 ?_
 all_goals repeat'(first|refine bu_ ?_|(refine aS_ (fun h=>?_) (fun h=>?_)<;>try(exact absurd h (by decide)))|refine cD_ (fun h=>?_) (fun h=>?_))
 all_goals try refine bE_ c1 ?_
 all_goals repeat'(first|refine bu_ ?_|(refine aS_ (fun h=>?_) (fun h=>?_)<;>try(exact absurd h (by decide)))|refine cD_ (fun h=>?_) (fun h=>?_))
 all_goals try(refine wA_ (by first|rfl|exact evd) (by first|rfl|((try simp only[go_sem,Nat.reduceAdd,Nat.reduceSub,Nat.reduceMul,Nat.reduceLT,Nat.reduceLeDiff,Nat.reduceEqDiff,reduceIte,Int.reduceToNat,Int.reduceLT,Int.reduceLE,Int.reduceEq,Int.reduceNeg,reduceCtorEq,Int.reduceBEq,Int.reduceBNe]);rfl)) ?_;(try simp only[Bool.not_false,Bool.not_true,decide_eq_true_eq,decide_eq_false_iff_not,Bool.not_eq_true',Bool.not_eq_false',beq_iff_eq,bne_iff_ne,beq_eq_false_iff_ne,bne_eq_false_iff_eq,ne_eq,Bool.not_eq_true,Bool.not_eq_false,Bool.or_eq_true,Bool.and_eq_true,Bool.or_eq_false_iff]at *);(simp only[hy_, *,reduceIte,Bool.true_eq_false,Bool.false_eq_true,not_true_eq_false,not_false_eq_true,ne_eq,true_and,and_true,false_and,and_false,true_or,or_true,false_or,or_false,Int.reduceEq,if_false,if_true,eq_self,reduceCtorEq,decide_true,decide_false,Bool.and_true,Bool.true_and,Bool.and_false,Bool.false_and,Bool.or_true,Bool.true_or,Bool.or_false,Bool.false_or,Bool.not_true,Bool.not_false]))
 all_goals(repeat' split)
 all_goals first|rfl|omega|contradiction
theorem Kv_(c:bD_)(hb:c.bals.length≤1000000)(hu:∀x∈c.bals,0≤x∧x<18446744073709551616):PC Tryz.prog 54 [.agg (bm_ c.a)] (.tup [.agg (aj_ (vU_ c).1.a),.int .i64 (vU_ c).2]):=by
 refine PC.fact 8 Dz_ (by simp) puA puA ?_;unfold sw_;refine bd ?_;have c1:=zV_ c hb hu;have c2:PC Tryz.prog 131 [.agg (al_ (yg_ c.gen)),.int .i64 1] (.agg [.sl 240 false (rows aE_ [⟨yg_ c.gen,-1,1⟩])]):=GV_ (yg_ c.gen) 1
 have hcp:hy_ c=0→CpR (el_ c):=fun h=>by
  have hl:(c.bals.length:Int)≤1024:=by
   unfold hy_ at h;by_cases q:1024<(c.bals.length:Int)
   ·(repeat' split at h)<;>first|omega|contradiction
   ·omega
  exact⟨by simp[el_],by simp[el_];omega,by simp[el_],by simp[el_],fun t ht=>by simp[el_]at ht;subst ht;exact hb,by simp[el_],by simp[el_],fun a ha=>by simp[el_]at ha,hb⟩
 have c3:=fun h=>Bd_ (el_ c) (hcp h)
 unfold vU_;generalize hy_ c=V at *;try refine aa_ ?_
 refine ae_ c1 ?_;by_cases q:V=0
 case neg=>
  have e1:(V != 0)=true:=by simp[q]
  rw[if_neg q];repeat(first|refine aa_ ?_|simp only[go_sem,e1])
  refine Rn_ ?_
  exact jM_ (by first|rfl|exact evd) (by first|rfl|exact evd)
 have e1:(V != 0)=false:=by simp[q]
 have c3:=c3 q;rw[if_pos q];have hrep:List.replicate c.bals.length (bg_ ⟨false,0,rt0⟩)=rows bg_ (List.replicate c.bals.length gj_):=Ax_ _;have ht:List.take c.bals.length (rows bg_ (List.replicate c.bals.length ⟨false,0,rt0⟩))=rows bg_ (List.replicate c.bals.length ⟨false,0,rt0⟩):=List.take_of_length_le (by simp);repeat(first|refine aa_ ?_|simp only[go_sem,e1])
 refine ab_ ?_;repeat(first|refine aa_ ?_|simp only[go_sem,hrep,Cm_])
 refine as_ (c2) ?_;repeat(first|refine fu_ ?_|simp only[go_sem,hrep,Cm_])
 refine wN_ [4] ?_;simp only[evZ,vw_];(try simp only[go_sem,Nat.reduceAdd,Nat.reduceSub,Nat.reduceMul,Nat.reduceLT,Nat.reduceLeDiff,Nat.reduceEqDiff,reduceIte,Int.reduceToNat,Int.reduceLT,Int.reduceLE,Int.reduceEq,Int.reduceNeg,reduceCtorEq,Int.reduceBEq,Int.reduceBNe,List.length_replicate,ht])
 try refine aa_ ?_
 refine iN_ c3 ⟨Ov_ (el_ c).a (rows au_.c (el_ c).tabs),trivial⟩ ⟨Im_ (el_ c),trivial⟩ ?_;try refine aa_ ?_
 exact ag_
theorem KV_(l:List Vot)(hl:l.length≤1000000):PC Tryz.prog 49 [.sl 34 false (rows bg_ l),.sl 34 false (rows bg_ l)] (.bool true):=by
 refine PC.fact 6 rH_ (by simp) puA puA ?_;unfold kg_;refine bd ?_;have e0:((l.length:Int) != (l.length:Int))=false:=by simp
 repeat(first|refine aa_ ?_|simp only[go_sem,e0])
 refine Rm_ ?_
 refine ao_ (fun i:Nat=>[(5,.int .i64 i)]) (fun _=>[]) (fun i=>l.length-i) (fun i=>i≤l.length) 0 (Nat.zero_le _) ?_ ?_
 ·exact ST_ [] []
 intro i hi;refine cC_ ?_;by_cases h1:i<l.length
 ·have e1:=inT h1;have hw:=af_ h1 (by omega);have hgd:(rows bg_ l).getD i []=bg_ (vot l i):=aB_ (f:=bg_) gj_ h1;repeat(first|refine aa_ ?_|simp only[go_sem,e1])
  refine ac_ ?_;repeat(first|refine aa_ ?_|simp only[go_sem,hgd])
  refine ab_ ?_;repeat(first|refine aa_ ?_|simp only[go_sem,hw])
  refine⟨i+1,h1,by omega,?_⟩;exact ST_ [] []
 ·obtain rfl:i=l.length:=by omega
  have e1:=inF (l.length);repeat(first|refine aa_ ?_|simp only[go_sem,e1])
  refine Rm_ ?_
  exact ag_
theorem KU_(l:List au_)(hl:l.length≤1000000)(hb:∀t∈l,t.bals.length≤1000000):PC Tryz.prog 52 [.sl 34 false (rows au_.c l),.sl 34 false (rows au_.c l)] (.bool true):=by
 refine PC.fact 6 qC_ (by simp) puA puA ?_;unfold jj_;refine bd ?_;have e0:((l.length:Int) != (l.length:Int))=false:=by simp
 repeat(first|refine aa_ ?_|simp only[go_sem,e0])
 refine Rm_ ?_
 refine ao_ (fun i:Nat=>[(5,.int .i64 i)]) (fun _=>[]) (fun i=>l.length-i) (fun i=>i≤l.length) 0 (Nat.zero_le _) ?_ ?_
 ·exact ST_ [] []
 intro i hi;refine cC_ ?_;by_cases h1:i<l.length
 ·have e1:=inT h1
  have hw:=af_ h1 (by omega);have hgd:(rows au_.c l).getD i []=bb_ (tab l i).a:=aB_ (f:=au_.c) default h1;have hm:tab l i∈l:=dA_ default h1
  have c1:PC Tryz.prog 130 [.agg (bb_ (tab l i).a),.agg (bb_ (tab l i).a)] (.bool true):=by
   have:=EO_ (tab l i).a (tab l i).a (tab l i).bals (tab l i).bals false false rfl rfl (by have:=hb _ hm;omega) (by have:=hb _ hm;omega);simpa using this
  repeat(first|refine aa_ ?_|simp only[go_sem,e1])
  refine ac_ ?_;repeat(first|refine aa_ ?_|simp only[go_sem,hgd])
  refine as_ (c1) ?_;try refine aa_ ?_
  refine ab_ ?_;repeat(first|refine aa_ ?_|simp only[go_sem,hw])
  refine⟨i+1,h1,by omega,?_⟩;exact ST_ [] []
 ·obtain rfl:i=l.length:=by omega
  have e1:=inF (l.length);repeat(first|refine aa_ ?_|simp only[go_sem,e1])
  refine Rm_ ?_
  exact ag_
theorem KS_(l:List Nod)(hl:l.length≤1000000):PC Tryz.prog 51 [.agg [.sl 240 false (rows aE_ l)],.agg [.sl 240 false (rows aE_ l)]] (.bool true):=by
 refine PC.fact 6 Bm_ (by simp) puA puA ?_;unfold pY_;refine bd ?_;have e0:((l.length:Int) != (l.length:Int))=false:=by simp
 repeat(first|refine aa_ ?_|simp only[go_sem,e0])
 refine Rm_ ?_
 refine ao_ (fun i:Nat=>[(5,.int .i64 i)]) (fun _=>[.var [.sl 240 false (rows aE_ l)],.var [.sl 240 false (rows aE_ l)]]) (fun i=>l.length-i) (fun i=>i≤l.length) 0 (Nat.zero_le _) ?_ ?_
 ·exact ST_ [] [0,1]
 intro i hi;refine cC_ ?_;by_cases h1:i<l.length
 ·have e1:=inT h1;have hw:=af_ h1 (by omega);have hgd:(rows aE_ l).getD i []=aE_ (nod l i):=aB_ (f:=aE_) hz_ h1;repeat(first|refine aa_ ?_|simp only[go_sem,e1])
  refine ac_ ?_;repeat(first|refine aa_ ?_|simp only[go_sem,hgd])
  refine ab_ ?_;repeat(first|refine aa_ ?_|simp only[go_sem,hw])
  refine⟨i+1,h1,by omega,?_⟩;exact ST_ [] [0,1]
 ·obtain rfl:i=l.length:=by omega
  have e1:=inF (l.length);repeat(first|refine aa_ ?_|simp only[go_sem,e1])
  refine Rm_ ?_
  exact ag_
theorem Ak_(s:ai_)(h:CpR s):PC Tryz.prog 13 [.agg (aj_ s.a),.agg (aj_ s.a)] (.bool true):=by
 refine PC.fact 9 Bq_ (by simp) puA puA ?_;unfold qc_;refine bd ?_
 have c1:PC Tryz.prog 48 [.sl 1 false (aq_ .u64 s.cfg.bals),.sl 1 false (aq_ .u64 s.cfg.bals)] (.bool true):=by
  have:=oP_ s.cfg.bals s.cfg.bals false false (by have:=h.bc;omega) (by have:=h.bc;omega);simpa using this
 have c2:=KV_ s.latest h.bl
 have c3:PC Tryz.prog 50 [.sl 1 false (aq_ .i64 s.eqv),.sl 1 false (aq_ .i64 s.eqv)] (.bool true):=by
  have:=jN_ s.eqv s.eqv false false (by have:=h.be;omega) (by have:=h.be;omega);simpa using this
 have c4:=KS_ s.nodes h.bn;have c5:=KU_ s.tabs (by have:=h.bt;omega) h.bb;have e0:∀n:Nat,((n:Int) != (n:Int))=false:=fun n=>by simp
 have e00:∀n:Int,(n != n)=false:=fun n=>by simp
 repeat(first|refine aa_ ?_|simp only[go_sem,e0,e00])
 refine Sv_ c1 ?_
 refine Rm_ ?_
 refine Sv_ c2 ?_
 refine ae_ c3 ?_;repeat(first|refine aa_ ?_|simp only[go_sem,e0,e00])
 refine ae_ c4 ?_;repeat(first|refine aa_ ?_|simp only[go_sem,e0,e00])
 refine Sv_ c5 ?_
 refine ab_ ?_;have hba:=h.ba;have hbo:=h.bo;try refine aa_ ?_
 refine ao_ (fun i:Nat=>[(7,.int .i64 i),(5,.dead),(6,.dead)]) (fun _=>[.var (aj_ s.a),.var (aj_ s.a)]) (fun i=>s.early.length-i) (fun i=>i≤s.early.length) 0 (Nat.zero_le _) ?_ ?_
 ·exact ST_ [] [0,1]
 intro i hi;refine cC_ ?_;by_cases h1:i<s.early.length
 ·have e1:=inT h1
  have hw:=af_ h1 (by omega);have hgd:(rows aG_.c s.early).getD i []=bi_ (dD_ s.early i).a:=aB_ (f:=aG_.c) default h1;have hm:dD_ s.early i∈s.early:=dA_ default h1
  have c6:PC Tryz.prog 53 [.agg (bi_ (dD_ s.early i).a),.agg (bi_ (dD_ s.early i).a)] (.bool true):=by
   have:=EM_ (dD_ s.early i).a (dD_ s.early i).a (dD_ s.early i).vals (dD_ s.early i).vals false false rfl rfl (by have:=h.bv _ hm;omega) (by have:=h.bv _ hm;omega);simpa using this
  repeat(first|refine aa_ ?_|simp only[go_sem,e1])
  refine ac_ ?_;repeat(first|refine aa_ ?_|simp only[go_sem,hgd])
  refine as_ (c6) ?_;try refine aa_ ?_
  refine ab_ ?_;repeat(first|refine aa_ ?_|simp only[go_sem,hw])
  refine⟨i+1,h1,by omega,?_⟩;exact ST_ [] [0,1]
 ·obtain rfl:i=s.early.length:=by omega
  have e1:=inF (s.early.length);clear hi h1;repeat(first|refine aa_ ?_|simp only[go_sem,e1])
  refine Rm_ ?_
  refine ao_ (fun i:Nat=>[(8,.int .i64 i),(5,.dead),(6,.dead)]) (fun _=>[.var (aj_ s.a),.var (aj_ s.a)]) (fun i=>s.orph.length-i) (fun i=>i≤s.orph.length) 0 (Nat.zero_le _) ?_ ?_
  ·exact ST_ [] [0,1]
  clear e1;intro i hi;refine cC_ ?_;by_cases h1:i<s.orph.length
  ·have e1:=inT h1;have hw:=af_ h1 (by omega);have hgd:(rows al_ s.orph).getD i []=al_ (ce_ s.orph i):=aB_ (f:=al_) cg_ h1;repeat(first|refine aa_ ?_|simp only[go_sem,e1])
   refine ac_ ?_;repeat(first|refine aa_ ?_|simp only[go_sem,hgd])
   refine ab_ ?_;repeat(first|refine aa_ ?_|simp only[go_sem,hw])
   refine⟨i+1,h1,by omega,?_⟩;exact ST_ [] [0,1]
  ·obtain rfl:i=s.orph.length:=by omega
   have e1:=inF (s.orph.length);repeat(first|refine aa_ ?_|simp only[go_sem,e1])
   refine Rm_ ?_
   exact ag_
end Go.Proofs.YtkgimpdgncakjaaGreat
