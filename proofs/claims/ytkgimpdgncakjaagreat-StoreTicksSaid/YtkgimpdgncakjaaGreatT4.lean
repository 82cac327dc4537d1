/-
 My texts Qh, Qi, joined.
-/
import Derived.Test.YtkgimpdgncakjaaGreatT3
import Derived.Test.YtkgimpdgncakjaaGreatW6
import Derived.Test.YtkgimpdgncakjaaGreatV1
namespace Go.Proofs.YtkgimpdgncakjaaGreat
open Go Go.FH Go.RowKit
set_option linter.unusedVariables false
set_option linter.unusedSimpArgs false
set_option maxRecDepth 8000
set_option maxHeartbeats 4000000
theorem Ak_(n lo hi:Int):PC Tryz.prog 132 [.int .i64 n,.int .i64 lo,.int .i64 hi] (.bool (wit n lo hi)):=by
 refine PC.fact 7 ub_ (by simp) puA puA ?_;unfold lK_;refine bd ?_;unfold wit;by_cases h0:lo≤n
 ·have e0:decide (n ≥ lo)=true:=decide_eq_true h0;have e1:decide (lo≤n)=true:=decide_eq_true h0;repeat(first|refine aa_ ?_|simp only[go_sem,e0,e1])
  exact af_
 ·have e0:decide (n ≥ lo)=false:=decide_eq_false h0;have e1:decide (lo≤n)=false:=decide_eq_false h0;repeat(first|refine aa_ ?_|simp only[go_sem,e0,e1])
  exact af_
theorem ys_(c:bt_)(hb:c.bals.length≤1000000)(hu:∀x∈c.bals,0≤x∧x<18446744073709551616):PC Tryz.prog 56 [.agg (bf_ c.a)] (.int .i64 (hi_ c)):=by
 refine Sm.val (F:=fun r:Int=>PC Tryz.prog 56 [.agg (bf_ c.a)] (.int .i64 r)) ?_;refine fU_ 4 mY_ (by simp) puA (fun r _=>puA) ?_;unfold hr_;refine bd ?_;have c0:=uq_ c.gen;have c1:PC Tryz.prog 96 [.agg (aT_ ⟨cp0,.sl 1 false (aq_ .u64 c.bals)⟩),.int .i64 c.bals.length] (.int .i64 (eu_ ⟨⟨0,c.gen⟩,c.bals⟩ c.bals.length)):=tm_ ⟨cp0,c.bals⟩ c.bals.length hb hu;generalize hV:eu_ ⟨⟨0,c.gen⟩,c.bals⟩ c.bals.length=V at *;have lt:∀ (a b:Int),decide (a > b)=decide (b<a):=fun _ _=>rfl
 have ge:∀ (a b:Int),decide (a ≥ b)=decide (b≤a):=fun _ _=>rfl
 iterate 5 (repeat'(first|refine bm_ ?_|(refine aS_ (fun h=>?_) (fun h=>?_)<;>try(exact absurd h (by decide)))|refine cr_ (fun h=>?_) (fun h=>?_));all_goals try refine bu_ (Ak_ _ _ _) ?_)
 repeat'(first|refine bm_ ?_|(refine aS_ (fun h=>?_) (fun h=>?_)<;>try(exact absurd h (by decide)))|refine cr_ (fun h=>?_) (fun h=>?_))
 all_goals try refine bu_ c0 ?_
 all_goals repeat'(first|refine bm_ ?_|(refine aS_ (fun h=>?_) (fun h=>?_)<;>try(exact absurd h (by decide)))|refine cr_ (fun h=>?_) (fun h=>?_))
 all_goals try refine bu_ c1 ?_
 all_goals repeat'(first|refine bm_ ?_|(refine aS_ (fun h=>?_) (fun h=>?_)<;>try(exact absurd h (by decide)))|refine cr_ (fun h=>?_) (fun h=>?_))
 all_goals try(refine vm_ (by first|rfl|exact evd) (by first|rfl|((try simp only[go_sem,Nat.reduceAdd,Nat.reduceSub,Nat.reduceMul,Nat.reduceLT,Nat.reduceLeDiff,Nat.reduceEqDiff,reduceIte,Int.reduceToNat,Int.reduceLT,Int.reduceLE,Int.reduceEq,Int.reduceNeg,reduceCtorEq,Int.reduceBEq,Int.reduceBNe]);rfl)) ?_;(try simp only[Bool.not_false,Bool.not_true,decide_eq_true_eq,decide_eq_false_iff_not,Bool.not_eq_true',Bool.not_eq_false',beq_iff_eq,bne_iff_ne,beq_eq_false_iff_ne,bne_eq_false_iff_eq,ne_eq,Bool.not_eq_true,Bool.not_eq_false,Bool.or_eq_true,Bool.and_eq_true,Bool.or_eq_false_iff]at *);(simp only[hi_, *,reduceIte,Bool.true_eq_false,Bool.false_eq_true,not_true_eq_false,not_false_eq_true,ne_eq,true_and,and_true,false_and,and_false,true_or,or_true,false_or,or_false,Int.reduceEq,if_false,if_true,eq_self,reduceCtorEq,decide_true,decide_false,Bool.and_true,Bool.true_and,Bool.and_false,Bool.false_and,Bool.or_true,Bool.true_or,Bool.or_false,Bool.false_or,Bool.not_true,Bool.not_false]))
 all_goals(repeat' split)
 all_goals first|rfl|omega|contradiction
theorem IN_(c:bt_)(hb:c.bals.length≤1000000)(hu:∀x∈c.bals,0≤x∧x<18446744073709551616):PC Tryz.prog 54 [.agg (bf_ c.a)] (.tup [.agg (ai_ (uH_ c).1.a),.int .i64 (uH_ c).2]):=by
 refine PC.fact 8 BR_ (by simp) puA puA ?_;unfold rt_;refine bd ?_;have c1:=ys_ c hb hu;have c2:PC Tryz.prog 131 [.agg (ap_ (wO_ c.gen)),.int .i64 1] (.agg [.sl 240 false (rows aG_ [⟨wO_ c.gen,-1,1⟩])]):=Fm_ (wO_ c.gen) 1
 have hcp:hi_ c=0→CpR (ea_ c):=fun h=>by
  have hl:(c.bals.length:Int)≤1024:=by
   unfold hi_ at h;by_cases q:1024<(c.bals.length:Int)
   ·(repeat' split at h)<;>first|omega|contradiction
   ·omega
  exact⟨by simp[ea_],by simp[ea_];omega,by simp[ea_],by simp[ea_],fun t ht=>by simp[ea_]at ht;subst ht;exact hb,by simp[ea_],by simp[ea_],fun a ha=>by simp[ea_]at ha,hb⟩
 have c3:=fun h=>Gh_ (ea_ c) (hcp h)
 unfold uH_;generalize hi_ c=V at *;try refine aa_ ?_
 refine ah_ c1 ?_;by_cases q:V=0
 case neg=>
  have e1:(V != 0)=true:=by simp[q]
  rw[if_neg q];repeat(first|refine aa_ ?_|simp only[go_sem,e1])
  refine PH_ ?_
  exact jo_ (by first|rfl|exact evd) (by first|rfl|exact evd)
 have e1:(V != 0)=false:=by simp[q]
 have c3:=c3 q;rw[if_pos q];have hrep:List.replicate c.bals.length (aZ_ ⟨false,0,rt0⟩)=rows aZ_ (List.replicate c.bals.length eh_):=yU_ _;have ht:List.take c.bals.length (rows aZ_ (List.replicate c.bals.length ⟨false,0,rt0⟩))=rows aZ_ (List.replicate c.bals.length ⟨false,0,rt0⟩):=List.take_of_length_le (by simp);repeat(first|refine aa_ ?_|simp only[go_sem,e1])
 refine ab_ ?_;repeat(first|refine aa_ ?_|simp only[go_sem,hrep,AF_])
 refine au_ (c2) ?_;repeat(first|refine md_ ?_|simp only[go_sem,hrep,AF_])
 refine MC_ [4] ?_;simp only[evZ,Cl_];(try simp only[go_sem,Nat.reduceAdd,Nat.reduceSub,Nat.reduceMul,Nat.reduceLT,Nat.reduceLeDiff,Nat.reduceEqDiff,reduceIte,Int.reduceToNat,Int.reduceLT,Int.reduceLE,Int.reduceEq,Int.reduceNeg,reduceCtorEq,Int.reduceBEq,Int.reduceBNe,List.length_replicate,ht])
 try refine aa_ ?_
 refine ir_ c3 ⟨MJ_ (ea_ c).a (rows aw_.c (ea_ c).tabs),trivial⟩ ⟨GG_ (ea_ c),trivial⟩ ?_;try refine aa_ ?_
 exact af_
theorem Jp_(l:List Vot)(hl:l.length≤1000000):PC Tryz.prog 49 [.sl 34 false (rows aZ_ l),.sl 34 false (rows aZ_ l)] (.bool true):=by
 refine PC.fact 6 qG_ (by simp) puA puA ?_;unfold jI_;refine bd ?_;have e0:((l.length:Int) != (l.length:Int))=false:=by simp
 repeat(first|refine aa_ ?_|simp only[go_sem,e0])
 refine PG_ ?_
 refine am_ (fun i:Nat=>[(5,.int .i64 i)]) (fun _=>[]) (fun i=>l.length-i) (fun i=>i≤l.length) 0 (Nat.zero_le _) ?_ ?_
 ·exact QV_ [] []
 intro i hi;(try simp only[ao_,ar_,List.set_cons_zero,List.set_cons_succ])
 by_cases h1:i<l.length
 ·have e1:decide ((i:Int)<((l.length:Nat):Int))=true:=decide_eq_true (by omega);have hw:=ae_ h1 (by omega);have hgd:(rows aZ_ l).getD i []=aZ_ (vot l i):=aK_ (f:=aZ_) eh_ h1;repeat(first|refine aa_ ?_|simp only[go_sem,e1])
  refine ac_ ?_;repeat(first|refine aa_ ?_|simp only[go_sem,hgd])
  refine ab_ ?_;repeat(first|refine aa_ ?_|simp only[go_sem,hw])
  refine⟨i+1,h1,by omega,?_⟩;exact QV_ [] []
 ·obtain rfl:i=l.length:=by omega
  have e1:decide (((l.length:Nat):Int)<((l.length:Nat):Int))=false:=decide_eq_false (by omega);repeat(first|refine aa_ ?_|simp only[go_sem,e1])
  refine PG_ ?_
  exact af_
theorem Jo_(l:List aw_)(hl:l.length≤1000000)(hb:∀t∈l,t.bals.length≤1000000):PC Tryz.prog 52 [.sl 34 false (rows aw_.c l),.sl 34 false (rows aw_.c l)] (.bool true):=by
 refine PC.fact 6 pH_ (by simp) puA puA ?_;unfold iL_;refine bd ?_;have e0:((l.length:Int) != (l.length:Int))=false:=by simp
 repeat(first|refine aa_ ?_|simp only[go_sem,e0])
 refine PG_ ?_
 refine am_ (fun i:Nat=>[(5,.int .i64 i)]) (fun _=>[]) (fun i=>l.length-i) (fun i=>i≤l.length) 0 (Nat.zero_le _) ?_ ?_
 ·exact QV_ [] []
 intro i hi;(try simp only[ao_,ar_,List.set_cons_zero,List.set_cons_succ])
 by_cases h1:i<l.length
 ·have e1:decide ((i:Int)<((l.length:Nat):Int))=true:=decide_eq_true (by omega)
  have hw:=ae_ h1 (by omega);have hgd:(rows aw_.c l).getD i []=aT_ (tab l i).a:=aK_ (f:=aw_.c) default h1;have hm:tab l i∈l:=dN_ default h1
  have c1:PC Tryz.prog 130 [.agg (aT_ (tab l i).a),.agg (aT_ (tab l i).a)] (.bool true):=by
   have:=De_ (tab l i).a (tab l i).a (tab l i).bals (tab l i).bals false false rfl rfl (by have:=hb _ hm;omega) (by have:=hb _ hm;omega);simpa using this
  repeat(first|refine aa_ ?_|simp only[go_sem,e1])
  refine ac_ ?_;repeat(first|refine aa_ ?_|simp only[go_sem,hgd])
  refine au_ (c1) ?_;try refine aa_ ?_
  refine ab_ ?_;repeat(first|refine aa_ ?_|simp only[go_sem,hw])
  refine⟨i+1,h1,by omega,?_⟩;exact QV_ [] []
 ·obtain rfl:i=l.length:=by omega
  have e1:decide (((l.length:Nat):Int)<((l.length:Nat):Int))=false:=decide_eq_false (by omega);repeat(first|refine aa_ ?_|simp only[go_sem,e1])
  refine PG_ ?_
  exact af_
theorem Jn_(l:List Nod)(hl:l.length≤1000000):PC Tryz.prog 51 [.agg [.sl 240 false (rows aG_ l)],.agg [.sl 240 false (rows aG_ l)]] (.bool true):=by
 refine PC.fact 6 zI_ (by simp) puA puA ?_;unfold pg_;refine bd ?_;have e0:((l.length:Int) != (l.length:Int))=false:=by simp
 repeat(first|refine aa_ ?_|simp only[go_sem,e0])
 refine PG_ ?_
 refine am_ (fun i:Nat=>[(5,.int .i64 i)]) (fun _=>[.var [.sl 240 false (rows aG_ l)],.var [.sl 240 false (rows aG_ l)]]) (fun i=>l.length-i) (fun i=>i≤l.length) 0 (Nat.zero_le _) ?_ ?_
 ·exact QV_ [] [0,1]
 intro i hi;(try simp only[ao_,ar_,List.set_cons_zero,List.set_cons_succ])
 by_cases h1:i<l.length
 ·have e1:decide ((i:Int)<((l.length:Nat):Int))=true:=decide_eq_true (by omega);have hw:=ae_ h1 (by omega);have hgd:(rows aG_ l).getD i []=aG_ (nod l i):=aK_ (f:=aG_) dE_ h1;repeat(first|refine aa_ ?_|simp only[go_sem,e1])
  refine ac_ ?_;repeat(first|refine aa_ ?_|simp only[go_sem,hgd])
  refine ab_ ?_;repeat(first|refine aa_ ?_|simp only[go_sem,hw])
  refine⟨i+1,h1,by omega,?_⟩;exact QV_ [] [0,1]
 ·obtain rfl:i=l.length:=by omega
  have e1:decide (((l.length:Nat):Int)<((l.length:Nat):Int))=false:=decide_eq_false (by omega);repeat(first|refine aa_ ?_|simp only[go_sem,e1])
  refine PG_ ?_
  exact af_
theorem Jm_(s:aj_)(h:CpR s):PC Tryz.prog 13 [.agg (ai_ s.a),.agg (ai_ s.a)] (.bool true):=by
 refine PC.fact 9 zM_ (by simp) puA puA ?_;unfold pk_;refine bd ?_
 have c1:PC Tryz.prog 48 [.sl 1 false (aq_ .u64 s.cfg.bals),.sl 1 false (aq_ .u64 s.cfg.bals)] (.bool true):=by
  have:=nY_ s.cfg.bals s.cfg.bals false false (by have:=h.bc;omega) (by have:=h.bc;omega);simpa using this
 have c2:=Jp_ s.latest h.bl
 have c3:PC Tryz.prog 50 [.sl 1 false (aq_ .i64 s.eqv),.sl 1 false (aq_ .i64 s.eqv)] (.bool true):=by
  have:=jp_ s.eqv s.eqv false false (by have:=h.be;omega) (by have:=h.be;omega);simpa using this
 have c4:=Jn_ s.nodes h.bn;have c5:=Jo_ s.tabs (by have:=h.bt;omega) h.bb;have e0:∀n:Nat,((n:Int) != (n:Int))=false:=fun n=>by simp
 have e00:∀n:Int,(n != n)=false:=fun n=>by simp
 repeat(first|refine aa_ ?_|simp only[go_sem,e0,e00])
 refine Qy_ c1 ?_
 refine PG_ ?_
 refine Qy_ c2 ?_
 refine ah_ c3 ?_;repeat(first|refine aa_ ?_|simp only[go_sem,e0,e00])
 refine ah_ c4 ?_;repeat(first|refine aa_ ?_|simp only[go_sem,e0,e00])
 refine Qy_ c5 ?_
 refine ab_ ?_;have hba:=h.ba;have hbo:=h.bo;try refine aa_ ?_
 refine am_ (fun i:Nat=>[(7,.int .i64 i),(5,.dead),(6,.dead)]) (fun _=>[.var (ai_ s.a),.var (ai_ s.a)]) (fun i=>s.early.length-i) (fun i=>i≤s.early.length) 0 (Nat.zero_le _) ?_ ?_
 ·exact QV_ [] [0,1]
 intro i hi;(try simp only[ao_,ar_,List.set_cons_zero,List.set_cons_succ])
 by_cases h1:i<s.early.length
 ·have e1:decide ((i:Int)<((s.early.length:Nat):Int))=true:=decide_eq_true (by omega)
  have hw:=ae_ h1 (by omega);have hgd:(rows aH_.c s.early).getD i []=aY_ (dt_ s.early i).a:=aK_ (f:=aH_.c) default h1;have hm:dt_ s.early i∈s.early:=dN_ default h1
  have c6:PC Tryz.prog 53 [.agg (aY_ (dt_ s.early i).a),.agg (aY_ (dt_ s.early i).a)] (.bool true):=by
   have:=Dc_ (dt_ s.early i).a (dt_ s.early i).a (dt_ s.early i).vals (dt_ s.early i).vals false false rfl rfl (by have:=h.bv _ hm;omega) (by have:=h.bv _ hm;omega);simpa using this
  repeat(first|refine aa_ ?_|simp only[go_sem,e1])
  refine ac_ ?_;repeat(first|refine aa_ ?_|simp only[go_sem,hgd])
  refine au_ (c6) ?_;try refine aa_ ?_
  refine ab_ ?_;repeat(first|refine aa_ ?_|simp only[go_sem,hw])
  refine⟨i+1,h1,by omega,?_⟩;exact QV_ [] [0,1]
 ·obtain rfl:i=s.early.length:=by omega
  have e1:decide (((s.early.length:Nat):Int)<((s.early.length:Nat):Int))=false:=decide_eq_false (by omega);clear hi h1;repeat(first|refine aa_ ?_|simp only[go_sem,e1])
  refine PG_ ?_
  refine am_ (fun i:Nat=>[(8,.int .i64 i),(5,.dead),(6,.dead)]) (fun _=>[.var (ai_ s.a),.var (ai_ s.a)]) (fun i=>s.orph.length-i) (fun i=>i≤s.orph.length) 0 (Nat.zero_le _) ?_ ?_
  ·exact QV_ [] [0,1]
  clear e1;intro i hi;(try simp only[ao_,ar_,List.set_cons_zero,List.set_cons_succ])
  by_cases h1:i<s.orph.length
  ·have e1:decide ((i:Int)<((s.orph.length:Nat):Int))=true:=decide_eq_true (by omega);have hw:=ae_ h1 (by omega);have hgd:(rows ap_ s.orph).getD i []=ap_ (di_ s.orph i):=aK_ (f:=ap_) bR_ h1;repeat(first|refine aa_ ?_|simp only[go_sem,e1])
   refine ac_ ?_;repeat(first|refine aa_ ?_|simp only[go_sem,hgd])
   refine ab_ ?_;repeat(first|refine aa_ ?_|simp only[go_sem,hw])
   refine⟨i+1,h1,by omega,?_⟩;exact QV_ [] [0,1]
  ·obtain rfl:i=s.orph.length:=by omega
   have e1:decide (((s.orph.length:Nat):Int)<((s.orph.length:Nat):Int))=false:=decide_eq_false (by omega);repeat(first|refine aa_ ?_|simp only[go_sem,e1])
   refine PG_ ?_
   exact af_
end Go.Proofs.YtkgimpdgncakjaaGreat
