/-
 My texts Nd, Ne, joined.
-/
import Derived.Test.YtkgimpdgncakjaaGreatV8
import Derived.Test.YtkgimpdgncakjaaGreatW6
namespace Go.Proofs.YtkgimpdgncakjaaGreat
open Go Go.FH Go.RowKit
set_option linter.unusedVariables false
set_option linter.unusedSimpArgs false
set_option maxRecDepth 8000
set_option maxHeartbeats 4000000
theorem AM_(x:Sta)(v:AV):(aD_ x).set 151 v=aD_ { x with rets:=v }:=by
 simp only[aD_,List.set_append,bc_,List.length_cons,Nat.reduceSub,Nat.reduceLT,if_false,List.set_cons_succ,List.set_cons_zero]
theorem AL_(x:Sta):(aD_ x).getD 151 .dead=x.rets:=by
 simp only[aD_,List.getD_eq_getElem?_getD,List.getElem?_append,bc_,List.length_cons,Nat.reduceSub,Nat.reduceLT,if_false,List.getElem?_cons_succ,List.getElem?_cons_zero,Option.getD_some]
theorem gq_(l:List Req):List.take l.length (rows aJ_ l)=rows aJ_ l:=List.take_of_length_le (by simp)
theorem uL_(s:aI_)(h:StR s.sto)(r:Rt):PC Tryz.prog 245 [.agg (aD_ s.a),.agg (rtc r)] (.bool (uK_ s.sto r)):=by
 refine PC.fact 6 ou_ (by simp) puA puA ?_;unfold ic_;refine bd ?_;have c1:=bv_ s.sto.nodes r h.bn;have b1:=cq_ s.sto.nodes r;unfold uK_;generalize an_ s.sto.nodes r=I at *;try refine aa_ ?_
 refine ah_ c1 ?_;by_cases q:0≤I
 ·have e1:decide (0≤I)=true:=decide_eq_true q;have hg:=bD_ (t:=s.sto.nodes) (i:=I.toNat) (by omega);repeat(first|refine aa_ ?_|simp only[go_sem,e1,hg])
  have e2:((nod s.sto.nodes I.toNat).status==0)=decide ((nod s.sto.nodes I.toNat).status=0):=by rw[Bool.eq_iff_iff];simp
  refine⟨_,(by first|rfl|exact evd),.inl ?_⟩;(try simp only[go_sem,Nat.reduceAdd,Nat.reduceSub,Nat.reduceMul,Nat.reduceLT,Nat.reduceLeDiff,Nat.reduceEqDiff,reduceIte,Int.reduceToNat,Int.reduceLT,Int.reduceLE,Int.reduceEq,Int.reduceNeg,reduceCtorEq,Int.reduceBEq,Int.reduceBNe,e2])
  all_goals rfl
 ·have e1:decide (0≤I)=false:=decide_eq_false q;repeat(first|refine aa_ ?_|simp only[go_sem,e1])
  exact af_
theorem LG_(s:aI_)(h:StR s.sto)(r:Rt):as_ Tryz.prog 245 [.agg (aD_ { s.a with rets:=.hs 35 0 0 s.rets.length }),.agg (rtc r)] [.vec 35 (rows aJ_ s.rets)] (.bool (uK_ s.sto r)) [.vec 35 (rows aJ_ s.rets)]:=by
 refine as_.lend rfl ?_;(try simp only[go_sem,gq_,List.length_cons,List.length_nil,List.range_succ,List.range_zero])
 exact uL_ s h r
theorem IG_(s:aI_)(r:Rt)(k:Int)(hb:s.reqs.length≤1000000):PC Tryz.prog 246 [.agg (aD_ s.a),.agg (rtc r),.int .i64 k] (.agg (aD_ (nV_ s r k).a)):=by
 refine PC.fact 8 pD_ (by simp) puA puA ?_;unfold kc_;refine bd ?_;have hsn:rows aJ_ s.reqs++[aJ_ ⟨s.tag,r,k,0⟩]=rows aJ_ (s.reqs++[⟨s.tag,r,k,0⟩]):=bP_ aJ_ s.reqs _;have ht:List.take (s.reqs.length+1) (rows aJ_ (s.reqs++[⟨s.tag,r,k,0⟩]))=rows aJ_ (s.reqs++[⟨s.tag,r,k,0⟩]):=List.take_of_length_le (by simp);repeat(first|refine aa_ ?_|simp only[go_sem,hsn,gq_])
 refine⟨_,(by first|rfl|exact evd),.inl ?_⟩;(try simp only[go_sem,Nat.reduceAdd,Nat.reduceSub,Nat.reduceMul,Nat.reduceLT,Nat.reduceLeDiff,Nat.reduceEqDiff,reduceIte,Int.reduceToNat,Int.reduceLT,Int.reduceLE,Int.reduceEq,Int.reduceNeg,reduceCtorEq,Int.reduceBEq,Int.reduceBNe,ht])
 all_goals rfl
theorem LE_(s:aI_)(r:Rt)(k:Int)(hb:s.reqs.length≤1000000)(l:List Req)(n:Nat):as_ Tryz.prog 246 [.agg (aD_ { s.a with rets:=.hs 35 0 0 n }),.agg (rtc r),.int .i64 k] [.vec 35 (rows aJ_ l)] (.agg (aD_ { (nV_ s r k).a with rets:=.hs 35 0 0 n })) [.vec 35 (rows aJ_ l)]:=by
 refine as_.fact 8 pD_ (by simp) ?_ (by simp);unfold kc_;refine bd ?_;have hsn:rows aJ_ s.reqs++[aJ_ ⟨s.tag,r,k,0⟩]=rows aJ_ (s.reqs++[⟨s.tag,r,k,0⟩]):=bP_ aJ_ s.reqs _;have ht:List.take (s.reqs.length+1) (rows aJ_ (s.reqs++[⟨s.tag,r,k,0⟩]))=rows aJ_ (s.reqs++[⟨s.tag,r,k,0⟩]):=List.take_of_length_le (by simp);repeat(first|refine aa_ ?_|simp only[go_sem,hsn,gq_])
 refine by_ [2,3,4,5,6,7] [0] _ (by simp) (by first|rfl|exact evd) (by simp) rfl (by simp) (by simp) evd ?_;(try simp only[go_sem,Nat.reduceAdd,Nat.reduceSub,Nat.reduceMul,Nat.reduceLT,Nat.reduceLeDiff,Nat.reduceEqDiff,reduceIte,Int.reduceToNat,Int.reduceLT,Int.reduceLE,Int.reduceEq,Int.reduceNeg,reduceCtorEq,Int.reduceBEq,Int.reduceBNe,ht])
 all_goals rfl
theorem Fh_(s:aI_)(l:List Rt)(h:StR s.sto)(hb:s.reqs.length+l.length≤1000000):PC Tryz.prog 217 [.agg (aD_ s.a),.sl 32 false (rows rtc l)] (.agg (aD_ (Fg_ s l).a)):=by
 refine PC.fact 6 zR_ (by simp) puA puA ?_;unfold po_;refine bd ?_;have hz:ay_ (fR_ l) s 0=s:=rfl
 have hS:∀k,(ay_ (fR_ l) s k).sto=s.sto∧(ay_ (fR_ l) s k).reqs.length≤s.reqs.length+k:=by
  intro k;induction k with
  |zero=>exact⟨rfl,Nat.le_refl _⟩
  | succ k ih =>
    rw[br_];generalize ay_ (fR_ l) s k=s1 at *;unfold fR_;split
    ·refine⟨ih.1,?_⟩;unfold nV_;simp only[List.length_append,List.length_singleton];omega
    ·exact⟨ih.1,by omega⟩
 show Tri _ _ _ _ (PQ _ (.agg (aD_ (ay_ (fR_ l) s l.length).a))) _ _
 try refine aa_ ?_
 refine am_ (fun i:Nat=>[(5,.int .i64 i)]) (fun i=>[.var (aD_ (ay_ (fR_ l) s i).a),.var (aD_ dG_)]) (fun i=>l.length-i) (fun i=>i≤l.length) 0 (Nat.zero_le _) ?_ ?_
 ·rw[hz];exact QV_ [] [0,1]
 intro i hi;(try simp only[ao_,ar_,List.set_cons_zero,List.set_cons_succ])
 by_cases h1:i<l.length
 ·have e1:decide ((i:Int)<((l.length:Nat):Int))=true:=decide_eq_true (by omega)
  have hw:=ae_ h1 (by omega);have hgd:=aK_ (f:=rtc) rt0 h1;have hs:=br_ (fR_ l) s i;obtain⟨hS1,hS2⟩:=hS i;have hc:fR_ l i (ay_ (fR_ l) s i)=if uK_ (ay_ (fR_ l) s i).sto (l.getD i rt0)=true then nV_ (ay_ (fR_ l) s i) (l.getD i rt0) 0 else ay_ (fR_ l) s i:=rfl
  have c1:=uL_ (ay_ (fR_ l) s i) (by rw[hS1];exact h) (l.getD i rt0);have c2:=IG_ (ay_ (fR_ l) s i) (l.getD i rt0) 0 (by omega);generalize ay_ (fR_ l) s i=s1 at *;generalize l.getD i rt0=r at *;generalize uK_ s1.sto r=B at *;rw[hc]at hs;repeat(first|refine aa_ ?_|simp only[go_sem,e1])
  refine ac_ ?_;repeat(first|refine aa_ ?_|simp only[go_sem,hgd])
  refine au_ (c1) ?_;cases B with
  | true =>
    rw[if_pos rfl]at hs;try refine aa_ ?_
    refine ac_ ?_;repeat(first|refine aa_ ?_|simp only[go_sem,hgd])
    refine au_ (c2) ?_;repeat(first|refine aa_ ?_|simp only[go_sem,hw])
    refine⟨i+1,h1,by omega,?_⟩;rw[hs];exact QV_ [] [0,1]
  | false =>
    rw[if_neg (by simp)]at hs;try refine aa_ ?_
    refine ab_ ?_;repeat(first|refine aa_ ?_|simp only[go_sem,hw])
    refine⟨i+1,h1,by omega,?_⟩;rw[hs];exact QV_ [] [0,1]
 ·obtain rfl:i=l.length:=by omega
  have e1:decide (((l.length:Nat):Int)<((l.length:Nat):Int))=false:=decide_eq_false (by omega);repeat(first|refine aa_ ?_|simp only[go_sem,e1])
  refine PG_ ?_
  exact af_
theorem ML_:WkC (ai_ bI_) (ai_ de_.a):=by
 unfold bI_ de_ aj_.a ai_;dsimp only;refine WkC.app ?_ ?_
 ·unfold ih_ bt_.a bf_;dsimp only;exact(WkC.refl _).app (.same _ (.same _ ((WkC.refl _).app ((WkC.refl _).app (.one (Wk.empty _ _ _) fun h=>h)))))
 ·exact .cons (Wk.empty _ _ _) (fun h=>h) (.cons (Wk.empty _ _ _) (fun h=>h) ((WkC.refl _).app ((WkC.refl _).app (.cons (Wk.empty _ _ _) (fun h=>h) (.cons (Wk.empty _ _ _) (fun h=>h) (.cons (Wk.empty _ _ _) (fun h=>h) (.same _ ((WkC.refl _).app (.one (Wk.empty _ _ _) fun h=>h)))))))))
theorem GZ_:Wk (.agg (aD_ dG_)) (.agg (aD_ DJ_.a)):=by
 refine Wk.agg ?_;unfold dG_ DJ_ aI_.a aD_;dsimp only;exact ML_.app (.cons (Wk.empty _ _ _) (fun h=>h) (.cons (Wk.empty _ _ _) (fun h=>h) (WkC.refl _)))
theorem Bj_:PuL (aD_ dG_):=by simp[dG_,aD_,cB_,PuL,Pu,dh_,bI_,ai_,gA_,cc_,gv_,dv_,ih_,bf_,cp0,js_]
theorem Fc_(s:aI_)(v:Vdt)(hb:s.reqs.length≤1000000):PC Tryz.prog 248 [.agg (aD_ s.a),.agg (cl_ v)] (.tup [.agg (aJ_ (dj_ s v).1),.agg (aD_ (dj_ s v).2.1.a),.int .i64 (dj_ s v).2.2]):=by
 refine PC.fact 9 wF_ (by simp) puA ⟨dI_ _,aI_.pul _,trivial,trivial⟩ ?_;unfold nL_;refine bd ?_;obtain⟨R,hR⟩:∃R,R=dj_ s v:=⟨_,rfl⟩
 rw[←hR];unfold dj_ cD_ at hR;try refine aa_ ?_
 refine am_ (fun i:Nat=>[(7,.int .i64 i)]) (fun _=>[.var (aD_ s.a),.var (cl_ v),.var (aJ_ hk_),.var (aD_ dG_)]) (fun i=>s.reqs.length-i)
  (fun i=>i≤s.reqs.length∧R=(match eF_ (fun i=>decide ((dk_ s.reqs i).tag=v.tag)) (s.reqs.length-i) i with
 |some i=>(dk_ s.reqs i,OT_ s (qg_ s.reqs i),0)
 |none=>(hk_,DJ_,23))) 0 ⟨Nat.zero_le _,hR⟩ ?_ ?_
 ·exact QV_ [] [0,1,2,3]
 clear hR;rintro i ⟨hi,hn⟩;(try simp only[ao_,ar_,List.set_cons_zero,List.set_cons_succ])
 by_cases h1:i<s.reqs.length
 ·have e1:decide ((i:Int)<((s.reqs.length:Nat):Int))=true:=decide_eq_true (by omega)
  have hw:=ae_ h1 (by omega);have hgd:(rows aJ_ s.reqs).getD i []=aJ_ (dk_ s.reqs i):=aK_ (f:=aJ_) hk_ h1;by_cases q:(dk_ s.reqs i).tag=v.tag
  ·rw[gm_ h1 (decide_eq_true q)]at hn;dsimp only at hn;generalize hrq:dk_ s.reqs i=r at *;have e2:(r.tag==v.tag)=true:=by simp[q]
   have hw1:IntKind.i64.wrap ((i:Int)+1)=((i+1:Nat):Int):=hw;have ht1:List.take i (rows aJ_ s.reqs)=rows aJ_ (s.reqs.take i):=mN_ _ _ _;have ht2:List.drop (i+1) (rows aJ_ s.reqs)=rows aJ_ (s.reqs.drop (i+1)):=mM_ _ _ _;have ht3:rows aJ_ (s.reqs.take i)++rows aJ_ (s.reqs.drop (i+1))=rows aJ_ (qg_ s.reqs i):=vd_ _ _ _;have ht4:(s.reqs.take i).length+(s.reqs.drop (i+1)).length=(qg_ s.reqs i).length:=by unfold qg_;rw[List.length_append]
   have ht5:List.take (s.reqs.length-(i+1)) (rows aJ_ (s.reqs.drop (i+1)))=rows aJ_ (s.reqs.drop (i+1)):=List.take_of_length_le (by simp);have hlo:(qg_ s.reqs i).length≤s.reqs.length:=(GU_ _ _).1;subst hn;dsimp only;repeat(first|refine aa_ ?_|simp only[go_sem,e1])
   refine ac_ ?_;repeat(first|refine aa_ ?_|simp only[go_sem,hgd,e2])
   refine ac_ ?_;repeat(first|refine aa_ ?_|simp only[go_sem,hgd,hw1,ht1,ht2,ht3,ht4,ht5])
   refine⟨_,(by first|rfl|exact evd),.inl ?_⟩;(try simp only[go_sem,Nat.reduceAdd,Nat.reduceSub,Nat.reduceMul,Nat.reduceLT,Nat.reduceLeDiff,Nat.reduceEqDiff,reduceIte,Int.reduceToNat,Int.reduceLT,Int.reduceLE,Int.reduceEq,Int.reduceNeg,reduceCtorEq,Int.reduceBEq,Int.reduceBNe,gq_])
   all_goals rfl
  ·rw[gl_ h1 (decide_eq_false q)]at hn;have e2:((dk_ s.reqs i).tag==v.tag)=false:=by simp[q]
   repeat(first|refine aa_ ?_|simp only[go_sem,e1])
   refine ac_ ?_;repeat(first|refine aa_ ?_|simp only[go_sem,hgd,e2])
   refine ab_ ?_;repeat(first|refine aa_ ?_|simp only[go_sem,hw])
   refine⟨i+1,⟨h1,hn⟩,by omega,?_⟩;exact QV_ [] [0,1,2,3]
 ·obtain rfl:i=s.reqs.length:=by omega
  have e1:decide (((s.reqs.length:Nat):Int)<((s.reqs.length:Nat):Int))=false:=decide_eq_false (by omega);rw[gk_]at hn;dsimp only at hn;subst hn;dsimp only;repeat(first|refine aa_ ?_|simp only[go_sem,e1])
  refine PG_ ?_
  refine⟨_,(by first|rfl|exact evd),.inr ⟨.tup [.agg (aJ_ hk_),.agg (aD_ dG_),.int .i64 23],?_,?_,Wk.tup ⟨Wk.refl _,?_,Wk.refl _,trivial⟩⟩⟩
  ·exact evd
  ·exact⟨dI_ _,Bj_,trivial,trivial⟩
  ·exact GZ_
theorem rC_(s:aI_)(l:List Req)(h:StR s.sto)(hb:l.length≤1000000):PC Tryz.prog 247 [.agg (aD_ s.a),.sl 35 false (rows aJ_ l)] (.sl 35 false (rows aJ_ (io_ s.sto.nodes l))):=by
 refine PC.fact 7 wG_ (by simp) puA puA ?_;unfold nM_;refine bd ?_;have hz:ay_ (eO_ s.sto.nodes l) [] 0=[]:=rfl
 have hL:∀k,(ay_ (eO_ s.sto.nodes l) [] k).length≤k:=fun k=>by
  have:=hb_ (f:=eO_ s.sto.nodes l) (a:=[]) (fun i o=>by unfold eO_;split<;>simp) k;simpa using this
 show Tri _ _ _ _ (PQ _ (.sl 35 false (rows aJ_ (ay_ (eO_ s.sto.nodes l) [] l.length)))) _ _
 try refine aa_ ?_
 refine cP_ 5 35 ?_;simp only[go_sem];refine am_ (fun i:Nat=>[(6,.int .i64 i),(5,.hs 35 1 0 (ay_ (eO_ s.sto.nodes l) [] i).length)]) (fun i=>[.var (aD_ s.a),.vec 35 (rows aJ_ (ay_ (eO_ s.sto.nodes l) [] i))]) (fun i=>l.length-i) (fun i=>i≤l.length) 0 (Nat.zero_le _) ?_ ?_
 ·rw[hz];exact QV_ [] [0,1]
 intro i hi;have hLi:=hL i;(try simp only[ao_,ar_,List.set_cons_zero,List.set_cons_succ])
 by_cases h1:i<l.length
 ·have e1:decide ((i:Int)<((l.length:Nat):Int))=true:=decide_eq_true (by omega)
  have hw:=ae_ h1 (by omega);have hgd:(rows aJ_ l).getD i []=aJ_ (dk_ l i):=aK_ (f:=aJ_) hk_ h1;have hs:=br_ (eO_ s.sto.nodes l) [] i;have c1:=bv_ s.sto.nodes (dk_ l i).block h.bn;generalize ay_ (eO_ s.sto.nodes l) [] i=o at *;have hc:eO_ s.sto.nodes l i o=if 0≤an_ s.sto.nodes (dk_ l i).block then o++[dk_ l i]else o:=rfl
  rw[hc]at hs;generalize dk_ l i=r at *;have hsn:rows aJ_ o++[aJ_ r]=rows aJ_ (o++[r]):=bP_ aJ_ o r;repeat(first|refine aa_ ?_|simp only[go_sem,e1])
  refine ac_ ?_;repeat(first|refine aa_ ?_|simp only[go_sem,hgd])
  refine au_ (c1) ?_;try refine aa_ ?_
  by_cases q:0≤an_ s.sto.nodes r.block
  ·have e2:decide (0≤an_ s.sto.nodes r.block)=true:=decide_eq_true q;rw[if_pos q]at hs;repeat(first|refine aa_ ?_|simp only[go_sem,e2])
   refine ac_ ?_;repeat(first|refine aa_ ?_|simp only[go_sem,hgd,hsn,hw])
   refine⟨i+1,h1,by omega,?_⟩;rw[hs];exact QV_ [] [0,3]
  ·have e2:decide (0≤an_ s.sto.nodes r.block)=false:=decide_eq_false q;rw[if_neg q]at hs;repeat(first|refine aa_ ?_|simp only[go_sem,e2])
   refine ab_ ?_;repeat(first|refine aa_ ?_|simp only[go_sem,hw])
   refine⟨i+1,h1,by omega,?_⟩;rw[hs];exact QV_ [] [0,1]
 ·obtain rfl:i=l.length:=by omega
  have e1:decide (((l.length:Nat):Int)<((l.length:Nat):Int))=false:=decide_eq_false (by omega);generalize ay_ (eO_ s.sto.nodes l) [] l.length=o at *;repeat(first|refine aa_ ?_|simp only[go_sem,e1])
  refine PG_ ?_
  refine⟨_,(by first|rfl|exact evd),.inl ?_⟩;(try simp only[go_sem,Nat.reduceAdd,Nat.reduceSub,Nat.reduceMul,Nat.reduceLT,Nat.reduceLeDiff,Nat.reduceEqDiff,reduceIte,Int.reduceToNat,Int.reduceLT,Int.reduceLE,Int.reduceEq,Int.reduceNeg,reduceCtorEq,Int.reduceBEq,Int.reduceBNe,gq_])
  all_goals rfl
theorem xU_(s:aI_)(h:StR s.sto)(h1:s.reqs.length≤1000000)(h2:s.rets.length≤1000000):PC Tryz.prog 216 [.agg (aD_ s.a)] (.agg (aD_ (tE_ s).a)):=by
 refine PC.fact 3 zP_ (by simp) puA puA ?_;unfold pn_;refine bd ?_;have c1:=rC_ s s.reqs h h1;have c2:=rC_ s s.rets h h2;unfold tE_;generalize io_ s.sto.nodes s.reqs=k1 at *;generalize io_ s.sto.nodes s.rets=k2 at *;try refine aa_ ?_
 refine au_ (c1) ?_;try refine aa_ ?_
 refine au_ (c2) ?_;try refine aa_ ?_
 exact af_
theorem Er_(t b:Int)(ht:t≤9223372036854775807):PC Tryz.prog 267 [.int .i64 t,.int .u64 b] (.int .u64 (zB_ t b)):=by
 refine PC.fact 7 wD_ (by simp) puA puA ?_;unfold nK_;refine bd ?_;unfold zB_;by_cases h0:b=0
 ·subst h0;try refine aa_ ?_
  refine PH_ ?_
  exact af_
 have e0:(b==0)=false:=by simp[h0]
 rw[if_neg h0];obtain⟨R,hR⟩:∃R,R=ol_ b (t-1).toNat 1:=⟨_,rfl⟩
 rw[←hR];repeat(first|refine aa_ ?_|simp only[go_sem,e0])
 refine PG_ ?_
 refine am_ (fun x:Nat×Int=>[(6,.int .i64 ((x.1:Int)+1)),(5,.int .u64 x.2)]) (fun _=>[]) (fun x=>(t-1).toNat-x.1) (fun x=>x.1≤(t-1).toNat∧R=ol_ b ((t-1).toNat-x.1) x.2) (0,1) ⟨Nat.zero_le _,hR⟩ ?_ ?_
 ·exact QV_ [] []
 clear hR;rintro⟨i,d⟩ ⟨hi,hn⟩;dsimp only at hi hn ⊢;(try simp only[ao_,ar_,List.set_cons_zero,List.set_cons_succ])
 by_cases h1:(i:Int)+1<t
 ·have e1:decide ((i:Int)+1<t)=true:=decide_eq_true h1
  obtain⟨f,hf⟩:∃f,(t-1).toNat-i=f+1:=⟨(t-1).toNat-i-1,by omega⟩
  rw[hf]at hn;have hg:ol_ b (f+1) d=if IntKind.u64.wrap (b-d)≤d then b else ol_ b f (IntKind.u64.wrap (2*d)):=rfl
  rw[hg]at hn;have hw:IntKind.i64.wrap ((i:Int)+1+1)=((i+1:Nat):Int)+1:=by rw[aF_ (by omega) (by omega)];omega
  by_cases q:IntKind.u64.wrap (b-d)≤d
  ·have e2:decide (IntKind.u64.wrap (b-d)≤d)=true:=decide_eq_true q;rw[if_pos q]at hn;subst hn;repeat(first|refine aa_ ?_|simp only[go_sem,e1])
   refine ac_ ?_;repeat(first|refine aa_ ?_|simp only[go_sem,e2])
   refine PH_ ?_
   exact af_
  ·have e2:decide (IntKind.u64.wrap (b-d)≤d)=false:=decide_eq_false q;rw[if_neg q]at hn;repeat(first|refine aa_ ?_|simp only[go_sem,e1])
   refine ac_ ?_;repeat(first|refine aa_ ?_|simp only[go_sem,e2])
   refine ab_ ?_;repeat(first|refine aa_ ?_|simp only[go_sem,hw])
   refine⟨(i+1,IntKind.u64.wrap (2*d)),⟨by dsimp only;omega,by rw[hn,show (t-1).toNat-(i+1)=f by omega]⟩,by dsimp only;omega,?_⟩;exact QV_ [] []
 ·have e1:decide ((i:Int)+1<t)=false:=decide_eq_false h1;rw[show (t-1).toNat-i=0 by omega]at hn;have hg:ol_ b 0 d=d:=rfl;rw[hg]at hn;subst hn;repeat(first|refine aa_ ?_|simp only[go_sem,e1])
  refine PG_ ?_
  exact af_
theorem KO_(s:aI_)(h:StR s.sto)(h1:s.reqs.length+s.rets.length≤1000000):PC Tryz.prog 215 [.agg (aD_ s.a)] (.agg (aD_ (Pl_ s).a)):=by
 refine PC.fact 5 BO_ (by simp) puA puA ?_;unfold rq_;refine bd ?_;have hz:ay_ (lP_ s.rets) (ew_ s []) 0=ew_ s []:=rfl
 have hK : ∀ k, (ay_ (lP_ s.rets) (ew_ s []) k).sto = s.sto ∧ (ay_ (lP_ s.rets) (ew_ s []) k).reqs.length ≤ s.reqs.length + k ∧ (ay_ (lP_ s.rets) (ew_ s []) k).rets.length ≤ k := by
  intro k;induction k with
  |zero=>exact⟨rfl,Nat.le_refl _,Nat.le_refl _⟩
  | succ k ih =>
    rw[br_];generalize ay_ (lP_ s.rets) (ew_ s []) k=s1 at *;unfold lP_;split
    ·unfold ew_;simp only[List.length_append,List.length_singleton];exact⟨ih.1,by omega,by omega⟩
    ·split
     ·unfold nV_;simp only[List.length_append,List.length_singleton];exact⟨ih.1,by omega,by omega⟩
     ·exact⟨ih.1,by omega,by omega⟩
 show Tri _ _ _ _ (PQ _ (.agg (aD_ (ay_ (lP_ s.rets) (ew_ s []) s.rets.length).a))) _ _
 try refine aa_ ?_
 refine iB_ 0 151 35 ?_ (by rfl) (by exact AL_ _);simp only[go_sem,AM_];refine am_ (fun i:Nat=>[(4,.int .i64 i)]) (fun i=>[.var (aD_ { (ay_ (lP_ s.rets) (ew_ s []) i).a with rets:=.hs 35 2 0 (ay_ (lP_ s.rets) (ew_ s []) i).rets.length }),.var (aD_ dG_),.vec 35 (rows aJ_ (ay_ (lP_ s.rets) (ew_ s []) i).rets)]) (fun i=>s.rets.length-i) (fun i=>i≤s.rets.length) 0 (Nat.zero_le _) ?_ ?_
 ·rw[hz];unfold ew_;exact QV_ [] [0,1,2]
 intro i hi;obtain⟨hK1,hK2,hK3⟩:=hK i;(try simp only[ao_,ar_,List.set_cons_zero,List.set_cons_succ])
 by_cases h1:i<s.rets.length
 ·have e1:decide ((i:Int)<((s.rets.length:Nat):Int))=true:=decide_eq_true (by omega)
  have hw:=ae_ h1 (by omega);have hgd:(rows aJ_ s.rets).getD i []=aJ_ (dk_ s.rets i):=aK_ (f:=aJ_) hk_ h1;have hs:=br_ (lP_ s.rets) (ew_ s []) i;clear hK;generalize ay_ (lP_ s.rets) (ew_ s []) i=s1 at *;have hc:lP_ s.rets i s1=if s1.sto.now<(dk_ s.rets i).due then ew_ s1 (s1.rets++[dk_ s.rets i])else if uK_ s1.sto (dk_ s.rets i).block=true then nV_ s1 (dk_ s.rets i).block (dk_ s.rets i).tries else s1:=rfl
  rw[hc]at hs;have c1:=LG_ s1 (by rw[hK1];exact h) (dk_ s.rets i).block;have c2:=LE_ s1 (dk_ s.rets i).block (dk_ s.rets i).tries (by omega) s1.rets s1.rets.length;generalize dk_ s.rets i=r at *;have hsn:rows aJ_ s1.rets++[aJ_ r]=rows aJ_ (s1.rets++[r]):=bP_ aJ_ s1.rets r;repeat(first|refine aa_ ?_|simp only[go_sem,e1])
  refine ac_ ?_;repeat(first|refine aa_ ?_|simp only[go_sem,hgd])
  by_cases q:s1.sto.now<r.due
  ·have e2:decide (s1.sto.now<r.due)=true:=decide_eq_true q;rw[if_pos q]at hs;repeat(first|refine aa_ ?_|simp only[go_sem,e2])
   refine ac_ ?_;repeat(first|refine aa_ ?_|simp only[go_sem,hgd,hsn,hw])
   refine⟨i+1,h1,by omega,?_⟩;rw[hs];unfold ew_;exact QV_ [] [0,1,3]
  ·have e2:decide (s1.sto.now<r.due)=false:=decide_eq_false q
   rw[if_neg q]at hs;repeat(first|refine aa_ ?_|simp only[go_sem,e2])
   refine ab_ ?_;repeat(first|refine aa_ ?_|simp only[go_sem,hgd])
   refine Eq_ [2] (c1) evd (bn_.mk' (by simp) evd) ?_;refine evg ?_;generalize uK_ s1.sto r.block=B at *;cases B with
   | true =>
     rw[if_pos rfl]at hs;try refine aa_ ?_
     refine ac_ ?_;repeat(first|refine aa_ ?_|simp only[go_sem,hgd])
     refine OJ_ [2] (c2) (by simp) evd (bn_.mk' (by simp) evd) ?_;refine evg ?_;repeat(first|refine aa_ ?_|simp only[go_sem,hw])
     refine⟨i+1,h1,by omega,?_⟩;rw[hs];unfold nV_;exact QV_ [] [0,1,2]
   | false =>
     rw[if_neg (by simp)]at hs;try refine aa_ ?_
     refine ab_ ?_;repeat(first|refine aa_ ?_|simp only[go_sem,hw])
     refine⟨i+1,h1,by omega,?_⟩;rw[hs];exact QV_ [] [0,1,2]
 ·obtain rfl:i=s.rets.length:=by omega
  have e1:decide (((s.rets.length:Nat):Int)<((s.rets.length:Nat):Int))=false:=decide_eq_false (by omega);generalize ay_ (lP_ s.rets) (ew_ s []) s.rets.length=s1 at *;repeat(first|refine aa_ ?_|simp only[go_sem,e1])
  refine PG_ ?_
  refine⟨_,(by first|rfl|exact evd),.inl ?_⟩;(try simp only[go_sem,Nat.reduceAdd,Nat.reduceSub,Nat.reduceMul,Nat.reduceLT,Nat.reduceLeDiff,Nat.reduceEqDiff,reduceIte,Int.reduceToNat,Int.reduceLT,Int.reduceLE,Int.reduceEq,Int.reduceNeg,reduceCtorEq,Int.reduceBEq,Int.reduceBNe,gq_])
  all_goals rfl
theorem Pm_(n:Int):IntKind.i64.wrap n≤9223372036854775807:=by rw[IntKind.wrap_i64];omega
theorem Iu_(s:aI_)(L:List Req)(n:Nat)(hL:L.length=n+1)(hb:n≤1000000)(r0:Req):
 Tri Tryz.prog 117 0 (bw_.tl 6) (PQ [.cell 4 true 252] (.agg (aD_ (ew_ s (nZ_ L n)).a))) ⟨7,[.dead,.dead,.ptr 0 0,.ptr 1 0,.ptr 2 0,.hs 35 3 0 (n+1),.dead],[]⟩ [.var (aD_ s.a),.var (aJ_ r0),.var (aD_ dG_),.vec 35 (rows aJ_ L)]:=by
 unfold bw_;refine bd ?_;simp only[ad_.tl];obtain⟨R,hR⟩:∃R,R=nZ_ L n:=⟨_,rfl⟩
 rw[←hR];have hw0:IntKind.i64.wrap (((n+1:Nat):Int)-1)=(n:Int):=by rw[aF_ (by omega) (by omega)];omega
 have hw0':IntKind.i64.wrap ((n:Int)+1-1)=(n:Int):=by rw[aF_ (by omega) (by omega)];omega
 repeat(first|refine aa_ ?_|simp only[go_sem,hw0,hw0'])
 refine am_ (fun x:Nat×List Req=>[(6,.int .i64 x.1)]) (fun x=>[.var (aD_ s.a),.var (aJ_ r0),.var (aD_ dG_),.vec 35 (rows aJ_ x.2)]) (fun x=>x.1) (fun x=>x.1≤n∧x.2.length=n+1∧R=nZ_ x.2 x.1) (n,L) ⟨Nat.le_refl _,hL,hR⟩ ?_ ?_
 ·exact QV_ [] [0,1,2,3]
 clear hR;rintro⟨k,l⟩ ⟨hk,hl,hn⟩;dsimp only at hk hl hn ⊢;(try simp only[ao_,ar_,List.set_cons_zero,List.set_cons_succ])
 have ht:List.take (n+1) (rows aJ_ l)=rows aJ_ l:=List.take_of_length_le (by simp[hl]);cases k with
 | zero =>
   have e0:decide ((0:Int)<((0:Nat):Int))=false:=by decide
   have hr:R=l:=hn;subst hr;repeat(first|refine aa_ ?_|simp only[go_sem,e0])
   refine PG_ ?_
   refine⟨_,(by first|rfl|exact evd),.inl ?_⟩;(try simp only[go_sem,Nat.reduceAdd,Nat.reduceSub,Nat.reduceMul,Nat.reduceLT,Nat.reduceLeDiff,Nat.reduceEqDiff,reduceIte,Int.reduceToNat,Int.reduceLT,Int.reduceLE,Int.reduceEq,Int.reduceNeg,reduceCtorEq,Int.reduceBEq,Int.reduceBNe,ht,hl])
   all_goals rfl
 | succ k =>
   have e0:decide ((0:Int)<((k+1:Nat):Int))=true:=decide_eq_true (by omega);have hw:IntKind.i64.wrap (((k+1:Nat):Int)-1)=(k:Int):=by rw[aF_ (by omega) (by omega)];omega
   have hg1:(rows aJ_ l).getD (k+1) []=aJ_ (dk_ l (k+1)):=aK_ (f:=aJ_) hk_ (by omega);have hg2:(rows aJ_ l).getD k []=aJ_ (dk_ l k):=aK_ (f:=aJ_) hk_ (by omega);have hsk:nZ_ l (k+1)=if KN_ (dk_ l (k+1)) (dk_ l k)=true then nZ_ ((l.set (k+1) (dk_ l k)).set k (dk_ l (k+1))) k else l:=rfl
   rw[hsk]at hn;have hset:∀ (m:List Req) (j:Nat) (x:Req),(rows aJ_ m).set j (aJ_ x)=rows aJ_ (m.set j x):=fun m j x=>pY_ aJ_ m j x
   unfold KN_ at hn;generalize ha:dk_ l (k+1)=a at *;generalize hb2:dk_ l k=b at *;have hg3:(rows aJ_ (l.set (k+1) b)).getD k []=aJ_ ((l.set (k+1) b).getD k hk_):=aK_ (f:=aJ_) hk_ (by simp;omega);have hlt1:k+1<n+1:=by omega
   have hlt2:k<n+1:=by omega
   by_cases q1:a.due<b.due
   ·have e1:decide (a.due<b.due)=true:=decide_eq_true q1;rw[e1,Bool.true_or,if_pos rfl]at hn;repeat(first|refine aa_ ?_|simp only[go_sem,e0,hg1,hg2,hw,e1,hl])
    refine ac_ ?_;repeat(first|refine aa_ ?_|simp only[go_sem,hg1,hg2,hg3,hw,hl,hset])
    refine⟨(k,(l.set (k+1) b).set k a),⟨by dsimp only;omega,by simp[hl],hn⟩,by dsimp only;omega,?_⟩;exact QV_ [] [0,1,2,3]
   have e1:decide (a.due<b.due)=false:=decide_eq_false q1;rw[e1,Bool.false_or]at hn;by_cases q2:a.due=b.due
   ·have e2:(a.due==b.due)=true:=by simp[q2]
    rw[decide_eq_true q2,Bool.true_and]at hn;by_cases q3:a.tag<b.tag
    ·have e3:decide (a.tag<b.tag)=true:=decide_eq_true q3;rw[e3,if_pos rfl]at hn;repeat(first|refine aa_ ?_|simp only[go_sem,e0,hg1,hg2,hw,e1,e2,e3,hl])
     refine ac_ ?_;repeat(first|refine aa_ ?_|simp only[go_sem,hg1,hg2,hg3,hw,hl,hset])
     refine⟨(k,(l.set (k+1) b).set k a),⟨by dsimp only;omega,by simp[hl],hn⟩,by dsimp only;omega,?_⟩;exact QV_ [] [0,1,2,3]
    ·have e3:decide (a.tag<b.tag)=false:=decide_eq_false q3;rw[e3,if_neg (by simp)]at hn;subst hn;repeat(first|refine aa_ ?_|simp only[go_sem,e0,hg1,hg2,hw,e1,e2,e3,hl])
     refine PG_ ?_
     refine⟨_,(by first|rfl|exact evd),.inl ?_⟩;(try simp only[go_sem,Nat.reduceAdd,Nat.reduceSub,Nat.reduceMul,Nat.reduceLT,Nat.reduceLeDiff,Nat.reduceEqDiff,reduceIte,Int.reduceToNat,Int.reduceLT,Int.reduceLE,Int.reduceEq,Int.reduceNeg,reduceCtorEq,Int.reduceBEq,Int.reduceBNe,ht,hl])
     all_goals rfl
   ·have e2:(a.due==b.due)=false:=by simp[q2]
    rw[decide_eq_false q2,Bool.false_and,if_neg (by simp)]at hn;subst hn;repeat(first|refine aa_ ?_|simp only[go_sem,e0,hg1,hg2,hw,e1,e2,hl])
    refine PG_ ?_
    refine⟨_,(by first|rfl|exact evd),.inl ?_⟩;(try simp only[go_sem,Nat.reduceAdd,Nat.reduceSub,Nat.reduceMul,Nat.reduceLT,Nat.reduceLeDiff,Nat.reduceEqDiff,reduceIte,Int.reduceToNat,Int.reduceLT,Int.reduceLE,Int.reduceEq,Int.reduceNeg,reduceCtorEq,Int.reduceBEq,Int.reduceBNe,ht,hl])
    all_goals rfl
theorem ET_(s:aI_)(r:Req)(h:StR s.sto)(hy:s.rets.length≤1000):PC Tryz.prog 249 [.agg (aD_ s.a),.agg (aJ_ r)] (.agg (aD_ (uu_ s r).a)):=by
 have tl:=Iu_ s (s.rets++[qM_ s r]) s.rets.length (by simp) (by omega) (qM_ s r);refine PC.fact 7 wE_ (by simp) puA puA ?_;have hc:bw_=.seq bw_.hd (.seq (bw_.tl 1).hd (.seq (bw_.tl 2).hd (.seq (bw_.tl 3).hd (.seq (bw_.tl 4).hd (.seq (bw_.tl 5).hd (bw_.tl 6)))))):=rfl;rw[hc];clear hc;generalize bw_.tl 6=cT at *;unfold bw_;refine bd ?_;simp only[ad_.tl,ad_.hd];have c1:=uL_ s h r.block;have c2:=Er_ (IntKind.i64.wrap (r.tries+1)) s.sto.cfg.lim.backoff (Pm_ _);unfold uu_;generalize uK_ s.sto r.block=B at *;cases B with
 | false =>
   rw[if_pos rfl];try refine aa_ ?_
   refine Qy_ c1 ?_
   refine PH_ ?_
   exact af_
 | true =>
   rw[if_neg (by simp)];by_cases q:s.sto.cfg.lim.retry≤s.rets.length
   ·have e1:decide (s.sto.cfg.lim.retry≤(s.rets.length:Int))=true:=decide_eq_true q;rw[if_pos q];try refine aa_ ?_
    refine Qy_ c1 ?_
    refine ab_ ?_;repeat(first|refine aa_ ?_|simp only[go_sem,e1])
    refine PH_ ?_
    exact af_
   ·have e1:decide (s.sto.cfg.lim.retry≤(s.rets.length:Int))=false:=decide_eq_false q;have hsn:rows aJ_ s.rets++[aJ_ (qM_ s r)]=rows aJ_ (s.rets++[qM_ s r]):=bP_ aJ_ s.rets _;have hlr:aJ_ { tag:=r.tag,block:=r.block,tries:=IntKind.i64.wrap (r.tries+1),due:=IntKind.u64.wrap (s.sto.now+zB_ (IntKind.i64.wrap (r.tries+1)) s.sto.cfg.lim.backoff) }=aJ_ (qM_ s r):=rfl;rw[if_neg q];try refine aa_ ?_
    refine Qy_ c1 ?_
    refine ab_ ?_;repeat(first|refine aa_ ?_|simp only[go_sem,e1])
    refine PG_ ?_
    refine au_ (c2) ?_;repeat(first|refine aa_ ?_|simp only[go_sem,hlr,hsn,gq_])
    refine du_ ?_ tl;exact QV_ [] [0,1,2,5]
theorem Jl_(s:aj_)(h:StR s):PC Tryz.prog 237 [.agg (ai_ s.a)] (.agg (rtc (GI_ s))):=by
 refine PC.fact 4 zS_ (by simp) puA puA ?_;unfold pp_;refine bd ?_;have c1:=bv_ s.nodes s.j.rt h.bn;have b1:=cq_ s.nodes s.j.rt;unfold GI_;generalize an_ s.nodes s.j.rt=I at *;try refine aa_ ?_
 refine ah_ c1 ?_;by_cases q:0≤I
 ·have e1:decide (0≤I)=true:=decide_eq_true q
  have hg:=bD_ (t:=s.nodes) (i:=I.toNat) (by omega);by_cases q2:(nod s.nodes I.toNat).status=1
  ·have e2:((nod s.nodes I.toNat).status==1)=true:=by simp[q2]
   rw[if_pos ⟨q,q2⟩];repeat(first|refine aa_ ?_|simp only[go_sem,e1,hg,e2])
   refine PH_ ?_
   exact af_
  ·have e2:((nod s.nodes I.toNat).status==1)=false:=by simp[q2]
   rw[if_neg (fun h=>q2 h.2)];repeat(first|refine aa_ ?_|simp only[go_sem,e1,hg,e2])
   refine PG_ ?_
   exact af_
 ·have e1:decide (0≤I)=false:=decide_eq_false q;rw[if_neg (fun h=>q h.1)];repeat(first|refine aa_ ?_|simp only[go_sem,e1])
  refine PG_ ?_
  exact af_
theorem Lg_{s:aj_}(h:StR s):0≤um_ s∧um_ s<s.nodes.length:=by
 have h1:=cq_ s.nodes s.j.rt;have h2:=Co_ h.tree (hd_ s) (uF_ s) (s.nodes.length+1) (an_ s.nodes s.j.rt) (by omega);have h3:=h.jf;unfold um_;omega
theorem KD_(s:aj_)(h:StR s):PC Tryz.prog 212 [.agg (ai_ s.a)] (.agg (cH_ (HO_ s))):=by
 refine PC.fact 3 si_ (by simp) puA puA ?_;unfold kM_;refine bd ?_;have c1:=Ik_ s h;have c2:=Jl_ s h;have hb:=Lg_ h;unfold HO_;generalize um_ s=I at *;generalize GI_ s=S at *;have hg:=bD_ (t:=s.nodes) (i:=I.toNat) (by omega);try refine aa_ ?_
 refine au_ (c1) ?_;repeat(first|refine aa_ ?_|simp only[go_sem,hg])
 refine au_ (c2) ?_;try refine aa_ ?_
 exact af_
theorem xV_(s:aI_)(h:StR s.sto):PC Tryz.prog 172 [.agg (aD_ s.a)] (.tup [.agg (aD_ (lQ_ s).1.a),.sl 96 false (rows cH_ (lQ_ s).2)]):=by
 refine PC.fact 5 zQ_ (by simp) puA ⟨aI_.pul _,cT_ _,trivial⟩ ?_;have c1:=KD_ s.sto h;unfold lQ_;generalize HO_ s.sto=C at *;by_cases q:s.sent=true∧s.last=C
 ·rw[if_pos q];obtain⟨q1,q2⟩:=q;have e2:decide (s.last=C)=true:=decide_eq_true q2;unfold fG_;refine bd ?_;try refine aa_ ?_
  refine ah_ c1 ?_;repeat(first|refine aa_ ?_|simp only[go_sem,q1,e2])
  refine PH_ ?_
  refine⟨_,(by first|rfl|exact evd),.inr ⟨.tup [.agg (aD_ s.a),.sl 0 true []],?_,⟨aI_.pul _,trivial,trivial⟩,Wk.tup ⟨Wk.refl _,Wk.empty _ _ _,trivial⟩⟩⟩;exact evd
 ·rw [if_neg q]
  have key:∀b:Bool,s.sent=b→(b=true→decide (s.last=C)=false)→Tri Tryz.prog 23 0 fG_ (PQ [.cell 2 true 252,.tmp 3] (.tup [.agg (aD_ (aI_.a ⟨s.sto,s.reqs,s.rets,s.tag,true,C,s.over,s.halt⟩)),.sl 96 false (rows cH_ [C])])) ⟨5,[.agg (aD_ s.a),.dead,.dead,.dead,.dead],[]⟩ []:=by
   intro b h1 h2;cases b with
   | false =>
     unfold fG_;dsimp only[om,oo,on,omg,og,ong,ci,cu,cb,cf,fA,lA,lF,bI,bC,sO,eX,lN,iX,kA,kB,kC,sR,cN];try refine aa_ ?_
     refine ah_ c1 ?_;repeat(first|refine aa_ ?_|simp only[go_sem,h1])
     refine PG_ ?_
     refine⟨_,(by first|rfl|exact evd),.inr ⟨.tup [.agg (aD_ (aI_.a ⟨s.sto,s.reqs,s.rets,s.tag,true,C,s.over,s.halt⟩)),.sl 96 true (rows cH_ [C])],?_,⟨aI_.pul _,cT_ _,trivial⟩,Wk.tup ⟨Wk.refl _,Wk.open_ _ _ _,trivial⟩⟩⟩;exact evd
   | true =>
     have e2:=h2 rfl;unfold fG_;dsimp only[om,oo,on,omg,og,ong,ci,cu,cb,cf,fA,lA,lF,bI,bC,sO,eX,lN,iX,kA,kB,kC,sR,cN];try refine aa_ ?_
     refine ah_ c1 ?_;repeat(first|refine aa_ ?_|simp only[go_sem,h1,e2])
     refine PG_ ?_
     refine⟨_,(by first|rfl|exact evd),.inr ⟨.tup [.agg (aD_ (aI_.a ⟨s.sto,s.reqs,s.rets,s.tag,true,C,s.over,s.halt⟩)),.sl 96 true (rows cH_ [C])],?_,⟨aI_.pul _,cT_ _,trivial⟩,Wk.tup ⟨Wk.refl _,Wk.open_ _ _ _,trivial⟩⟩⟩;exact evd
  exact key s.sent rfl fun hb=>decide_eq_false fun hl=>q ⟨hb,hl⟩
end Go.Proofs.YtkgimpdgncakjaaGreat
