/-
 My texts Nd, Ne, joined.
-/
import Derived.Test.YtkgimpdgncakjaaGreatV8
import Derived.Test.YtkgimpdgncakjaaGreatW6
namespace Go.Proofs.YtkgimpdgncakjaaGreat
open Go Go.FH Go.RowKit
set_option linter.unusedVariables false
set_option linter.unusedSimpArgs false
set_option maxRecDepth 8000
set_option maxHeartbeats 4000000
theorem Cu_(x:Sta)(v:AV):(aK_ x).set 151 v=aK_ { x with rets:=v }:=by
 simp only[aK_,List.set_append,bc_,List.length_cons,Nat.reduceSub,Nat.reduceLT,if_false,List.set_cons_succ,List.set_cons_zero]
theorem Ct_(x:Sta):(aK_ x).getD 151 .dead=x.rets:=by
 simp only[aK_,List.getD_eq_getElem?_getD,List.getElem?_append,bc_,List.length_cons,Nat.reduceSub,Nat.reduceLT,if_false,List.getElem?_cons_succ,List.getElem?_cons_zero,Option.getD_some]
theorem gD_(l:List Req):List.take l.length (rows aL_ l)=rows aL_ l:=List.take_of_length_le (by simp)
theorem vY_(s:aH_)(h:StR s.sto)(r:Rt):PC Tryz.prog 245 [.agg (aK_ s.a),.agg (rtc r)] (.bool (vX_ s.sto r)):=by
 refine PC.fact 6 pm_ (by simp) puA puA ?_;unfold iw_;refine bd ?_;have c1:=by_ s.sto.nodes r h.bn;have b1:=cl_ s.sto.nodes r;unfold vX_;generalize ak_ s.sto.nodes r=I at *;try refine aa_ ?_
 refine ae_ c1 ?_;by_cases q:0≤I
 ·have e1:decide (0≤I)=true:=decide_eq_true q;have hg:=bP_ (t:=s.sto.nodes) (i:=I.toNat) (by omega);repeat(first|refine aa_ ?_|simp only[go_sem,e1,hg])
  have e2:((nod s.sto.nodes I.toNat).status==0)=decide ((nod s.sto.nodes I.toNat).status=0):=by rw[Bool.eq_iff_iff];simp
  refine⟨_,(by first|rfl|exact evd),.inl ?_⟩;(try simp only[go_sem,Nat.reduceAdd,Nat.reduceSub,Nat.reduceMul,Nat.reduceLT,Nat.reduceLeDiff,Nat.reduceEqDiff,reduceIte,Int.reduceToNat,Int.reduceLT,Int.reduceLE,Int.reduceEq,Int.reduceNeg,reduceCtorEq,Int.reduceBEq,Int.reduceBNe,e2])
  all_goals rfl
 ·have e1:decide (0≤I)=false:=decide_eq_false q;repeat(first|refine aa_ ?_|simp only[go_sem,e1])
  exact ag_
theorem Nm_(s:aH_)(h:StR s.sto)(r:Rt):ap_ Tryz.prog 245 [.agg (aK_ { s.a with rets:=.hs 35 0 0 s.rets.length }),.agg (rtc r)] [.vec 35 (rows aL_ s.rets)] (.bool (vX_ s.sto r)) [.vec 35 (rows aL_ s.rets)]:=by
 refine ap_.lend rfl ?_;(try simp only[go_sem,gD_,List.length_cons,List.length_nil,List.range_succ,List.range_zero])
 exact vY_ s h r
theorem Kn_(s:aH_)(r:Rt)(k:Int)(hb:s.reqs.length≤1000000):PC Tryz.prog 246 [.agg (aK_ s.a),.agg (rtc r),.int .i64 k] (.agg (aK_ (oM_ s r k).a)):=by
 refine PC.fact 8 qy_ (by simp) puA puA ?_;unfold kC_;refine bd ?_;have hsn:rows aL_ s.reqs++[aL_ ⟨s.tag,r,k,0⟩]=rows aL_ (s.reqs++[⟨s.tag,r,k,0⟩]):=bF_ aL_ s.reqs _;have ht:List.take (s.reqs.length+1) (rows aL_ (s.reqs++[⟨s.tag,r,k,0⟩]))=rows aL_ (s.reqs++[⟨s.tag,r,k,0⟩]):=List.take_of_length_le (by simp);repeat(first|refine aa_ ?_|simp only[go_sem,hsn,gD_])
 refine⟨_,(by first|rfl|exact evd),.inl ?_⟩;(try simp only[go_sem,Nat.reduceAdd,Nat.reduceSub,Nat.reduceMul,Nat.reduceLT,Nat.reduceLeDiff,Nat.reduceEqDiff,reduceIte,Int.reduceToNat,Int.reduceLT,Int.reduceLE,Int.reduceEq,Int.reduceNeg,reduceCtorEq,Int.reduceBEq,Int.reduceBNe,ht])
 all_goals rfl
theorem Nk_(s:aH_)(r:Rt)(k:Int)(hb:s.reqs.length≤1000000)(l:List Req)(n:Nat):ap_ Tryz.prog 246 [.agg (aK_ { s.a with rets:=.hs 35 0 0 n }),.agg (rtc r),.int .i64 k] [.vec 35 (rows aL_ l)] (.agg (aK_ { (oM_ s r k).a with rets:=.hs 35 0 0 n })) [.vec 35 (rows aL_ l)]:=by
 refine ap_.fact 8 qy_ (by simp) ?_ (by simp);unfold kC_;refine bd ?_;have hsn:rows aL_ s.reqs++[aL_ ⟨s.tag,r,k,0⟩]=rows aL_ (s.reqs++[⟨s.tag,r,k,0⟩]):=bF_ aL_ s.reqs _;have ht:List.take (s.reqs.length+1) (rows aL_ (s.reqs++[⟨s.tag,r,k,0⟩]))=rows aL_ (s.reqs++[⟨s.tag,r,k,0⟩]):=List.take_of_length_le (by simp);repeat(first|refine aa_ ?_|simp only[go_sem,hsn,gD_])
 refine bw_ [2,3,4,5,6,7] [0] _ (by simp) (by first|rfl|exact evd) (by simp) rfl (by simp) (by simp) evd ?_;(try simp only[go_sem,Nat.reduceAdd,Nat.reduceSub,Nat.reduceMul,Nat.reduceLT,Nat.reduceLeDiff,Nat.reduceEqDiff,reduceIte,Int.reduceToNat,Int.reduceLT,Int.reduceLE,Int.reduceEq,Int.reduceNeg,reduceCtorEq,Int.reduceBEq,Int.reduceBNe,ht])
 all_goals rfl
theorem GM_(s:aH_)(l:List Rt)(h:StR s.sto)(hb:s.reqs.length+l.length≤1000000):PC Tryz.prog 217 [.agg (aK_ s.a),.sl 32 false (rows rtc l)] (.agg (aK_ (GL_ s l).a)):=by
 refine PC.fact 6 Bv_ (by simp) puA puA ?_;unfold qg_;refine bd ?_;have hz:aw_ (ge_ l) s 0=s:=rfl
 have hS:∀k,(aw_ (ge_ l) s k).sto=s.sto∧(aw_ (ge_ l) s k).reqs.length≤s.reqs.length+k:=by
  intro k;induction k with
  |zero=>exact⟨rfl,Nat.le_refl _⟩
  | succ k ih =>
    rw[bA_];generalize aw_ (ge_ l) s k=s1 at *;unfold ge_;split
    ·refine⟨ih.1,?_⟩;unfold oM_;simp only[List.length_append,List.length_singleton];omega
    ·exact⟨ih.1,by omega⟩
 show Tri _ _ _ _ (PQ _ (.agg (aK_ (aw_ (ge_ l) s l.length).a))) _ _
 try refine aa_ ?_
 refine ao_ (fun i:Nat=>[(5,.int .i64 i)]) (fun i=>[.var (aK_ (aw_ (ge_ l) s i).a),.var (aK_ lK_)]) (fun i=>l.length-i) (fun i=>i≤l.length) 0 (Nat.zero_le _) ?_ ?_
 ·rw[hz];exact ST_ [] [0,1]
 intro i hi;refine cC_ ?_;by_cases h1:i<l.length
 ·have e1:=inT h1
  have hw:=af_ h1 (by omega);have hgd:=aB_ (f:=rtc) rt0 h1;have hs:=bA_ (ge_ l) s i;obtain⟨hS1,hS2⟩:=hS i;have hc:ge_ l i (aw_ (ge_ l) s i)=if vX_ (aw_ (ge_ l) s i).sto (l.getD i rt0)=true then oM_ (aw_ (ge_ l) s i) (l.getD i rt0) 0 else aw_ (ge_ l) s i:=rfl
  have c1:=vY_ (aw_ (ge_ l) s i) (by rw[hS1];exact h) (l.getD i rt0);have c2:=Kn_ (aw_ (ge_ l) s i) (l.getD i rt0) 0 (by omega);generalize aw_ (ge_ l) s i=s1 at *;generalize l.getD i rt0=r at *;generalize vX_ s1.sto r=B at *;rw[hc]at hs;repeat(first|refine aa_ ?_|simp only[go_sem,e1])
  refine ac_ ?_;repeat(first|refine aa_ ?_|simp only[go_sem,hgd])
  refine as_ (c1) ?_;cases B with
  | true =>
    rw[if_pos rfl]at hs;try refine aa_ ?_
    refine ac_ ?_;repeat(first|refine aa_ ?_|simp only[go_sem,hgd])
    refine as_ (c2) ?_;repeat(first|refine aa_ ?_|simp only[go_sem,hw])
    refine⟨i+1,h1,by omega,?_⟩;rw[hs];exact ST_ [] [0,1]
  | false =>
    rw[if_neg (by simp)]at hs;try refine aa_ ?_
    refine ab_ ?_;repeat(first|refine aa_ ?_|simp only[go_sem,hw])
    refine⟨i+1,h1,by omega,?_⟩;rw[hs];exact ST_ [] [0,1]
 ·obtain rfl:i=l.length:=by omega
  have e1:=inF (l.length);repeat(first|refine aa_ ?_|simp only[go_sem,e1])
  refine Rm_ ?_
  exact ag_
theorem Ox_:WkC (aj_ eS_) (aj_ dd_.a):=by
 unfold eS_ dd_ ai_.a aj_;dsimp only;refine WkC.app ?_ ?_
 ·unfold lz_ bD_.a bm_;dsimp only;exact(WkC.refl _).app (.same _ (.same _ ((WkC.refl _).app ((WkC.refl _).app (.one (Wk.empty _ _ _) fun h=>h)))))
 ·exact .cons (Wk.empty _ _ _) (fun h=>h) (.cons (Wk.empty _ _ _) (fun h=>h) ((WkC.refl _).app ((WkC.refl _).app (.cons (Wk.empty _ _ _) (fun h=>h) (.cons (Wk.empty _ _ _) (fun h=>h) (.cons (Wk.empty _ _ _) (fun h=>h) (.same _ ((WkC.refl _).app (.one (Wk.empty _ _ _) fun h=>h)))))))))
theorem IH_:Wk (.agg (aK_ lK_)) (.agg (aK_ Fr_.a)):=by
 refine Wk.agg ?_;unfold lK_ Fr_ aH_.a aK_;dsimp only;exact Ox_.app (.cons (Wk.empty _ _ _) (fun h=>h) (.cons (Wk.empty _ _ _) (fun h=>h) (WkC.refl _)))
theorem CS_:PuL (aK_ lK_):=by simp[lK_,aK_,cM_,PuL,Pu,du_,eS_,aj_,gP_,cf_,gJ_,dv_,lz_,bm_,cp0,jQ_]
theorem GH_(s:aH_)(v:Vdt)(hb:s.reqs.length≤1000000):PC Tryz.prog 248 [.agg (aK_ s.a),.agg (cA_ v)] (.tup [.agg (aL_ (dq_ s v).1),.agg (aK_ (dq_ s v).2.1.a),.int .i64 (dq_ s v).2.2]):=by
 refine PC.fact 9 xW_ (by simp) puA ⟨dW_ _,aH_.pul _,trivial,trivial⟩ ?_;unfold oC_;refine bd ?_;obtain⟨R,hR⟩:∃R,R=dq_ s v:=⟨_,rfl⟩
 rw[←hR];unfold dq_ ca_ at hR;try refine aa_ ?_
 refine ao_ (fun i:Nat=>[(7,.int .i64 i)]) (fun _=>[.var (aK_ s.a),.var (cA_ v),.var (aL_ pv_),.var (aK_ lK_)]) (fun i=>s.reqs.length-i)
  (fun i=>i≤s.reqs.length∧R=(match dH_ (fun i=>decide ((dr_ s.reqs i).tag=v.tag)) (s.reqs.length-i) i with
 |some i=>(dr_ s.reqs i,QC_ s (rg_ s.reqs i),0)
 |none=>(pv_,Fr_,23))) 0 ⟨Nat.zero_le _,hR⟩ ?_ ?_
 ·exact ST_ [] [0,1,2,3]
 clear hR;rintro i ⟨hi,hn⟩;refine cC_ ?_;by_cases h1:i<s.reqs.length
 ·have e1:=inT h1
  have hw:=af_ h1 (by omega);have hgd:(rows aL_ s.reqs).getD i []=aL_ (dr_ s.reqs i):=aB_ (f:=aL_) pv_ h1;by_cases q:(dr_ s.reqs i).tag=v.tag
  ·rw[ej_ h1 (decide_eq_true q)]at hn;dsimp only at hn;generalize hrq:dr_ s.reqs i=r at *;have e2:(r.tag==v.tag)=true:=by simp[q]
   have hw1:IntKind.i64.wrap ((i:Int)+1)=((i+1:Nat):Int):=hw;have ht1:List.take i (rows aL_ s.reqs)=rows aL_ (s.reqs.take i):=nB_ _ _ _;have ht2:List.drop (i+1) (rows aL_ s.reqs)=rows aL_ (s.reqs.drop (i+1)):=nA_ _ _ _;have ht3:rows aL_ (s.reqs.take i)++rows aL_ (s.reqs.drop (i+1))=rows aL_ (rg_ s.reqs i):=wr_ _ _ _;have ht4:(s.reqs.take i).length+(s.reqs.drop (i+1)).length=(rg_ s.reqs i).length:=by unfold rg_;rw[List.length_append]
   have ht5:List.take (s.reqs.length-(i+1)) (rows aL_ (s.reqs.drop (i+1)))=rows aL_ (s.reqs.drop (i+1)):=List.take_of_length_le (by simp);have hlo:(rg_ s.reqs i).length≤s.reqs.length:=(IB_ _ _).1;subst hn;dsimp only;repeat(first|refine aa_ ?_|simp only[go_sem,e1])
   refine ac_ ?_;repeat(first|refine aa_ ?_|simp only[go_sem,hgd,e2])
   refine ac_ ?_;repeat(first|refine aa_ ?_|simp only[go_sem,hgd,hw1,ht1,ht2,ht3,ht4,ht5])
   refine⟨_,(by first|rfl|exact evd),.inl ?_⟩;(try simp only[go_sem,Nat.reduceAdd,Nat.reduceSub,Nat.reduceMul,Nat.reduceLT,Nat.reduceLeDiff,Nat.reduceEqDiff,reduceIte,Int.reduceToNat,Int.reduceLT,Int.reduceLE,Int.reduceEq,Int.reduceNeg,reduceCtorEq,Int.reduceBEq,Int.reduceBNe,gD_])
   all_goals rfl
  ·rw[dU_ h1 (decide_eq_false q)]at hn;have e2:((dr_ s.reqs i).tag==v.tag)=false:=by simp[q]
   repeat(first|refine aa_ ?_|simp only[go_sem,e1])
   refine ac_ ?_;repeat(first|refine aa_ ?_|simp only[go_sem,hgd,e2])
   refine ab_ ?_;repeat(first|refine aa_ ?_|simp only[go_sem,hw])
   refine⟨i+1,⟨h1,hn⟩,by omega,?_⟩;exact ST_ [] [0,1,2,3]
 ·obtain rfl:i=s.reqs.length:=by omega
  have e1:=inF (s.reqs.length);rw[fa_]at hn;dsimp only at hn;subst hn;dsimp only;repeat(first|refine aa_ ?_|simp only[go_sem,e1])
  refine Rm_ ?_
  refine⟨_,(by first|rfl|exact evd),.inr ⟨.tup [.agg (aL_ pv_),.agg (aK_ lK_),.int .i64 23],?_,?_,Wk.tup ⟨Wk.refl _,?_,Wk.refl _,trivial⟩⟩⟩
  ·exact evd
  ·exact⟨dW_ _,CS_,trivial,trivial⟩
  ·exact IH_
theorem sH_(s:aH_)(l:List Req)(h:StR s.sto)(hb:l.length≤1000000):PC Tryz.prog 247 [.agg (aK_ s.a),.sl 35 false (rows aL_ l)] (.sl 35 false (rows aL_ (iJ_ s.sto.nodes l))):=by
 refine PC.fact 7 xX_ (by simp) puA puA ?_;unfold oD_;refine bd ?_;have hz:aw_ (fb_ s.sto.nodes l) [] 0=[]:=rfl
 have hL:∀k,(aw_ (fb_ s.sto.nodes l) [] k).length≤k:=fun k=>by
  have:=hs_ (f:=fb_ s.sto.nodes l) (a:=[]) (fun i o=>by unfold fb_;split<;>simp) k;simpa using this
 show Tri _ _ _ _ (PQ _ (.sl 35 false (rows aL_ (aw_ (fb_ s.sto.nodes l) [] l.length)))) _ _
 try refine aa_ ?_
 refine cY_ 5 35 ?_;simp only[go_sem];refine ao_ (fun i:Nat=>[(6,.int .i64 i),(5,.hs 35 1 0 (aw_ (fb_ s.sto.nodes l) [] i).length)]) (fun i=>[.var (aK_ s.a),.vec 35 (rows aL_ (aw_ (fb_ s.sto.nodes l) [] i))]) (fun i=>l.length-i) (fun i=>i≤l.length) 0 (Nat.zero_le _) ?_ ?_
 ·rw[hz];exact ST_ [] [0,1]
 intro i hi;have hLi:=hL i;refine cC_ ?_;by_cases h1:i<l.length
 ·have e1:=inT h1
  have hw:=af_ h1 (by omega);have hgd:(rows aL_ l).getD i []=aL_ (dr_ l i):=aB_ (f:=aL_) pv_ h1;have hs:=bA_ (fb_ s.sto.nodes l) [] i;have c1:=by_ s.sto.nodes (dr_ l i).block h.bn;generalize aw_ (fb_ s.sto.nodes l) [] i=o at *;have hc:fb_ s.sto.nodes l i o=if 0≤ak_ s.sto.nodes (dr_ l i).block then o++[dr_ l i]else o:=rfl
  rw[hc]at hs;generalize dr_ l i=r at *;have hsn:rows aL_ o++[aL_ r]=rows aL_ (o++[r]):=bF_ aL_ o r;repeat(first|refine aa_ ?_|simp only[go_sem,e1])
  refine ac_ ?_;repeat(first|refine aa_ ?_|simp only[go_sem,hgd])
  refine as_ (c1) ?_;try refine aa_ ?_
  by_cases q:0≤ak_ s.sto.nodes r.block
  ·have e2:decide (0≤ak_ s.sto.nodes r.block)=true:=decide_eq_true q;rw[if_pos q]at hs;repeat(first|refine aa_ ?_|simp only[go_sem,e2])
   refine ac_ ?_;repeat(first|refine aa_ ?_|simp only[go_sem,hgd,hsn,hw])
   refine⟨i+1,h1,by omega,?_⟩;rw[hs];exact ST_ [] [0,3]
  ·have e2:decide (0≤ak_ s.sto.nodes r.block)=false:=decide_eq_false q;rw[if_neg q]at hs;repeat(first|refine aa_ ?_|simp only[go_sem,e2])
   refine ab_ ?_;repeat(first|refine aa_ ?_|simp only[go_sem,hw])
   refine⟨i+1,h1,by omega,?_⟩;rw[hs];exact ST_ [] [0,1]
 ·obtain rfl:i=l.length:=by omega
  have e1:=inF (l.length);generalize aw_ (fb_ s.sto.nodes l) [] l.length=o at *;repeat(first|refine aa_ ?_|simp only[go_sem,e1])
  refine Rm_ ?_
  refine⟨_,(by first|rfl|exact evd),.inl ?_⟩;(try simp only[go_sem,Nat.reduceAdd,Nat.reduceSub,Nat.reduceMul,Nat.reduceLT,Nat.reduceLeDiff,Nat.reduceEqDiff,reduceIte,Int.reduceToNat,Int.reduceLT,Int.reduceLE,Int.reduceEq,Int.reduceNeg,reduceCtorEq,Int.reduceBEq,Int.reduceBNe,gD_])
  all_goals rfl
theorem zs_(s:aH_)(h:StR s.sto)(h1:s.reqs.length≤1000000)(h2:s.rets.length≤1000000):PC Tryz.prog 216 [.agg (aK_ s.a)] (.agg (aK_ (uL_ s).a)):=by
 refine PC.fact 3 Bt_ (by simp) puA puA ?_;unfold qf_;refine bd ?_;have c1:=sH_ s s.reqs h h1;have c2:=sH_ s s.rets h h2;unfold uL_;generalize iJ_ s.sto.nodes s.reqs=k1 at *;generalize iJ_ s.sto.nodes s.rets=k2 at *;try refine aa_ ?_
 refine as_ (c1) ?_;try refine aa_ ?_
 refine as_ (c2) ?_;try refine aa_ ?_
 exact ag_
theorem FZ_(t b:Int)(ht:t≤9223372036854775807):PC Tryz.prog 267 [.int .i64 t,.int .u64 b] (.int .u64 (Be_ t b)):=by
 refine PC.fact 7 xU_ (by simp) puA puA ?_;unfold oB_;refine bd ?_;unfold Be_;by_cases h0:b=0
 ·subst h0;try refine aa_ ?_
  refine Rn_ ?_
  exact ag_
 have e0:(b==0)=false:=by simp[h0]
 rw[if_neg h0];obtain⟨R,hR⟩:∃R,R=pc_ b (t-1).toNat 1:=⟨_,rfl⟩
 rw[←hR];repeat(first|refine aa_ ?_|simp only[go_sem,e0])
 refine Rm_ ?_
 refine ao_ (fun x:Nat×Int=>[(6,.int .i64 ((x.1:Int)+1)),(5,.int .u64 x.2)]) (fun _=>[]) (fun x=>(t-1).toNat-x.1) (fun x=>x.1≤(t-1).toNat∧R=pc_ b ((t-1).toNat-x.1) x.2) (0,1) ⟨Nat.zero_le _,hR⟩ ?_ ?_
 ·exact ST_ [] []
 clear hR;rintro⟨i,d⟩ ⟨hi,hn⟩;dsimp only at hi hn ⊢;(try simp only[bz_,bt_,List.set_cons_zero,List.set_cons_succ])
 by_cases h1:(i:Int)+1<t
 ·have e1:decide ((i:Int)+1<t)=true:=decide_eq_true h1
  obtain⟨f,hf⟩:∃f,(t-1).toNat-i=f+1:=⟨(t-1).toNat-i-1,by omega⟩
  rw[hf]at hn;have hg:pc_ b (f+1) d=if IntKind.u64.wrap (b-d)≤d then b else pc_ b f (IntKind.u64.wrap (2*d)):=rfl
  rw[hg]at hn;have hw:IntKind.i64.wrap ((i:Int)+1+1)=((i+1:Nat):Int)+1:=by rw[ax_ (by omega) (by omega)];omega
  by_cases q:IntKind.u64.wrap (b-d)≤d
  ·have e2:decide (IntKind.u64.wrap (b-d)≤d)=true:=decide_eq_true q;rw[if_pos q]at hn;subst hn;repeat(first|refine aa_ ?_|simp only[go_sem,e1])
   refine ac_ ?_;repeat(first|refine aa_ ?_|simp only[go_sem,e2])
   refine Rn_ ?_
   exact ag_
  ·have e2:decide (IntKind.u64.wrap (b-d)≤d)=false:=decide_eq_false q;rw[if_neg q]at hn;repeat(first|refine aa_ ?_|simp only[go_sem,e1])
   refine ac_ ?_;repeat(first|refine aa_ ?_|simp only[go_sem,e2])
   refine ab_ ?_;repeat(first|refine aa_ ?_|simp only[go_sem,hw])
   refine⟨(i+1,IntKind.u64.wrap (2*d)),⟨by dsimp only;omega,by rw[hn,show (t-1).toNat-(i+1)=f by omega]⟩,by dsimp only;omega,?_⟩;exact ST_ [] []
 ·have e1:decide ((i:Int)+1<t)=false:=decide_eq_false h1;rw[show (t-1).toNat-i=0 by omega]at hn;have hg:pc_ b 0 d=d:=rfl;rw[hg]at hn;subst hn;repeat(first|refine aa_ ?_|simp only[go_sem,e1])
  refine Rm_ ?_
  exact ag_
theorem Mv_(s:aH_)(h:StR s.sto)(h1:s.reqs.length+s.rets.length≤1000000):PC Tryz.prog 215 [.agg (aK_ s.a)] (.agg (aK_ (QT_ s).a)):=by
 refine PC.fact 5 Dw_ (by simp) puA puA ?_;unfold st_;refine bd ?_;have hz:aw_ (mw_ s.rets) (eH_ s []) 0=eH_ s []:=rfl
 have hK : ∀ k, (aw_ (mw_ s.rets) (eH_ s []) k).sto = s.sto ∧ (aw_ (mw_ s.rets) (eH_ s []) k).reqs.length ≤ s.reqs.length + k ∧ (aw_ (mw_ s.rets) (eH_ s []) k).rets.length ≤ k := by
  intro k;induction k with
  |zero=>exact⟨rfl,Nat.le_refl _,Nat.le_refl _⟩
  | succ k ih =>
    rw[bA_];generalize aw_ (mw_ s.rets) (eH_ s []) k=s1 at *;unfold mw_;split
    ·unfold eH_;simp only[List.length_append,List.length_singleton];exact⟨ih.1,by omega,by omega⟩
    ·split
     ·unfold oM_;simp only[List.length_append,List.length_singleton];exact⟨ih.1,by omega,by omega⟩
     ·exact⟨ih.1,by omega,by omega⟩
 show Tri _ _ _ _ (PQ _ (.agg (aK_ (aw_ (mw_ s.rets) (eH_ s []) s.rets.length).a))) _ _
 try refine aa_ ?_
 refine iW_ 0 151 35 ?_ (by rfl) (by exact Ct_ _);simp only[go_sem,Cu_];refine ao_ (fun i:Nat=>[(4,.int .i64 i)]) (fun i=>[.var (aK_ { (aw_ (mw_ s.rets) (eH_ s []) i).a with rets:=.hs 35 2 0 (aw_ (mw_ s.rets) (eH_ s []) i).rets.length }),.var (aK_ lK_),.vec 35 (rows aL_ (aw_ (mw_ s.rets) (eH_ s []) i).rets)]) (fun i=>s.rets.length-i) (fun i=>i≤s.rets.length) 0 (Nat.zero_le _) ?_ ?_
 ·rw[hz];unfold eH_;exact ST_ [] [0,1,2]
 intro i hi;obtain⟨hK1,hK2,hK3⟩:=hK i;refine cC_ ?_;by_cases h1:i<s.rets.length
 ·have e1:=inT h1
  have hw:=af_ h1 (by omega);have hgd:(rows aL_ s.rets).getD i []=aL_ (dr_ s.rets i):=aB_ (f:=aL_) pv_ h1;have hs:=bA_ (mw_ s.rets) (eH_ s []) i;clear hK;generalize aw_ (mw_ s.rets) (eH_ s []) i=s1 at *;have hc:mw_ s.rets i s1=if s1.sto.now<(dr_ s.rets i).due then eH_ s1 (s1.rets++[dr_ s.rets i])else if vX_ s1.sto (dr_ s.rets i).block=true then oM_ s1 (dr_ s.rets i).block (dr_ s.rets i).tries else s1:=rfl
  rw[hc]at hs;have c1:=Nm_ s1 (by rw[hK1];exact h) (dr_ s.rets i).block;have c2:=Nk_ s1 (dr_ s.rets i).block (dr_ s.rets i).tries (by omega) s1.rets s1.rets.length;generalize dr_ s.rets i=r at *;have hsn:rows aL_ s1.rets++[aL_ r]=rows aL_ (s1.rets++[r]):=bF_ aL_ s1.rets r;repeat(first|refine aa_ ?_|simp only[go_sem,e1])
  refine ac_ ?_;repeat(first|refine aa_ ?_|simp only[go_sem,hgd])
  by_cases q:s1.sto.now<r.due
  ·have e2:decide (s1.sto.now<r.due)=true:=decide_eq_true q;rw[if_pos q]at hs;repeat(first|refine aa_ ?_|simp only[go_sem,e2])
   refine ac_ ?_;repeat(first|refine aa_ ?_|simp only[go_sem,hgd,hsn,hw])
   refine⟨i+1,h1,by omega,?_⟩;rw[hs];unfold eH_;exact ST_ [] [0,1,3]
  ·have e2:decide (s1.sto.now<r.due)=false:=decide_eq_false q
   rw[if_neg q]at hs;repeat(first|refine aa_ ?_|simp only[go_sem,e2])
   refine ab_ ?_;repeat(first|refine aa_ ?_|simp only[go_sem,hgd])
   refine FY_ [2] (c1) evd (aV_.mk' (by simp) evd) ?_;refine evg ?_;generalize vX_ s1.sto r.block=B at *;cases B with
   | true =>
     rw[if_pos rfl]at hs;try refine aa_ ?_
     refine ac_ ?_;repeat(first|refine aa_ ?_|simp only[go_sem,hgd])
     refine Qq_ [2] (c2) (by simp) evd (aV_.mk' (by simp) evd) ?_;refine evg ?_;repeat(first|refine aa_ ?_|simp only[go_sem,hw])
     refine⟨i+1,h1,by omega,?_⟩;rw[hs];unfold oM_;exact ST_ [] [0,1,2]
   | false =>
     rw[if_neg (by simp)]at hs;try refine aa_ ?_
     refine ab_ ?_;repeat(first|refine aa_ ?_|simp only[go_sem,hw])
     refine⟨i+1,h1,by omega,?_⟩;rw[hs];exact ST_ [] [0,1,2]
 ·obtain rfl:i=s.rets.length:=by omega
  have e1:=inF (s.rets.length);generalize aw_ (mw_ s.rets) (eH_ s []) s.rets.length=s1 at *;repeat(first|refine aa_ ?_|simp only[go_sem,e1])
  refine Rm_ ?_
  refine⟨_,(by first|rfl|exact evd),.inl ?_⟩;(try simp only[go_sem,Nat.reduceAdd,Nat.reduceSub,Nat.reduceMul,Nat.reduceLT,Nat.reduceLeDiff,Nat.reduceEqDiff,reduceIte,Int.reduceToNat,Int.reduceLT,Int.reduceLE,Int.reduceEq,Int.reduceNeg,reduceCtorEq,Int.reduceBEq,Int.reduceBNe,gD_])
  all_goals rfl
theorem QU_(n:Int):IntKind.i64.wrap n≤9223372036854775807:=by rw[IntKind.wrap_i64];omega
theorem Kd_(s:aH_)(L:List Req)(n:Nat)(hL:L.length=n+1)(hb:n≤1000000)(r0:Req):
 Tri Tryz.prog 117 0 (bH_.tl 6) (PQ [.cell 4 true 252] (.agg (aK_ (eH_ s (oQ_ L n)).a))) ⟨7,[.dead,.dead,.ptr 0 0,.ptr 1 0,.ptr 2 0,.hs 35 3 0 (n+1),.dead],[]⟩ [.var (aK_ s.a),.var (aL_ r0),.var (aK_ lK_),.vec 35 (rows aL_ L)]:=by
 unfold bH_;refine bd ?_;simp only[ad_.tl];obtain⟨R,hR⟩:∃R,R=oQ_ L n:=⟨_,rfl⟩
 rw[←hR];have hw0:IntKind.i64.wrap (((n+1:Nat):Int)-1)=(n:Int):=by rw[ax_ (by omega) (by omega)];omega
 have hw0':IntKind.i64.wrap ((n:Int)+1-1)=(n:Int):=by rw[ax_ (by omega) (by omega)];omega
 repeat(first|refine aa_ ?_|simp only[go_sem,hw0,hw0'])
 refine ao_ (fun x:Nat×List Req=>[(6,.int .i64 x.1)]) (fun x=>[.var (aK_ s.a),.var (aL_ r0),.var (aK_ lK_),.vec 35 (rows aL_ x.2)]) (fun x=>x.1) (fun x=>x.1≤n∧x.2.length=n+1∧R=oQ_ x.2 x.1) (n,L) ⟨Nat.le_refl _,hL,hR⟩ ?_ ?_
 ·exact ST_ [] [0,1,2,3]
 clear hR;rintro⟨k,l⟩ ⟨hk,hl,hn⟩;dsimp only at hk hl hn ⊢;(try simp only[bz_,bt_,List.set_cons_zero,List.set_cons_succ])
 have ht:List.take (n+1) (rows aL_ l)=rows aL_ l:=List.take_of_length_le (by simp[hl]);cases k with
 | zero =>
   have e0:decide ((0:Int)<((0:Nat):Int))=false:=by decide
   have hr:R=l:=hn;subst hr;repeat(first|refine aa_ ?_|simp only[go_sem,e0])
   refine Rm_ ?_
   refine⟨_,(by first|rfl|exact evd),.inl ?_⟩;(try simp only[go_sem,Nat.reduceAdd,Nat.reduceSub,Nat.reduceMul,Nat.reduceLT,Nat.reduceLeDiff,Nat.reduceEqDiff,reduceIte,Int.reduceToNat,Int.reduceLT,Int.reduceLE,Int.reduceEq,Int.reduceNeg,reduceCtorEq,Int.reduceBEq,Int.reduceBNe,ht,hl])
   all_goals rfl
 | succ k =>
   have e0:decide ((0:Int)<((k+1:Nat):Int))=true:=decide_eq_true (by omega);have hw:IntKind.i64.wrap (((k+1:Nat):Int)-1)=(k:Int):=by rw[ax_ (by omega) (by omega)];omega
   have hg1:(rows aL_ l).getD (k+1) []=aL_ (dr_ l (k+1)):=aB_ (f:=aL_) pv_ (by omega);have hg2:(rows aL_ l).getD k []=aL_ (dr_ l k):=aB_ (f:=aL_) pv_ (by omega);have hsk:oQ_ l (k+1)=if Mu_ (dr_ l (k+1)) (dr_ l k)=true then oQ_ ((l.set (k+1) (dr_ l k)).set k (dr_ l (k+1))) k else l:=rfl
   rw[hsk]at hn;have hset:∀ (m:List Req) (j:Nat) (x:Req),(rows aL_ m).set j (aL_ x)=rows aL_ (m.set j x):=fun m j x=>qW_ aL_ m j x
   unfold Mu_ at hn;generalize ha:dr_ l (k+1)=a at *;generalize hb2:dr_ l k=b at *;have hg3:(rows aL_ (l.set (k+1) b)).getD k []=aL_ ((l.set (k+1) b).getD k pv_):=aB_ (f:=aL_) pv_ (by simp;omega);have hlt1:k+1<n+1:=by omega
   have hlt2:k<n+1:=by omega
   by_cases q1:a.due<b.due
   ·have e1:decide (a.due<b.due)=true:=decide_eq_true q1;rw[e1,Bool.true_or,if_pos rfl]at hn;repeat(first|refine aa_ ?_|simp only[go_sem,e0,hg1,hg2,hw,e1,hl])
    refine ac_ ?_;repeat(first|refine aa_ ?_|simp only[go_sem,hg1,hg2,hg3,hw,hl,hset])
    refine⟨(k,(l.set (k+1) b).set k a),⟨by dsimp only;omega,by simp[hl],hn⟩,by dsimp only;omega,?_⟩;exact ST_ [] [0,1,2,3]
   have e1:decide (a.due<b.due)=false:=decide_eq_false q1;rw[e1,Bool.false_or]at hn;by_cases q2:a.due=b.due
   ·have e2:(a.due==b.due)=true:=by simp[q2]
    rw[decide_eq_true q2,Bool.true_and]at hn;by_cases q3:a.tag<b.tag
    ·have e3:decide (a.tag<b.tag)=true:=decide_eq_true q3;rw[e3,if_pos rfl]at hn;repeat(first|refine aa_ ?_|simp only[go_sem,e0,hg1,hg2,hw,e1,e2,e3,hl])
     refine ac_ ?_;repeat(first|refine aa_ ?_|simp only[go_sem,hg1,hg2,hg3,hw,hl,hset])
     refine⟨(k,(l.set (k+1) b).set k a),⟨by dsimp only;omega,by simp[hl],hn⟩,by dsimp only;omega,?_⟩;exact ST_ [] [0,1,2,3]
    ·have e3:decide (a.tag<b.tag)=false:=decide_eq_false q3;rw[e3,if_neg (by simp)]at hn;subst hn;repeat(first|refine aa_ ?_|simp only[go_sem,e0,hg1,hg2,hw,e1,e2,e3,hl])
     refine Rm_ ?_
     refine⟨_,(by first|rfl|exact evd),.inl ?_⟩;(try simp only[go_sem,Nat.reduceAdd,Nat.reduceSub,Nat.reduceMul,Nat.reduceLT,Nat.reduceLeDiff,Nat.reduceEqDiff,reduceIte,Int.reduceToNat,Int.reduceLT,Int.reduceLE,Int.reduceEq,Int.reduceNeg,reduceCtorEq,Int.reduceBEq,Int.reduceBNe,ht,hl])
     all_goals rfl
   ·have e2:(a.due==b.due)=false:=by simp[q2]
    rw[decide_eq_false q2,Bool.false_and,if_neg (by simp)]at hn;subst hn;repeat(first|refine aa_ ?_|simp only[go_sem,e0,hg1,hg2,hw,e1,e2,hl])
    refine Rm_ ?_
    refine⟨_,(by first|rfl|exact evd),.inl ?_⟩;(try simp only[go_sem,Nat.reduceAdd,Nat.reduceSub,Nat.reduceMul,Nat.reduceLT,Nat.reduceLeDiff,Nat.reduceEqDiff,reduceIte,Int.reduceToNat,Int.reduceLT,Int.reduceLE,Int.reduceEq,Int.reduceNeg,reduceCtorEq,Int.reduceBEq,Int.reduceBNe,ht,hl])
    all_goals rfl
theorem GA_(s:aH_)(r:Req)(h:StR s.sto)(hy:s.rets.length≤1000):PC Tryz.prog 249 [.agg (aK_ s.a),.agg (aL_ r)] (.agg (aK_ (vG_ s r).a)):=by
 have tl:=Kd_ s (s.rets++[rN_ s r]) s.rets.length (by simp) (by omega) (rN_ s r);refine PC.fact 7 xV_ (by simp) puA puA ?_;have hc:bH_=.seq bH_.hd (.seq (bH_.tl 1).hd (.seq (bH_.tl 2).hd (.seq (bH_.tl 3).hd (.seq (bH_.tl 4).hd (.seq (bH_.tl 5).hd (bH_.tl 6)))))):=rfl;rw[hc];clear hc;generalize bH_.tl 6=cT at *;unfold bH_;refine bd ?_;simp only[ad_.tl,ad_.hd];have c1:=vY_ s h r.block;have c2:=FZ_ (IntKind.i64.wrap (r.tries+1)) s.sto.cfg.lim.backoff (QU_ _);unfold vG_;generalize vX_ s.sto r.block=B at *;cases B with
 | false =>
   rw[if_pos rfl];try refine aa_ ?_
   refine Sv_ c1 ?_
   refine Rn_ ?_
   exact ag_
 | true =>
   rw[if_neg (by simp)];by_cases q:s.sto.cfg.lim.retry≤s.rets.length
   ·have e1:decide (s.sto.cfg.lim.retry≤(s.rets.length:Int))=true:=decide_eq_true q;rw[if_pos q];try refine aa_ ?_
    refine Sv_ c1 ?_
    refine ab_ ?_;repeat(first|refine aa_ ?_|simp only[go_sem,e1])
    refine Rn_ ?_
    exact ag_
   ·have e1:decide (s.sto.cfg.lim.retry≤(s.rets.length:Int))=false:=decide_eq_false q;have hsn:rows aL_ s.rets++[aL_ (rN_ s r)]=rows aL_ (s.rets++[rN_ s r]):=bF_ aL_ s.rets _;have hlr:aL_ { tag:=r.tag,block:=r.block,tries:=IntKind.i64.wrap (r.tries+1),due:=IntKind.u64.wrap (s.sto.now+Be_ (IntKind.i64.wrap (r.tries+1)) s.sto.cfg.lim.backoff) }=aL_ (rN_ s r):=rfl;rw[if_neg q];try refine aa_ ?_
    refine Sv_ c1 ?_
    refine ab_ ?_;repeat(first|refine aa_ ?_|simp only[go_sem,e1])
    refine Rm_ ?_
    refine as_ (c2) ?_;repeat(first|refine aa_ ?_|simp only[go_sem,hlr,hsn,gD_])
    refine cH_ ?_ tl;exact ST_ [] [0,1,2,5]
theorem KR_(s:ai_)(h:StR s):PC Tryz.prog 237 [.agg (aj_ s.a)] (.agg (rtc (Io_ s))):=by
 refine PC.fact 4 Bw_ (by simp) puA puA ?_;unfold qh_;refine bd ?_;have c1:=by_ s.nodes s.j.rt h.bn;have b1:=cl_ s.nodes s.j.rt;unfold Io_;generalize ak_ s.nodes s.j.rt=I at *;try refine aa_ ?_
 refine ae_ c1 ?_;by_cases q:0≤I
 ·have e1:decide (0≤I)=true:=decide_eq_true q
  have hg:=bP_ (t:=s.nodes) (i:=I.toNat) (by omega);by_cases q2:(nod s.nodes I.toNat).status=1
  ·have e2:((nod s.nodes I.toNat).status==1)=true:=by simp[q2]
   rw[if_pos ⟨q,q2⟩];repeat(first|refine aa_ ?_|simp only[go_sem,e1,hg,e2])
   refine Rn_ ?_
   exact ag_
  ·have e2:((nod s.nodes I.toNat).status==1)=false:=by simp[q2]
   rw[if_neg (fun h=>q2 h.2)];repeat(first|refine aa_ ?_|simp only[go_sem,e1,hg,e2])
   refine Rm_ ?_
   exact ag_
 ·have e1:decide (0≤I)=false:=decide_eq_false q;rw[if_neg (fun h=>q h.1)];repeat(first|refine aa_ ?_|simp only[go_sem,e1])
  refine Rm_ ?_
  exact ag_
theorem MM_{s:ai_}(h:StR s):0≤vy_ s∧vy_ s<s.nodes.length:=by
 have h1:=cl_ s.nodes s.j.rt;have h2:=DW_ h.tree (ht_ s) (vR_ s) (s.nodes.length+1) (ak_ s.nodes s.j.rt) (by omega);have h3:=h.jf;unfold vy_;omega
theorem Mi_(s:ai_)(h:StR s):PC Tryz.prog 212 [.agg (aj_ s.a)] (.agg (cU_ (Jw_ s))):=by
 refine PC.fact 3 tn_ (by simp) puA puA ?_;unfold lk_;refine bd ?_;have c1:=JR_ s h;have c2:=KR_ s h;have hb:=MM_ h;unfold Jw_;generalize vy_ s=I at *;generalize Io_ s=S at *;have hg:=bP_ (t:=s.nodes) (i:=I.toNat) (by omega);try refine aa_ ?_
 refine as_ (c1) ?_;repeat(first|refine aa_ ?_|simp only[go_sem,hg])
 refine as_ (c2) ?_;try refine aa_ ?_
 exact ag_
theorem zt_(s:aH_)(h:StR s.sto):PC Tryz.prog 172 [.agg (aK_ s.a)] (.tup [.agg (aK_ (mx_ s).1.a),.sl 96 false (rows cU_ (mx_ s).2)]):=by
 refine PC.fact 5 Bu_ (by simp) puA ⟨aH_.pul _,de_ _,trivial⟩ ?_;have c1:=Mi_ s.sto h;unfold mx_;generalize Jw_ s.sto=C at *;by_cases q:s.sent=true∧s.last=C
 ·rw[if_pos q];obtain⟨q1,q2⟩:=q;have e2:decide (s.last=C)=true:=decide_eq_true q2;unfold fU_;refine bd ?_;try refine aa_ ?_
  refine ae_ c1 ?_;repeat(first|refine aa_ ?_|simp only[go_sem,q1,e2])
  refine Rn_ ?_
  refine⟨_,(by first|rfl|exact evd),.inr ⟨.tup [.agg (aK_ s.a),.sl 0 true []],?_,⟨aH_.pul _,trivial,trivial⟩,Wk.tup ⟨Wk.refl _,Wk.empty _ _ _,trivial⟩⟩⟩;exact evd
 ·rw [if_neg q]
  have key:∀b:Bool,s.sent=b→(b=true→decide (s.last=C)=false)→Tri Tryz.prog 23 0 fU_ (PQ [.cell 2 true 252,.tmp 3] (.tup [.agg (aK_ (aH_.a ⟨s.sto,s.reqs,s.rets,s.tag,true,C,s.over,s.halt⟩)),.sl 96 false (rows cU_ [C])])) ⟨5,[.agg (aK_ s.a),.dead,.dead,.dead,.dead],[]⟩ []:=by
   intro b h1 h2;cases b with
   | false =>
     unfold fU_;dsimp only[nfO,Int.reduceOfNat,Int.reduceNegSucc,wA,wB,wC,wD,wE,wF,wG,wH,wI,wJ,wK,wL,wM,wN,wO,wP,wQ,wR,wS,wT,wU,wV,wW,wX,wY,wZ,om,oo,on,omg,og,ong,ci,cu,cb,cf,fA,lA,lF,bI,bC,sO,eX,lN,iX,kA,kB,kC,sR,cN];try refine aa_ ?_
     refine ae_ c1 ?_;repeat(first|refine aa_ ?_|simp only[go_sem,h1])
     refine Rm_ ?_
     refine⟨_,(by first|rfl|exact evd),.inr ⟨.tup [.agg (aK_ (aH_.a ⟨s.sto,s.reqs,s.rets,s.tag,true,C,s.over,s.halt⟩)),.sl 96 true (rows cU_ [C])],?_,⟨aH_.pul _,de_ _,trivial⟩,Wk.tup ⟨Wk.refl _,Wk.open_ _ _ _,trivial⟩⟩⟩;exact evd
   | true =>
     have e2:=h2 rfl;unfold fU_;dsimp only[nfO,Int.reduceOfNat,Int.reduceNegSucc,wA,wB,wC,wD,wE,wF,wG,wH,wI,wJ,wK,wL,wM,wN,wO,wP,wQ,wR,wS,wT,wU,wV,wW,wX,wY,wZ,om,oo,on,omg,og,ong,ci,cu,cb,cf,fA,lA,lF,bI,bC,sO,eX,lN,iX,kA,kB,kC,sR,cN];try refine aa_ ?_
     refine ae_ c1 ?_;repeat(first|refine aa_ ?_|simp only[go_sem,h1,e2])
     refine Rm_ ?_
     refine⟨_,(by first|rfl|exact evd),.inr ⟨.tup [.agg (aK_ (aH_.a ⟨s.sto,s.reqs,s.rets,s.tag,true,C,s.over,s.halt⟩)),.sl 96 true (rows cU_ [C])],?_,⟨aH_.pul _,de_ _,trivial⟩,Wk.tup ⟨Wk.refl _,Wk.open_ _ _ _,trivial⟩⟩⟩;exact evd
  exact key s.sent rfl fun hb=>decide_eq_false fun hl=>q ⟨hb,hl⟩
end Go.Proofs.YtkgimpdgncakjaaGreat
