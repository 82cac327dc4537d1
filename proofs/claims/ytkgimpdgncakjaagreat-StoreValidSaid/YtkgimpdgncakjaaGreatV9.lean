/-
 My texts Nd, Ne, joined.
-/
import Derived.Test.YtkgimpdgncakjaaGreatV8
import Derived.Test.YtkgimpdgncakjaaGreatW6
namespace Go.Proofs.YtkgimpdgncakjaaGreat
open Go Go.FH Go.RowKit
set_option linter.unusedVariables false
set_option linter.unusedSimpArgs false
set_option maxRecDepth 8000
set_option maxHeartbeats 4000000
theorem Cl_(x:Sta)(v:AV):(aI_ x).set 151 v=aI_ { x with rets:=v }:=by
 simp only[aI_,List.set_append,bb_,List.length_cons,Nat.reduceSub,Nat.reduceLT,if_false,List.set_cons_succ,List.set_cons_zero]
theorem Ck_(x:Sta):(aI_ x).getD 151 .dead=x.rets:=by
 simp only[aI_,List.getD_eq_getElem?_getD,List.getElem?_append,bb_,List.length_cons,Nat.reduceSub,Nat.reduceLT,if_false,List.getElem?_cons_succ,List.getElem?_cons_zero,Option.getD_some]
theorem gN_(l:List Req):List.take l.length (rows aJ_ l)=rows aJ_ l:=List.take_of_length_le (by simp)
theorem vS_(s:aG_)(h:StR s.sto)(r:Rt):PC Tryz.prog 245 [.agg (aI_ s.a),.agg (rtc r)] (.bool (vR_ s.sto r)):=by
 refine PC.fact 6 pr_ (by simp) puA puA ?_;unfold iH_;refine bd ?_;have c1:=bg_ s.sto.nodes r h.bn;have b1:=cH_ s.sto.nodes r;unfold vR_;generalize af_ s.sto.nodes r=I at *;try refine aa_ ?_
 refine aj_ c1 ?_;by_cases q:0≤I
 ·have e1:decide (0≤I)=true:=decide_eq_true q;have hg:=bR_ (t:=s.sto.nodes) (i:=I.toNat) (by omega);repeat(first|refine aa_ ?_|simp only[go_sem,e1,hg])
  have e2:((nod s.sto.nodes I.toNat).status==0)=decide ((nod s.sto.nodes I.toNat).status=0):=by rw[Bool.eq_iff_iff];simp
  refine⟨_,(by first|rfl|exact evd),.inl ?_⟩;(try simp only[go_sem,Nat.reduceAdd,Nat.reduceSub,Nat.reduceMul,Nat.reduceLT,Nat.reduceLeDiff,Nat.reduceEqDiff,reduceIte,Int.reduceToNat,Int.reduceLT,Int.reduceLE,Int.reduceEq,Int.reduceNeg,reduceCtorEq,Int.reduceBEq,Int.reduceBNe,e2])
  all_goals rfl
 ·have e1:decide (0≤I)=false:=decide_eq_false q;repeat(first|refine aa_ ?_|simp only[go_sem,e1])
  exact ae_
theorem Na_(s:aG_)(h:StR s.sto)(r:Rt):ar_ Tryz.prog 245 [.agg (aI_ { s.a with rets:=.hs 35 0 0 s.rets.length }),.agg (rtc r)] [.vec 35 (rows aJ_ s.rets)] (.bool (vR_ s.sto r)) [.vec 35 (rows aJ_ s.rets)]:=by
 refine ar_.lend rfl ?_;(try simp only[go_sem,gN_,List.length_cons,List.length_nil,List.range_succ,List.range_zero])
 exact vS_ s h r
theorem Kj_(s:aG_)(r:Rt)(k:Int)(hb:s.reqs.length≤1000000):PC Tryz.prog 246 [.agg (aI_ s.a),.agg (rtc r),.int .i64 k] (.agg (aI_ (oT_ s r k).a)):=by
 refine PC.fact 8 qw_ (by simp) puA puA ?_;unfold kJ_;refine bd ?_;have hsn:rows aJ_ s.reqs++[aJ_ ⟨s.tag,r,k,0⟩]=rows aJ_ (s.reqs++[⟨s.tag,r,k,0⟩]):=bB_ aJ_ s.reqs _;have ht:List.take (s.reqs.length+1) (rows aJ_ (s.reqs++[⟨s.tag,r,k,0⟩]))=rows aJ_ (s.reqs++[⟨s.tag,r,k,0⟩]):=List.take_of_length_le (by simp);repeat(first|refine aa_ ?_|simp only[go_sem,hsn,gN_])
 refine⟨_,(by first|rfl|exact evd),.inl ?_⟩;(try simp only[go_sem,Nat.reduceAdd,Nat.reduceSub,Nat.reduceMul,Nat.reduceLT,Nat.reduceLeDiff,Nat.reduceEqDiff,reduceIte,Int.reduceToNat,Int.reduceLT,Int.reduceLE,Int.reduceEq,Int.reduceNeg,reduceCtorEq,Int.reduceBEq,Int.reduceBNe,ht])
 all_goals rfl
theorem MY_(s:aG_)(r:Rt)(k:Int)(hb:s.reqs.length≤1000000)(l:List Req)(n:Nat):ar_ Tryz.prog 246 [.agg (aI_ { s.a with rets:=.hs 35 0 0 n }),.agg (rtc r),.int .i64 k] [.vec 35 (rows aJ_ l)] (.agg (aI_ { (oT_ s r k).a with rets:=.hs 35 0 0 n })) [.vec 35 (rows aJ_ l)]:=by
 refine ar_.fact 8 qw_ (by simp) ?_ (by simp);unfold kJ_;refine bd ?_;have hsn:rows aJ_ s.reqs++[aJ_ ⟨s.tag,r,k,0⟩]=rows aJ_ (s.reqs++[⟨s.tag,r,k,0⟩]):=bB_ aJ_ s.reqs _;have ht:List.take (s.reqs.length+1) (rows aJ_ (s.reqs++[⟨s.tag,r,k,0⟩]))=rows aJ_ (s.reqs++[⟨s.tag,r,k,0⟩]):=List.take_of_length_le (by simp);repeat(first|refine aa_ ?_|simp only[go_sem,hsn,gN_])
 refine bJ_ [2,3,4,5,6,7] [0] _ (by simp) (by first|rfl|exact evd) (by simp) rfl (by simp) (by simp) evd ?_;(try simp only[go_sem,Nat.reduceAdd,Nat.reduceSub,Nat.reduceMul,Nat.reduceLT,Nat.reduceLeDiff,Nat.reduceEqDiff,reduceIte,Int.reduceToNat,Int.reduceLT,Int.reduceLE,Int.reduceEq,Int.reduceNeg,reduceCtorEq,Int.reduceBEq,Int.reduceBNe,ht])
 all_goals rfl
theorem GD_(s:aG_)(l:List Rt)(h:StR s.sto)(hb:s.reqs.length+l.length≤1000000):PC Tryz.prog 217 [.agg (aI_ s.a),.sl 32 false (rows rtc l)] (.agg (aI_ (rU_ s l).a)):=by
 refine PC.fact 6 Bn_ (by simp) puA puA ?_;unfold qi_;refine bd ?_;have hz:av_ (fs_ l) s 0=s:=rfl
 have hS:∀k,(av_ (fs_ l) s k).sto=s.sto∧(av_ (fs_ l) s k).reqs.length≤s.reqs.length+k:=by
  intro k;induction k with
  |zero=>exact⟨rfl,Nat.le_refl _⟩
  | succ k ih =>
    rw[bi_];generalize av_ (fs_ l) s k=s1 at *;unfold fs_;split
    ·refine⟨ih.1,?_⟩;unfold oT_;simp only[List.length_append,List.length_singleton];omega
    ·exact⟨ih.1,by omega⟩
 show Tri _ _ _ _ (PQ _ (.agg (aI_ (av_ (fs_ l) s l.length).a))) _ _
 try refine aa_ ?_
 refine an_ (fun i:Nat=>[(5,.int .i64 i)]) (fun i=>[.var (aI_ (av_ (fs_ l) s i).a),.var (aI_ lO_)]) (fun i=>l.length-i) (fun i=>i≤l.length) 0 (Nat.zero_le _) ?_ ?_
 ·rw[hz];exact SN_ [] [0,1]
 intro i hi;refine cJ_ ?_;by_cases h1:i<l.length
 ·have e1:=inT h1
  have hw:=ag_ h1 (by omega);have hgd:=aA_ (f:=rtc) rt0 h1;have hs:=bi_ (fs_ l) s i;obtain⟨hS1,hS2⟩:=hS i;have hc:fs_ l i (av_ (fs_ l) s i)=if vR_ (av_ (fs_ l) s i).sto (l.getD i rt0)=true then oT_ (av_ (fs_ l) s i) (l.getD i rt0) 0 else av_ (fs_ l) s i:=rfl
  have c1:=vS_ (av_ (fs_ l) s i) (by rw[hS1];exact h) (l.getD i rt0);have c2:=Kj_ (av_ (fs_ l) s i) (l.getD i rt0) 0 (by omega);generalize av_ (fs_ l) s i=s1 at *;generalize l.getD i rt0=r at *;generalize vR_ s1.sto r=B at *;rw[hc]at hs;repeat(first|refine aa_ ?_|simp only[go_sem,e1])
  refine ac_ ?_;repeat(first|refine aa_ ?_|simp only[go_sem,hgd])
  refine ao_ (c1) ?_;cases B with
  | true =>
    rw[if_pos rfl]at hs;try refine aa_ ?_
    refine ac_ ?_;repeat(first|refine aa_ ?_|simp only[go_sem,hgd])
    refine ao_ (c2) ?_;repeat(first|refine aa_ ?_|simp only[go_sem,hw])
    refine⟨i+1,h1,by omega,?_⟩;rw[hs];exact SN_ [] [0,1]
  | false =>
    rw[if_neg (by simp)]at hs;try refine aa_ ?_
    refine ab_ ?_;repeat(first|refine aa_ ?_|simp only[go_sem,hw])
    refine⟨i+1,h1,by omega,?_⟩;rw[hs];exact SN_ [] [0,1]
 ·obtain rfl:i=l.length:=by omega
  have e1:=inF (l.length);repeat(first|refine aa_ ?_|simp only[go_sem,e1])
  refine Rh_ ?_
  exact ae_
theorem Og_:WkC (ak_ eW_) (ak_ fV_.a):=by
 unfold eW_ fV_ ah_.a ak_;dsimp only;refine WkC.app ?_ ?_
 ·unfold nK_ bu_.a bn_;dsimp only;exact(WkC.refl _).app (.same _ (.same _ ((WkC.refl _).app ((WkC.refl _).app (.one (Wk.empty _ _ _) fun h=>h)))))
 ·exact .cons (Wk.empty _ _ _) (fun h=>h) (.cons (Wk.empty _ _ _) (fun h=>h) ((WkC.refl _).app ((WkC.refl _).app (.cons (Wk.empty _ _ _) (fun h=>h) (.cons (Wk.empty _ _ _) (fun h=>h) (.cons (Wk.empty _ _ _) (fun h=>h) (.same _ ((WkC.refl _).app (.one (Wk.empty _ _ _) fun h=>h)))))))))
theorem ID_:Wk (.agg (aI_ lO_)) (.agg (aI_ Fk_.a)):=by
 refine Wk.agg ?_;unfold lO_ Fk_ aG_.a aI_;dsimp only;exact Og_.app (.cons (Wk.empty _ _ _) (fun h=>h) (.cons (Wk.empty _ _ _) (fun h=>h) (WkC.refl _)))
theorem CL_:PuL (aI_ lO_):=by simp[lO_,aI_,cR_,PuL,Pu,dH_,eW_,ak_,gZ_,cw_,gT_,dK_,nK_,bn_,cp0,jW_]
theorem Gz_(s:aG_)(v:Vdt)(hb:s.reqs.length≤1000000):PC Tryz.prog 248 [.agg (aI_ s.a),.agg (cG_ v)] (.tup [.agg (aJ_ (bX_ s v).1),.agg (aI_ (bX_ s v).2.1.a),.int .i64 (bX_ s v).2.2]):=by
 refine PC.fact 9 xK_ (by simp) puA ⟨eb_ _,aG_.pul _,trivial,trivial⟩ ?_;unfold oF_;refine bd ?_;obtain⟨R,hR⟩:∃R,R=bX_ s v:=⟨_,rfl⟩
 rw[←hR];unfold bX_ bD_ at hR;try refine aa_ ?_
 refine an_ (fun i:Nat=>[(7,.int .i64 i)]) (fun _=>[.var (aI_ s.a),.var (cG_ v),.var (aJ_ pA_),.var (aI_ lO_)]) (fun i=>s.reqs.length-i)
  (fun i=>i≤s.reqs.length∧R=(match dV_ (fun i=>decide ((dx_ s.reqs i).tag=v.tag)) (s.reqs.length-i) i with
 |some i=>(dx_ s.reqs i,Qr_ s (rh_ s.reqs i),0)
 |none=>(pA_,Fk_,23))) 0 ⟨Nat.zero_le _,hR⟩ ?_ ?_
 ·exact SN_ [] [0,1,2,3]
 clear hR;rintro i ⟨hi,hn⟩;refine cJ_ ?_;by_cases h1:i<s.reqs.length
 ·have e1:=inT h1
  have hw:=ag_ h1 (by omega);have hgd:(rows aJ_ s.reqs).getD i []=aJ_ (dx_ s.reqs i):=aA_ (f:=aJ_) pA_ h1;by_cases q:(dx_ s.reqs i).tag=v.tag
  ·rw[fD_ h1 (decide_eq_true q)]at hn;dsimp only at hn;generalize hrq:dx_ s.reqs i=r at *;have e2:(r.tag==v.tag)=true:=by simp[q]
   have hw1:IntKind.i64.wrap ((i:Int)+1)=((i+1:Nat):Int):=hw;have ht1:List.take i (rows aJ_ s.reqs)=rows aJ_ (s.reqs.take i):=ky_ _ _ _;have ht2:List.drop (i+1) (rows aJ_ s.reqs)=rows aJ_ (s.reqs.drop (i+1)):=nC_ _ _ _;have ht3:rows aJ_ (s.reqs.take i)++rows aJ_ (s.reqs.drop (i+1))=rows aJ_ (rh_ s.reqs i):=wj_ _ _ _;have ht4:(s.reqs.take i).length+(s.reqs.drop (i+1)).length=(rh_ s.reqs i).length:=by unfold rh_;rw[List.length_append]
   have ht5:List.take (s.reqs.length-(i+1)) (rows aJ_ (s.reqs.drop (i+1)))=rows aJ_ (s.reqs.drop (i+1)):=List.take_of_length_le (by simp);have hlo:(rh_ s.reqs i).length≤s.reqs.length:=(Iy_ _ _).1;subst hn;dsimp only;repeat(first|refine aa_ ?_|simp only[go_sem,e1])
   refine ac_ ?_;repeat(first|refine aa_ ?_|simp only[go_sem,hgd,e2])
   refine ac_ ?_;repeat(first|refine aa_ ?_|simp only[go_sem,hgd,hw1,ht1,ht2,ht3,ht4,ht5])
   refine⟨_,(by first|rfl|exact evd),.inl ?_⟩;(try simp only[go_sem,Nat.reduceAdd,Nat.reduceSub,Nat.reduceMul,Nat.reduceLT,Nat.reduceLeDiff,Nat.reduceEqDiff,reduceIte,Int.reduceToNat,Int.reduceLT,Int.reduceLE,Int.reduceEq,Int.reduceNeg,reduceCtorEq,Int.reduceBEq,Int.reduceBNe,gN_])
   all_goals rfl
  ·rw[fC_ h1 (decide_eq_false q)]at hn;have e2:((dx_ s.reqs i).tag==v.tag)=false:=by simp[q]
   repeat(first|refine aa_ ?_|simp only[go_sem,e1])
   refine ac_ ?_;repeat(first|refine aa_ ?_|simp only[go_sem,hgd,e2])
   refine ab_ ?_;repeat(first|refine aa_ ?_|simp only[go_sem,hw])
   refine⟨i+1,⟨h1,hn⟩,by omega,?_⟩;exact SN_ [] [0,1,2,3]
 ·obtain rfl:i=s.reqs.length:=by omega
  have e1:=inF (s.reqs.length);rw[fB_]at hn;dsimp only at hn;subst hn;dsimp only;repeat(first|refine aa_ ?_|simp only[go_sem,e1])
  refine Rh_ ?_
  refine⟨_,(by first|rfl|exact evd),.inr ⟨.tup [.agg (aJ_ pA_),.agg (aI_ lO_),.int .i64 23],?_,?_,Wk.tup ⟨Wk.refl _,?_,Wk.refl _,trivial⟩⟩⟩
  ·exact evd
  ·exact⟨eb_ _,CL_,trivial,trivial⟩
  ·exact ID_
theorem sD_(s:aG_)(l:List Req)(h:StR s.sto)(hb:l.length≤1000000):PC Tryz.prog 247 [.agg (aI_ s.a),.sl 35 false (rows aJ_ l)] (.sl 35 false (rows aJ_ (iS_ s.sto.nodes l))):=by
 refine PC.fact 7 xL_ (by simp) puA puA ?_;unfold oG_;refine bd ?_;have hz:av_ (fe_ s.sto.nodes l) [] 0=[]:=rfl
 have hL:∀k,(av_ (fe_ s.sto.nodes l) [] k).length≤k:=fun k=>by
  have:=hC_ (f:=fe_ s.sto.nodes l) (a:=[]) (fun i o=>by unfold fe_;split<;>simp) k;simpa using this
 show Tri _ _ _ _ (PQ _ (.sl 35 false (rows aJ_ (av_ (fe_ s.sto.nodes l) [] l.length)))) _ _
 try refine aa_ ?_
 refine de_ 5 35 ?_;simp only[go_sem];refine an_ (fun i:Nat=>[(6,.int .i64 i),(5,.hs 35 1 0 (av_ (fe_ s.sto.nodes l) [] i).length)]) (fun i=>[.var (aI_ s.a),.vec 35 (rows aJ_ (av_ (fe_ s.sto.nodes l) [] i))]) (fun i=>l.length-i) (fun i=>i≤l.length) 0 (Nat.zero_le _) ?_ ?_
 ·rw[hz];exact SN_ [] [0,1]
 intro i hi;have hLi:=hL i;refine cJ_ ?_;by_cases h1:i<l.length
 ·have e1:=inT h1
  have hw:=ag_ h1 (by omega);have hgd:(rows aJ_ l).getD i []=aJ_ (dx_ l i):=aA_ (f:=aJ_) pA_ h1;have hs:=bi_ (fe_ s.sto.nodes l) [] i;have c1:=bg_ s.sto.nodes (dx_ l i).block h.bn;generalize av_ (fe_ s.sto.nodes l) [] i=o at *;have hc:fe_ s.sto.nodes l i o=if 0≤af_ s.sto.nodes (dx_ l i).block then o++[dx_ l i]else o:=rfl
  rw[hc]at hs;generalize dx_ l i=r at *;have hsn:rows aJ_ o++[aJ_ r]=rows aJ_ (o++[r]):=bB_ aJ_ o r;repeat(first|refine aa_ ?_|simp only[go_sem,e1])
  refine ac_ ?_;repeat(first|refine aa_ ?_|simp only[go_sem,hgd])
  refine ao_ (c1) ?_;try refine aa_ ?_
  by_cases q:0≤af_ s.sto.nodes r.block
  ·have e2:decide (0≤af_ s.sto.nodes r.block)=true:=decide_eq_true q;rw[if_pos q]at hs;repeat(first|refine aa_ ?_|simp only[go_sem,e2])
   refine ac_ ?_;repeat(first|refine aa_ ?_|simp only[go_sem,hgd,hsn,hw])
   refine⟨i+1,h1,by omega,?_⟩;rw[hs];exact SN_ [] [0,3]
  ·have e2:decide (0≤af_ s.sto.nodes r.block)=false:=decide_eq_false q;rw[if_neg q]at hs;repeat(first|refine aa_ ?_|simp only[go_sem,e2])
   refine ab_ ?_;repeat(first|refine aa_ ?_|simp only[go_sem,hw])
   refine⟨i+1,h1,by omega,?_⟩;rw[hs];exact SN_ [] [0,1]
 ·obtain rfl:i=l.length:=by omega
  have e1:=inF (l.length);generalize av_ (fe_ s.sto.nodes l) [] l.length=o at *;repeat(first|refine aa_ ?_|simp only[go_sem,e1])
  refine Rh_ ?_
  refine⟨_,(by first|rfl|exact evd),.inl ?_⟩;(try simp only[go_sem,Nat.reduceAdd,Nat.reduceSub,Nat.reduceMul,Nat.reduceLT,Nat.reduceLeDiff,Nat.reduceEqDiff,reduceIte,Int.reduceToNat,Int.reduceLT,Int.reduceLE,Int.reduceEq,Int.reduceNeg,reduceCtorEq,Int.reduceBEq,Int.reduceBNe,gN_])
  all_goals rfl
theorem zg_(s:aG_)(h:StR s.sto)(h1:s.reqs.length≤1000000)(h2:s.rets.length≤1000000):PC Tryz.prog 216 [.agg (aI_ s.a)] (.agg (aI_ (mz_ s).a)):=by
 refine PC.fact 3 Bl_ (by simp) puA puA ?_;unfold qh_;refine bd ?_;have c1:=sD_ s s.reqs h h1;have c2:=sD_ s s.rets h h2;unfold mz_;generalize iS_ s.sto.nodes s.reqs=k1 at *;generalize iS_ s.sto.nodes s.rets=k2 at *;try refine aa_ ?_
 refine ao_ (c1) ?_;try refine aa_ ?_
 refine ao_ (c2) ?_;try refine aa_ ?_
 exact ae_
theorem FR_(t b:Int)(ht:t≤9223372036854775807):PC Tryz.prog 267 [.int .i64 t,.int .u64 b] (.int .u64 (AZ_ t b)):=by
 refine PC.fact 7 xI_ (by simp) puA puA ?_;unfold oE_;refine bd ?_;unfold AZ_;by_cases h0:b=0
 ·subst h0;try refine aa_ ?_
  refine Ri_ ?_
  exact ae_
 have e0:(b==0)=false:=by simp[h0]
 rw[if_neg h0];obtain⟨R,hR⟩:∃R,R=pi_ b (t-1).toNat 1:=⟨_,rfl⟩
 rw[←hR];repeat(first|refine aa_ ?_|simp only[go_sem,e0])
 refine Rh_ ?_
 refine an_ (fun x:Nat×Int=>[(6,.int .i64 ((x.1:Int)+1)),(5,.int .u64 x.2)]) (fun _=>[]) (fun x=>(t-1).toNat-x.1) (fun x=>x.1≤(t-1).toNat∧R=pi_ b ((t-1).toNat-x.1) x.2) (0,1) ⟨Nat.zero_le _,hR⟩ ?_ ?_
 ·exact SN_ [] []
 clear hR;rintro⟨i,d⟩ ⟨hi,hn⟩;dsimp only at hi hn ⊢;(try simp only[cl_,bZ_,List.set_cons_zero,List.set_cons_succ])
 by_cases h1:(i:Int)+1<t
 ·have e1:decide ((i:Int)+1<t)=true:=decide_eq_true h1
  obtain⟨f,hf⟩:∃f,(t-1).toNat-i=f+1:=⟨(t-1).toNat-i-1,by omega⟩
  rw[hf]at hn;have hg:pi_ b (f+1) d=if IntKind.u64.wrap (b-d)≤d then b else pi_ b f (IntKind.u64.wrap (2*d)):=rfl
  rw[hg]at hn;have hw:IntKind.i64.wrap ((i:Int)+1+1)=((i+1:Nat):Int)+1:=by rw[aC_ (by omega) (by omega)];omega
  by_cases q:IntKind.u64.wrap (b-d)≤d
  ·have e2:decide (IntKind.u64.wrap (b-d)≤d)=true:=decide_eq_true q;rw[if_pos q]at hn;subst hn;repeat(first|refine aa_ ?_|simp only[go_sem,e1])
   refine ac_ ?_;repeat(first|refine aa_ ?_|simp only[go_sem,e2])
   refine Ri_ ?_
   exact ae_
  ·have e2:decide (IntKind.u64.wrap (b-d)≤d)=false:=decide_eq_false q;rw[if_neg q]at hn;repeat(first|refine aa_ ?_|simp only[go_sem,e1])
   refine ac_ ?_;repeat(first|refine aa_ ?_|simp only[go_sem,e2])
   refine ab_ ?_;repeat(first|refine aa_ ?_|simp only[go_sem,hw])
   refine⟨(i+1,IntKind.u64.wrap (2*d)),⟨by dsimp only;omega,by rw[hn,show (t-1).toNat-(i+1)=f by omega]⟩,by dsimp only;omega,?_⟩;exact SN_ [] []
 ·have e1:decide ((i:Int)+1<t)=false:=decide_eq_false h1;rw[show (t-1).toNat-i=0 by omega]at hn;have hg:pi_ b 0 d=d:=rfl;rw[hg]at hn;subst hn;repeat(first|refine aa_ ?_|simp only[go_sem,e1])
  refine Rh_ ?_
  exact ae_
theorem Mm_(s:aG_)(h:StR s.sto)(h1:s.reqs.length+s.rets.length≤1000000):PC Tryz.prog 215 [.agg (aI_ s.a)] (.agg (aI_ (Jz_ s).a)):=by
 refine PC.fact 5 Dv_ (by simp) puA puA ?_;unfold sp_;refine bd ?_;have hz:av_ (kM_ s.rets) (et_ s []) 0=et_ s []:=rfl
 have hK : ∀ k, (av_ (kM_ s.rets) (et_ s []) k).sto = s.sto ∧ (av_ (kM_ s.rets) (et_ s []) k).reqs.length ≤ s.reqs.length + k ∧ (av_ (kM_ s.rets) (et_ s []) k).rets.length ≤ k := by
  intro k;induction k with
  |zero=>exact⟨rfl,Nat.le_refl _,Nat.le_refl _⟩
  | succ k ih =>
    rw[bi_];generalize av_ (kM_ s.rets) (et_ s []) k=s1 at *;unfold kM_;split
    ·unfold et_;simp only[List.length_append,List.length_singleton];exact⟨ih.1,by omega,by omega⟩
    ·split
     ·unfold oT_;simp only[List.length_append,List.length_singleton];exact⟨ih.1,by omega,by omega⟩
     ·exact⟨ih.1,by omega,by omega⟩
 show Tri _ _ _ _ (PQ _ (.agg (aI_ (av_ (kM_ s.rets) (et_ s []) s.rets.length).a))) _ _
 try refine aa_ ?_
 refine jd_ 0 151 35 ?_ (by rfl) (by exact Ck_ _);simp only[go_sem,Cl_];refine an_ (fun i:Nat=>[(4,.int .i64 i)]) (fun i=>[.var (aI_ { (av_ (kM_ s.rets) (et_ s []) i).a with rets:=.hs 35 2 0 (av_ (kM_ s.rets) (et_ s []) i).rets.length }),.var (aI_ lO_),.vec 35 (rows aJ_ (av_ (kM_ s.rets) (et_ s []) i).rets)]) (fun i=>s.rets.length-i) (fun i=>i≤s.rets.length) 0 (Nat.zero_le _) ?_ ?_
 ·rw[hz];unfold et_;exact SN_ [] [0,1,2]
 intro i hi;obtain⟨hK1,hK2,hK3⟩:=hK i;refine cJ_ ?_;by_cases h1:i<s.rets.length
 ·have e1:=inT h1
  have hw:=ag_ h1 (by omega);have hgd:(rows aJ_ s.rets).getD i []=aJ_ (dx_ s.rets i):=aA_ (f:=aJ_) pA_ h1;have hs:=bi_ (kM_ s.rets) (et_ s []) i;clear hK;generalize av_ (kM_ s.rets) (et_ s []) i=s1 at *;have hc:kM_ s.rets i s1=if s1.sto.now<(dx_ s.rets i).due then et_ s1 (s1.rets++[dx_ s.rets i])else if vR_ s1.sto (dx_ s.rets i).block=true then oT_ s1 (dx_ s.rets i).block (dx_ s.rets i).tries else s1:=rfl
  rw[hc]at hs;have c1:=Na_ s1 (by rw[hK1];exact h) (dx_ s.rets i).block;have c2:=MY_ s1 (dx_ s.rets i).block (dx_ s.rets i).tries (by omega) s1.rets s1.rets.length;generalize dx_ s.rets i=r at *;have hsn:rows aJ_ s1.rets++[aJ_ r]=rows aJ_ (s1.rets++[r]):=bB_ aJ_ s1.rets r;repeat(first|refine aa_ ?_|simp only[go_sem,e1])
  refine ac_ ?_;repeat(first|refine aa_ ?_|simp only[go_sem,hgd])
  by_cases q:s1.sto.now<r.due
  ·have e2:decide (s1.sto.now<r.due)=true:=decide_eq_true q;rw[if_pos q]at hs;repeat(first|refine aa_ ?_|simp only[go_sem,e2])
   refine ac_ ?_;repeat(first|refine aa_ ?_|simp only[go_sem,hgd,hsn,hw])
   refine⟨i+1,h1,by omega,?_⟩;rw[hs];unfold et_;exact SN_ [] [0,1,3]
  ·have e2:decide (s1.sto.now<r.due)=false:=decide_eq_false q
   rw[if_neg q]at hs;repeat(first|refine aa_ ?_|simp only[go_sem,e2])
   refine ab_ ?_;repeat(first|refine aa_ ?_|simp only[go_sem,hgd])
   refine FQ_ [2] (c1) evd (br_.mk' (by simp) evd) ?_;refine evg ?_;generalize vR_ s1.sto r.block=B at *;cases B with
   | true =>
     rw[if_pos rfl]at hs;try refine aa_ ?_
     refine ac_ ?_;repeat(first|refine aa_ ?_|simp only[go_sem,hgd])
     refine Qh_ [2] (c2) (by simp) evd (br_.mk' (by simp) evd) ?_;refine evg ?_;repeat(first|refine aa_ ?_|simp only[go_sem,hw])
     refine⟨i+1,h1,by omega,?_⟩;rw[hs];unfold oT_;exact SN_ [] [0,1,2]
   | false =>
     rw[if_neg (by simp)]at hs;try refine aa_ ?_
     refine ab_ ?_;repeat(first|refine aa_ ?_|simp only[go_sem,hw])
     refine⟨i+1,h1,by omega,?_⟩;rw[hs];exact SN_ [] [0,1,2]
 ·obtain rfl:i=s.rets.length:=by omega
  have e1:=inF (s.rets.length);generalize av_ (kM_ s.rets) (et_ s []) s.rets.length=s1 at *;repeat(first|refine aa_ ?_|simp only[go_sem,e1])
  refine Rh_ ?_
  refine⟨_,(by first|rfl|exact evd),.inl ?_⟩;(try simp only[go_sem,Nat.reduceAdd,Nat.reduceSub,Nat.reduceMul,Nat.reduceLT,Nat.reduceLeDiff,Nat.reduceEqDiff,reduceIte,Int.reduceToNat,Int.reduceLT,Int.reduceLE,Int.reduceEq,Int.reduceNeg,reduceCtorEq,Int.reduceBEq,Int.reduceBNe,gN_])
  all_goals rfl
theorem QM_(n:Int):IntKind.i64.wrap n≤9223372036854775807:=by rw[IntKind.wrap_i64];omega
theorem JY_(s:aG_)(L:List Req)(n:Nat)(hL:L.length=n+1)(hb:n≤1000000)(r0:Req):
 Tri Tryz.prog 117 0 (bI_.tl 6) (PQ [.cell 4 true 252] (.agg (aI_ (et_ s (oY_ L n)).a))) ⟨7,[.dead,.dead,.ptr 0 0,.ptr 1 0,.ptr 2 0,.hs 35 3 0 (n+1),.dead],[]⟩ [.var (aI_ s.a),.var (aJ_ r0),.var (aI_ lO_),.vec 35 (rows aJ_ L)]:=by
 unfold bI_;refine bd ?_;simp only[ad_.tl];obtain⟨R,hR⟩:∃R,R=oY_ L n:=⟨_,rfl⟩
 rw[←hR];have hw0:IntKind.i64.wrap (((n+1:Nat):Int)-1)=(n:Int):=by rw[aC_ (by omega) (by omega)];omega
 have hw0':IntKind.i64.wrap ((n:Int)+1-1)=(n:Int):=by rw[aC_ (by omega) (by omega)];omega
 repeat(first|refine aa_ ?_|simp only[go_sem,hw0,hw0'])
 refine an_ (fun x:Nat×List Req=>[(6,.int .i64 x.1)]) (fun x=>[.var (aI_ s.a),.var (aJ_ r0),.var (aI_ lO_),.vec 35 (rows aJ_ x.2)]) (fun x=>x.1) (fun x=>x.1≤n∧x.2.length=n+1∧R=oY_ x.2 x.1) (n,L) ⟨Nat.le_refl _,hL,hR⟩ ?_ ?_
 ·exact SN_ [] [0,1,2,3]
 clear hR;rintro⟨k,l⟩ ⟨hk,hl,hn⟩;dsimp only at hk hl hn ⊢;(try simp only[cl_,bZ_,List.set_cons_zero,List.set_cons_succ])
 have ht:List.take (n+1) (rows aJ_ l)=rows aJ_ l:=List.take_of_length_le (by simp[hl]);cases k with
 | zero =>
   have e0:decide ((0:Int)<((0:Nat):Int))=false:=by decide
   have hr:R=l:=hn;subst hr;repeat(first|refine aa_ ?_|simp only[go_sem,e0])
   refine Rh_ ?_
   refine⟨_,(by first|rfl|exact evd),.inl ?_⟩;(try simp only[go_sem,Nat.reduceAdd,Nat.reduceSub,Nat.reduceMul,Nat.reduceLT,Nat.reduceLeDiff,Nat.reduceEqDiff,reduceIte,Int.reduceToNat,Int.reduceLT,Int.reduceLE,Int.reduceEq,Int.reduceNeg,reduceCtorEq,Int.reduceBEq,Int.reduceBNe,ht,hl])
   all_goals rfl
 | succ k =>
   have e0:decide ((0:Int)<((k+1:Nat):Int))=true:=decide_eq_true (by omega);have hw:IntKind.i64.wrap (((k+1:Nat):Int)-1)=(k:Int):=by rw[aC_ (by omega) (by omega)];omega
   have hg1:(rows aJ_ l).getD (k+1) []=aJ_ (dx_ l (k+1)):=aA_ (f:=aJ_) pA_ (by omega);have hg2:(rows aJ_ l).getD k []=aJ_ (dx_ l k):=aA_ (f:=aJ_) pA_ (by omega);have hsk:oY_ l (k+1)=if Ml_ (dx_ l (k+1)) (dx_ l k)=true then oY_ ((l.set (k+1) (dx_ l k)).set k (dx_ l (k+1))) k else l:=rfl
   rw[hsk]at hn;have hset:∀ (m:List Req) (j:Nat) (x:Req),(rows aJ_ m).set j (aJ_ x)=rows aJ_ (m.set j x):=fun m j x=>qX_ aJ_ m j x
   unfold Ml_ at hn;generalize ha:dx_ l (k+1)=a at *;generalize hb2:dx_ l k=b at *;have hg3:(rows aJ_ (l.set (k+1) b)).getD k []=aJ_ ((l.set (k+1) b).getD k pA_):=aA_ (f:=aJ_) pA_ (by simp;omega);have hlt1:k+1<n+1:=by omega
   have hlt2:k<n+1:=by omega
   by_cases q1:a.due<b.due
   ·have e1:decide (a.due<b.due)=true:=decide_eq_true q1;rw[e1,Bool.true_or,if_pos rfl]at hn;repeat(first|refine aa_ ?_|simp only[go_sem,e0,hg1,hg2,hw,e1,hl])
    refine ac_ ?_;repeat(first|refine aa_ ?_|simp only[go_sem,hg1,hg2,hg3,hw,hl,hset])
    refine⟨(k,(l.set (k+1) b).set k a),⟨by dsimp only;omega,by simp[hl],hn⟩,by dsimp only;omega,?_⟩;exact SN_ [] [0,1,2,3]
   have e1:decide (a.due<b.due)=false:=decide_eq_false q1;rw[e1,Bool.false_or]at hn;by_cases q2:a.due=b.due
   ·have e2:(a.due==b.due)=true:=by simp[q2]
    rw[decide_eq_true q2,Bool.true_and]at hn;by_cases q3:a.tag<b.tag
    ·have e3:decide (a.tag<b.tag)=true:=decide_eq_true q3;rw[e3,if_pos rfl]at hn;repeat(first|refine aa_ ?_|simp only[go_sem,e0,hg1,hg2,hw,e1,e2,e3,hl])
     refine ac_ ?_;repeat(first|refine aa_ ?_|simp only[go_sem,hg1,hg2,hg3,hw,hl,hset])
     refine⟨(k,(l.set (k+1) b).set k a),⟨by dsimp only;omega,by simp[hl],hn⟩,by dsimp only;omega,?_⟩;exact SN_ [] [0,1,2,3]
    ·have e3:decide (a.tag<b.tag)=false:=decide_eq_false q3;rw[e3,if_neg (by simp)]at hn;subst hn;repeat(first|refine aa_ ?_|simp only[go_sem,e0,hg1,hg2,hw,e1,e2,e3,hl])
     refine Rh_ ?_
     refine⟨_,(by first|rfl|exact evd),.inl ?_⟩;(try simp only[go_sem,Nat.reduceAdd,Nat.reduceSub,Nat.reduceMul,Nat.reduceLT,Nat.reduceLeDiff,Nat.reduceEqDiff,reduceIte,Int.reduceToNat,Int.reduceLT,Int.reduceLE,Int.reduceEq,Int.reduceNeg,reduceCtorEq,Int.reduceBEq,Int.reduceBNe,ht,hl])
     all_goals rfl
   ·have e2:(a.due==b.due)=false:=by simp[q2]
    rw[decide_eq_false q2,Bool.false_and,if_neg (by simp)]at hn;subst hn;repeat(first|refine aa_ ?_|simp only[go_sem,e0,hg1,hg2,hw,e1,e2,hl])
    refine Rh_ ?_
    refine⟨_,(by first|rfl|exact evd),.inl ?_⟩;(try simp only[go_sem,Nat.reduceAdd,Nat.reduceSub,Nat.reduceMul,Nat.reduceLT,Nat.reduceLeDiff,Nat.reduceEqDiff,reduceIte,Int.reduceToNat,Int.reduceLT,Int.reduceLE,Int.reduceEq,Int.reduceNeg,reduceCtorEq,Int.reduceBEq,Int.reduceBNe,ht,hl])
    all_goals rfl
theorem Gt_(s:aG_)(r:Req)(h:StR s.sto)(hy:s.rets.length≤1000):PC Tryz.prog 249 [.agg (aI_ s.a),.agg (aJ_ r)] (.agg (aI_ (kT_ s r).a)):=by
 have tl:=JY_ s (s.rets++[rO_ s r]) s.rets.length (by simp) (by omega) (rO_ s r);refine PC.fact 7 xJ_ (by simp) puA puA ?_;have hc:bI_=.seq bI_.hd (.seq (bI_.tl 1).hd (.seq (bI_.tl 2).hd (.seq (bI_.tl 3).hd (.seq (bI_.tl 4).hd (.seq (bI_.tl 5).hd (bI_.tl 6)))))):=rfl;rw[hc];clear hc;generalize bI_.tl 6=cT at *;unfold bI_;refine bd ?_;simp only[ad_.tl,ad_.hd];have c1:=vS_ s h r.block;have c2:=FR_ (IntKind.i64.wrap (r.tries+1)) s.sto.cfg.lim.backoff (QM_ _);unfold kT_;generalize vR_ s.sto r.block=B at *;cases B with
 | false =>
   rw[if_pos rfl];try refine aa_ ?_
   refine So_ c1 ?_
   refine Ri_ ?_
   exact ae_
 | true =>
   rw[if_neg (by simp)];by_cases q:s.sto.cfg.lim.retry≤s.rets.length
   ·have e1:decide (s.sto.cfg.lim.retry≤(s.rets.length:Int))=true:=decide_eq_true q;rw[if_pos q];try refine aa_ ?_
    refine So_ c1 ?_
    refine ab_ ?_;repeat(first|refine aa_ ?_|simp only[go_sem,e1])
    refine Ri_ ?_
    exact ae_
   ·have e1:decide (s.sto.cfg.lim.retry≤(s.rets.length:Int))=false:=decide_eq_false q;have hsn:rows aJ_ s.rets++[aJ_ (rO_ s r)]=rows aJ_ (s.rets++[rO_ s r]):=bB_ aJ_ s.rets _;have hlr:aJ_ { tag:=r.tag,block:=r.block,tries:=IntKind.i64.wrap (r.tries+1),due:=IntKind.u64.wrap (s.sto.now+AZ_ (IntKind.i64.wrap (r.tries+1)) s.sto.cfg.lim.backoff) }=aJ_ (rO_ s r):=rfl;rw[if_neg q];try refine aa_ ?_
    refine So_ c1 ?_
    refine ab_ ?_;repeat(first|refine aa_ ?_|simp only[go_sem,e1])
    refine Rh_ ?_
    refine ao_ (c2) ?_;repeat(first|refine aa_ ?_|simp only[go_sem,hlr,hsn,gN_])
    refine bE_ ?_ tl;exact SN_ [] [0,1,2,5]
theorem KM_(s:ah_)(h:StR s):PC Tryz.prog 237 [.agg (ak_ s.a)] (.agg (rtc (Ii_ s))):=by
 refine PC.fact 4 Bo_ (by simp) puA puA ?_;unfold qj_;refine bd ?_;have c1:=bg_ s.nodes s.j.rt h.bn;have b1:=cH_ s.nodes s.j.rt;unfold Ii_;generalize af_ s.nodes s.j.rt=I at *;try refine aa_ ?_
 refine aj_ c1 ?_;by_cases q:0≤I
 ·have e1:decide (0≤I)=true:=decide_eq_true q
  have hg:=bR_ (t:=s.nodes) (i:=I.toNat) (by omega);by_cases q2:(nod s.nodes I.toNat).status=1
  ·have e2:((nod s.nodes I.toNat).status==1)=true:=by simp[q2]
   rw[if_pos ⟨q,q2⟩];repeat(first|refine aa_ ?_|simp only[go_sem,e1,hg,e2])
   refine Ri_ ?_
   exact ae_
  ·have e2:((nod s.nodes I.toNat).status==1)=false:=by simp[q2]
   rw[if_neg (fun h=>q2 h.2)];repeat(first|refine aa_ ?_|simp only[go_sem,e1,hg,e2])
   refine Rh_ ?_
   exact ae_
 ·have e1:decide (0≤I)=false:=decide_eq_false q;rw[if_neg (fun h=>q h.1)];repeat(first|refine aa_ ?_|simp only[go_sem,e1])
  refine Rh_ ?_
  exact ae_
theorem MB_{s:ah_}(h:StR s):0≤vt_ s∧vt_ s<s.nodes.length:=by
 have h1:=cH_ s.nodes s.j.rt;have h2:=DR_ h.tree (hE_ s) (vM_ s) (s.nodes.length+1) (af_ s.nodes s.j.rt) (by omega);have h3:=h.jf;unfold vt_;omega
theorem Mc_(s:ah_)(h:StR s):PC Tryz.prog 212 [.agg (ak_ s.a)] (.agg (db_ (Js_ s))):=by
 refine PC.fact 3 tj_ (by simp) puA puA ?_;unfold lr_;refine bd ?_;have c1:=JO_ s h;have c2:=KM_ s h;have hb:=MB_ h;unfold Js_;generalize vt_ s=I at *;generalize Ii_ s=S at *;have hg:=bR_ (t:=s.nodes) (i:=I.toNat) (by omega);try refine aa_ ?_
 refine ao_ (c1) ?_;repeat(first|refine aa_ ?_|simp only[go_sem,hg])
 refine ao_ (c2) ?_;try refine aa_ ?_
 exact ae_
theorem zh_(s:aG_)(h:StR s.sto):PC Tryz.prog 172 [.agg (aI_ s.a)] (.tup [.agg (aI_ (hq_ s).1.a),.sl 96 false (rows db_ (hq_ s).2)]):=by
 refine PC.fact 5 Bm_ (by simp) puA ⟨aG_.pul _,dk_ _,trivial⟩ ?_;have c1:=Mc_ s.sto h;unfold hq_;generalize Js_ s.sto=C at *;by_cases q:s.sent=true∧s.last=C
 ·rw[if_pos q];obtain⟨q1,q2⟩:=q;have e2:decide (s.last=C)=true:=decide_eq_true q2;unfold gf_;refine bd ?_;try refine aa_ ?_
  refine aj_ c1 ?_;repeat(first|refine aa_ ?_|simp only[go_sem,q1,e2])
  refine Ri_ ?_
  refine⟨_,(by first|rfl|exact evd),.inr ⟨.tup [.agg (aI_ s.a),.sl 0 true []],?_,⟨aG_.pul _,trivial,trivial⟩,Wk.tup ⟨Wk.refl _,Wk.empty _ _ _,trivial⟩⟩⟩;exact evd
 ·rw [if_neg q]
  have key:∀b:Bool,s.sent=b→(b=true→decide (s.last=C)=false)→Tri Tryz.prog 23 0 gf_ (PQ [.cell 2 true 252,.tmp 3] (.tup [.agg (aI_ (aG_.a ⟨s.sto,s.reqs,s.rets,s.tag,true,C,s.over,s.halt⟩)),.sl 96 false (rows db_ [C])])) ⟨5,[.agg (aI_ s.a),.dead,.dead,.dead,.dead],[]⟩ []:=by
   intro b h1 h2;cases b with
   | false =>
     unfold gf_;dsimp only[nfO,Int.reduceOfNat,Int.reduceNegSucc,wA,wB,wC,wD,wE,wF,wG,wH,wI,wJ,wK,wL,wM,wN,wO,wP,wQ,wR,wS,wT,wU,wV,wW,wX,wY,wZ,om,oo,on,omg,og,ong,ci,cu,cb,cf,fA,lA,lF,bI,bC,sO,eX,lN,iX,kA,kB,kC,sR,cN];try refine aa_ ?_
     refine aj_ c1 ?_;repeat(first|refine aa_ ?_|simp only[go_sem,h1])
     refine Rh_ ?_
     refine⟨_,(by first|rfl|exact evd),.inr ⟨.tup [.agg (aI_ (aG_.a ⟨s.sto,s.reqs,s.rets,s.tag,true,C,s.over,s.halt⟩)),.sl 96 true (rows db_ [C])],?_,⟨aG_.pul _,dk_ _,trivial⟩,Wk.tup ⟨Wk.refl _,Wk.open_ _ _ _,trivial⟩⟩⟩;exact evd
   | true =>
     have e2:=h2 rfl;unfold gf_;dsimp only[nfO,Int.reduceOfNat,Int.reduceNegSucc,wA,wB,wC,wD,wE,wF,wG,wH,wI,wJ,wK,wL,wM,wN,wO,wP,wQ,wR,wS,wT,wU,wV,wW,wX,wY,wZ,om,oo,on,omg,og,ong,ci,cu,cb,cf,fA,lA,lF,bI,bC,sO,eX,lN,iX,kA,kB,kC,sR,cN];try refine aa_ ?_
     refine aj_ c1 ?_;repeat(first|refine aa_ ?_|simp only[go_sem,h1,e2])
     refine Rh_ ?_
     refine⟨_,(by first|rfl|exact evd),.inr ⟨.tup [.agg (aI_ (aG_.a ⟨s.sto,s.reqs,s.rets,s.tag,true,C,s.over,s.halt⟩)),.sl 96 true (rows db_ [C])],?_,⟨aG_.pul _,dk_ _,trivial⟩,Wk.tup ⟨Wk.refl _,Wk.open_ _ _ _,trivial⟩⟩⟩;exact evd
  exact key s.sent rfl fun hb=>decide_eq_false fun hl=>q ⟨hb,hl⟩
end Go.Proofs.YtkgimpdgncakjaaGreat
