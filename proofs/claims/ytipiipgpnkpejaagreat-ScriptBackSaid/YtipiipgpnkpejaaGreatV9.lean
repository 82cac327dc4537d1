/-
 My texts Nd, Ne, joined.
-/
import Derived.Test.YtipiipgpnkpejaaGreatV8
import Derived.Test.YtipiipgpnkpejaaGreatW6
namespace Go.Proofs.YtipiipgpnkpejaaGreat
open Go Go.FH Go.RowKit
set_option linter.unusedVariables false
set_option linter.unusedSimpArgs false
set_option maxRecDepth 8000
set_option maxHeartbeats 4000000
theorem Da_(x:Sta)(v:AV):(aB_ x).set 151 v=aB_ { x with rets:=v }:=by
 simp only[aB_,List.set_append,bi_,List.length_cons,Nat.reduceSub,Nat.reduceLT,if_false,List.set_cons_succ,List.set_cons_zero]
theorem CZ_(x:Sta):(aB_ x).getD 151 .dead=x.rets:=by
 simp only[aB_,List.getD_eq_getElem?_getD,List.getElem?_append,bi_,List.length_cons,Nat.reduceSub,Nat.reduceLT,if_false,List.getElem?_cons_succ,List.getElem?_cons_zero,Option.getD_some]
theorem gz_(l:List Req):List.take l.length (rows aO_ l)=rows aO_ l:=List.take_of_length_le (by simp)
theorem wr_(s:aN_)(h:StR s.sto)(r:Rt):PC Tryz.prog 150 [.agg (aB_ s.a),.agg (rtc r)] (.bool (wq_ s.sto r)):=by
 refine PC.fact 6 pn_ (by simp) puA puA ?_;unfold in_;refine bd ?_;have c1:=bJ_ s.sto.nodes r h.bn;have b1:=dE_ s.sto.nodes r;unfold wq_;generalize av_ s.sto.nodes r=I at *;try refine aa_ ?_
 refine ae_ c1 ?_;by_cases q:0≤I
 ·have e1:decide (0≤I)=true:=decide_eq_true q;have hg:=bQ_ (t:=s.sto.nodes) (i:=I.toNat) (by omega);repeat(first|refine aa_ ?_|simp only[go_sem,e1,hg])
  have e2:((nod s.sto.nodes I.toNat).status==0)=decide ((nod s.sto.nodes I.toNat).status=0):=by rw[Bool.eq_iff_iff];simp
  refine⟨_,(by first|rfl|exact evd),.inl ?_⟩;(try simp only[go_sem,Nat.reduceAdd,Nat.reduceSub,Nat.reduceMul,Nat.reduceLT,Nat.reduceLeDiff,Nat.reduceEqDiff,reduceIte,Int.reduceToNat,Int.reduceLT,Int.reduceLE,Int.reduceEq,Int.reduceNeg,reduceCtorEq,Int.reduceBEq,Int.reduceBNe,e2])
  all_goals rfl
 ·have e1:decide (0≤I)=false:=decide_eq_false q;repeat(first|refine aa_ ?_|simp only[go_sem,e1])
  exact ah_
theorem Nc_(s:aN_)(h:StR s.sto)(r:Rt):ar_ Tryz.prog 150 [.agg (aB_ { s.a with rets:=.hs 35 0 0 s.rets.length }),.agg (rtc r)] [.vec 35 (rows aO_ s.rets)] (.bool (wq_ s.sto r)) [.vec 35 (rows aO_ s.rets)]:=by
 refine ar_.lend rfl ?_;(try simp only[go_sem,gz_,List.length_cons,List.length_nil,List.range_succ,List.range_zero])
 exact wr_ s h r
theorem Km_(s:aN_)(r:Rt)(k:Int)(hb:s.reqs.length≤1000000):PC Tryz.prog 151 [.agg (aB_ s.a),.agg (rtc r),.int .i64 k] (.agg (aB_ (oU_ s r k).a)):=by
 refine PC.fact 8 qN_ (by simp) puA puA ?_;unfold kY_;refine bd ?_;have hsn:rows aO_ s.reqs++[aO_ ⟨s.tag,r,k,0⟩]=rows aO_ (s.reqs++[⟨s.tag,r,k,0⟩]):=cx_ aO_ s.reqs _;have ht:List.take (s.reqs.length+1) (rows aO_ (s.reqs++[⟨s.tag,r,k,0⟩]))=rows aO_ (s.reqs++[⟨s.tag,r,k,0⟩]):=List.take_of_length_le (by simp);repeat(first|refine aa_ ?_|simp only[go_sem,hsn,gz_])
 refine⟨_,(by first|rfl|exact evd),.inl ?_⟩;(try simp only[go_sem,Nat.reduceAdd,Nat.reduceSub,Nat.reduceMul,Nat.reduceLT,Nat.reduceLeDiff,Nat.reduceEqDiff,reduceIte,Int.reduceToNat,Int.reduceLT,Int.reduceLE,Int.reduceEq,Int.reduceNeg,reduceCtorEq,Int.reduceBEq,Int.reduceBNe,ht])
 all_goals rfl
theorem MY_(s:aN_)(r:Rt)(k:Int)(hb:s.reqs.length≤1000000)(l:List Req)(n:Nat):ar_ Tryz.prog 151 [.agg (aB_ { s.a with rets:=.hs 35 0 0 n }),.agg (rtc r),.int .i64 k] [.vec 35 (rows aO_ l)] (.agg (aB_ { (oU_ s r k).a with rets:=.hs 35 0 0 n })) [.vec 35 (rows aO_ l)]:=by
 refine ar_.fact 8 qN_ (by simp) ?_ (by simp);unfold kY_;refine bd ?_;have hsn:rows aO_ s.reqs++[aO_ ⟨s.tag,r,k,0⟩]=rows aO_ (s.reqs++[⟨s.tag,r,k,0⟩]):=cx_ aO_ s.reqs _;have ht:List.take (s.reqs.length+1) (rows aO_ (s.reqs++[⟨s.tag,r,k,0⟩]))=rows aO_ (s.reqs++[⟨s.tag,r,k,0⟩]):=List.take_of_length_le (by simp);repeat(first|refine aa_ ?_|simp only[go_sem,hsn,gz_])
 refine bn_ [2,3,4,5,6,7] [0] _ (by simp) (by first|rfl|exact evd) (by simp) rfl (by simp) (by simp) evd ?_;(try simp only[go_sem,Nat.reduceAdd,Nat.reduceSub,Nat.reduceMul,Nat.reduceLT,Nat.reduceLeDiff,Nat.reduceEqDiff,reduceIte,Int.reduceToNat,Int.reduceLT,Int.reduceLE,Int.reduceEq,Int.reduceNeg,reduceCtorEq,Int.reduceBEq,Int.reduceBNe,ht])
 all_goals rfl
theorem Hg_(s:aN_)(l:List Rt)(h:StR s.sto)(hb:s.reqs.length+l.length≤1000000):PC Tryz.prog 136 [.agg (aB_ s.a),.sl 32 false (rows rtc l)] (.agg (aB_ (Hf_ s l).a)):=by
 refine PC.fact 6 Cd_ (by simp) puA puA ?_;unfold ql_;refine bd ?_;have hz:aK_ (fV_ l) s 0=s:=rfl
 have hS:∀k,(aK_ (fV_ l) s k).sto=s.sto∧(aK_ (fV_ l) s k).reqs.length≤s.reqs.length+k:=by
  intro k;induction k with
  |zero=>exact⟨rfl,Nat.le_refl _⟩
  | succ k ih =>
    rw[bT_];generalize aK_ (fV_ l) s k=s1 at *;unfold fV_;split
    ·refine⟨ih.1,?_⟩;unfold oU_;simp only[List.length_append,List.length_singleton];omega
    ·exact⟨ih.1,by omega⟩
 show Tri _ _ _ _ (PQ _ (.agg (aB_ (aK_ (fV_ l) s l.length).a))) _ _
 try refine aa_ ?_
 refine aG_ (fun i:Nat=>[(5,.int .i64 i)]) (fun i=>[.var (aB_ (aK_ (fV_ l) s i).a),.var (aB_ dG_)]) (fun i=>l.length-i) (fun i=>i≤l.length) 0 (Nat.zero_le _) ?_ ?_
 ·rw[hz];exact Sn_ [] [0,1]
 intro i hi;(try simp only[aF_,aA_,List.set_cons_zero,List.set_cons_succ])
 by_cases h1:i<l.length
 ·have e1:decide ((i:Int)<((l.length:Nat):Int))=true:=decide_eq_true (by omega)
  have hw:=ag_ h1 (by omega);have hgd:=cw_ (f:=rtc) rt0 h1;have hs:=bT_ (fV_ l) s i;obtain⟨hS1,hS2⟩:=hS i;have hc:fV_ l i (aK_ (fV_ l) s i)=if wq_ (aK_ (fV_ l) s i).sto (l.getD i rt0)=true then oU_ (aK_ (fV_ l) s i) (l.getD i rt0) 0 else aK_ (fV_ l) s i:=rfl
  have c1:=wr_ (aK_ (fV_ l) s i) (by rw[hS1];exact h) (l.getD i rt0);have c2:=Km_ (aK_ (fV_ l) s i) (l.getD i rt0) 0 (by omega);generalize aK_ (fV_ l) s i=s1 at *;generalize l.getD i rt0=r at *;generalize wq_ s1.sto r=B at *;rw[hc]at hs;repeat(first|refine aa_ ?_|simp only[go_sem,e1])
  refine ac_ ?_;repeat(first|refine aa_ ?_|simp only[go_sem,hgd])
  refine ay_ (c1) ?_;cases B with
  | true =>
    rw[if_pos rfl]at hs;try refine aa_ ?_
    refine ac_ ?_;repeat(first|refine aa_ ?_|simp only[go_sem,hgd])
    refine ay_ (c2) ?_;repeat(first|refine aa_ ?_|simp only[go_sem,hw])
    refine⟨i+1,h1,by omega,?_⟩;rw[hs];exact Sn_ [] [0,1]
  | false =>
    rw[if_neg (by simp)]at hs;try refine aa_ ?_
    refine ab_ ?_;repeat(first|refine aa_ ?_|simp only[go_sem,hw])
    refine⟨i+1,h1,by omega,?_⟩;rw[hs];exact Sn_ [] [0,1]
 ·obtain rfl:i=l.length:=by omega
  have e1:decide (((l.length:Nat):Int)<((l.length:Nat):Int))=false:=decide_eq_false (by omega);repeat(first|refine aa_ ?_|simp only[go_sem,e1])
  refine Re_ ?_
  exact ah_
theorem Oq_:WkC (ao_ cQ_) (ao_ fA_.a):=by
 unfold cQ_ fA_ al_.a ao_;dsimp only;refine WkC.app ?_ ?_
 ·unfold hl_ bV_.a bm_;dsimp only;exact(WkC.refl _).app (.same _ (.same _ ((WkC.refl _).app ((WkC.refl _).app (.one (Wk.empty _ _ _) fun h=>h)))))
 ·exact .cons (Wk.empty _ _ _) (fun h=>h) (.cons (Wk.empty _ _ _) (fun h=>h) ((WkC.refl _).app ((WkC.refl _).app (.cons (Wk.empty _ _ _) (fun h=>h) (.cons (Wk.empty _ _ _) (fun h=>h) (.cons (Wk.empty _ _ _) (fun h=>h) (.same _ ((WkC.refl _).app (.one (Wk.empty _ _ _) fun h=>h)))))))))
theorem IM_:Wk (.agg (aB_ dG_)) (.agg (aB_ FR_.a)):=by
 refine Wk.agg ?_;unfold dG_ FR_ aN_.a aB_;dsimp only;exact Oq_.app (.cons (Wk.empty _ _ _) (fun h=>h) (.cons (Wk.empty _ _ _) (fun h=>h) (WkC.refl _)))
theorem Dw_:PuL (aB_ dG_):=by simp[dG_,aB_,cH_,PuL,Pu,dx_,cQ_,ao_,gF_,ci_,eH_,el_,hl_,bm_,cp0,ke_]
theorem Ha_(s:aN_)(v:Vdt)(hb:s.reqs.length≤1000000):PC Tryz.prog 161 [.agg (aB_ s.a),.agg (bW_ v)] (.tup [.agg (aO_ (dk_ s v).1),.agg (aB_ (dk_ s v).2.1.a),.int .i64 (dk_ s v).2.2]):=by
 refine PC.fact 9 ys_ (by simp) puA ⟨dS_ _,aN_.pul _,trivial,trivial⟩ ?_;unfold oK_;refine bd ?_;obtain⟨R,hR⟩:∃R,R=dk_ s v:=⟨_,rfl⟩
 rw[←hR];unfold dk_ jV_ at hR;try refine aa_ ?_
 refine aG_ (fun i:Nat=>[(7,.int .i64 i)]) (fun _=>[.var (aB_ s.a),.var (bW_ v),.var (aO_ hr_),.var (aB_ dG_)]) (fun i=>s.reqs.length-i)
  (fun i=>i≤s.reqs.length∧R=(match hL_ (fun i=>decide ((dl_ s.reqs i).tag=v.tag)) (s.reqs.length-i) i with
 |some i=>(dl_ s.reqs i,Qt_ s (rD_ s.reqs i),0)
 |none=>(hr_,FR_,23))) 0 ⟨Nat.zero_le _,hR⟩ ?_ ?_
 ·exact Sn_ [] [0,1,2,3]
 clear hR;rintro i ⟨hi,hn⟩;(try simp only[aF_,aA_,List.set_cons_zero,List.set_cons_succ])
 by_cases h1:i<s.reqs.length
 ·have e1:decide ((i:Int)<((s.reqs.length:Nat):Int))=true:=decide_eq_true (by omega)
  have hw:=ag_ h1 (by omega);have hgd:(rows aO_ s.reqs).getD i []=aO_ (dl_ s.reqs i):=cw_ (f:=aO_) hr_ h1;by_cases q:(dl_ s.reqs i).tag=v.tag
  ·rw[mT_ h1 (decide_eq_true q)]at hn;dsimp only at hn;generalize hrq:dl_ s.reqs i=r at *;have e2:(r.tag==v.tag)=true:=by simp[q]
   have hw1:IntKind.i64.wrap ((i:Int)+1)=((i+1:Nat):Int):=hw;have ht1:List.take i (rows aO_ s.reqs)=rows aO_ (s.reqs.take i):=nM_ _ _ _;have ht2:List.drop (i+1) (rows aO_ s.reqs)=rows aO_ (s.reqs.drop (i+1)):=nL_ _ _ _;have ht3:rows aO_ (s.reqs.take i)++rows aO_ (s.reqs.drop (i+1))=rows aO_ (rD_ s.reqs i):=wS_ _ _ _;have ht4:(s.reqs.take i).length+(s.reqs.drop (i+1)).length=(rD_ s.reqs i).length:=by unfold rD_;rw[List.length_append]
   have ht5:List.take (s.reqs.length-(i+1)) (rows aO_ (s.reqs.drop (i+1)))=rows aO_ (s.reqs.drop (i+1)):=List.take_of_length_le (by simp);have hlo:(rD_ s.reqs i).length≤s.reqs.length:=(II_ _ _).1;subst hn;dsimp only;repeat(first|refine aa_ ?_|simp only[go_sem,e1])
   refine ac_ ?_;repeat(first|refine aa_ ?_|simp only[go_sem,hgd,e2])
   refine ac_ ?_;repeat(first|refine aa_ ?_|simp only[go_sem,hgd,hw1,ht1,ht2,ht3,ht4,ht5])
   refine⟨_,(by first|rfl|exact evd),.inl ?_⟩;(try simp only[go_sem,Nat.reduceAdd,Nat.reduceSub,Nat.reduceMul,Nat.reduceLT,Nat.reduceLeDiff,Nat.reduceEqDiff,reduceIte,Int.reduceToNat,Int.reduceLT,Int.reduceLE,Int.reduceEq,Int.reduceNeg,reduceCtorEq,Int.reduceBEq,Int.reduceBNe,gz_])
   all_goals rfl
  ·rw[mS_ h1 (decide_eq_false q)]at hn;have e2:((dl_ s.reqs i).tag==v.tag)=false:=by simp[q]
   repeat(first|refine aa_ ?_|simp only[go_sem,e1])
   refine ac_ ?_;repeat(first|refine aa_ ?_|simp only[go_sem,hgd,e2])
   refine ab_ ?_;repeat(first|refine aa_ ?_|simp only[go_sem,hw])
   refine⟨i+1,⟨h1,hn⟩,by omega,?_⟩;exact Sn_ [] [0,1,2,3]
 ·obtain rfl:i=s.reqs.length:=by omega
  have e1:decide (((s.reqs.length:Nat):Int)<((s.reqs.length:Nat):Int))=false:=decide_eq_false (by omega);rw[mR_]at hn;dsimp only at hn;subst hn;dsimp only;repeat(first|refine aa_ ?_|simp only[go_sem,e1])
  refine Re_ ?_
  refine⟨_,(by first|rfl|exact evd),.inr ⟨.tup [.agg (aO_ hr_),.agg (aB_ dG_),.int .i64 23],?_,?_,Wk.tup ⟨Wk.refl _,?_,Wk.refl _,trivial⟩⟩⟩
  ·exact evd
  ·exact⟨dS_ _,Dw_,trivial,trivial⟩
  ·exact IM_
theorem tk_(s:aN_)(l:List Req)(h:StR s.sto)(hb:l.length≤1000000):PC Tryz.prog 152 [.agg (aB_ s.a),.sl 35 false (rows aO_ l)] (.sl 35 false (rows aO_ (iM_ s.sto.nodes l))):=by
 refine PC.fact 7 yt_ (by simp) puA puA ?_;unfold oL_;refine bd ?_;have hz:aK_ (eT_ s.sto.nodes l) [] 0=[]:=rfl
 have hL:∀k,(aK_ (eT_ s.sto.nodes l) [] k).length≤k:=fun k=>by
  have:=hg_ (f:=eT_ s.sto.nodes l) (a:=[]) (fun i o=>by unfold eT_;split<;>simp) k;simpa using this
 show Tri _ _ _ _ (PQ _ (.sl 35 false (rows aO_ (aK_ (eT_ s.sto.nodes l) [] l.length)))) _ _
 try refine aa_ ?_
 refine fh_ 5 35 ?_;simp only[go_sem];refine aG_ (fun i:Nat=>[(6,.int .i64 i),(5,.hs 35 1 0 (aK_ (eT_ s.sto.nodes l) [] i).length)]) (fun i=>[.var (aB_ s.a),.vec 35 (rows aO_ (aK_ (eT_ s.sto.nodes l) [] i))]) (fun i=>l.length-i) (fun i=>i≤l.length) 0 (Nat.zero_le _) ?_ ?_
 ·rw[hz];exact Sn_ [] [0,1]
 intro i hi;have hLi:=hL i;(try simp only[aF_,aA_,List.set_cons_zero,List.set_cons_succ])
 by_cases h1:i<l.length
 ·have e1:decide ((i:Int)<((l.length:Nat):Int))=true:=decide_eq_true (by omega)
  have hw:=ag_ h1 (by omega);have hgd:(rows aO_ l).getD i []=aO_ (dl_ l i):=cw_ (f:=aO_) hr_ h1;have hs:=bT_ (eT_ s.sto.nodes l) [] i;have c1:=bJ_ s.sto.nodes (dl_ l i).block h.bn;generalize aK_ (eT_ s.sto.nodes l) [] i=o at *;have hc:eT_ s.sto.nodes l i o=if 0≤av_ s.sto.nodes (dl_ l i).block then o++[dl_ l i]else o:=rfl
  rw[hc]at hs;generalize dl_ l i=r at *;have hsn:rows aO_ o++[aO_ r]=rows aO_ (o++[r]):=cx_ aO_ o r;repeat(first|refine aa_ ?_|simp only[go_sem,e1])
  refine ac_ ?_;repeat(first|refine aa_ ?_|simp only[go_sem,hgd])
  refine ay_ (c1) ?_;try refine aa_ ?_
  by_cases q:0≤av_ s.sto.nodes r.block
  ·have e2:decide (0≤av_ s.sto.nodes r.block)=true:=decide_eq_true q;rw[if_pos q]at hs;repeat(first|refine aa_ ?_|simp only[go_sem,e2])
   refine ac_ ?_;repeat(first|refine aa_ ?_|simp only[go_sem,hgd,hsn,hw])
   refine⟨i+1,h1,by omega,?_⟩;rw[hs];exact Sn_ [] [0,3]
  ·have e2:decide (0≤av_ s.sto.nodes r.block)=false:=decide_eq_false q;rw[if_neg q]at hs;repeat(first|refine aa_ ?_|simp only[go_sem,e2])
   refine ab_ ?_;repeat(first|refine aa_ ?_|simp only[go_sem,hw])
   refine⟨i+1,h1,by omega,?_⟩;rw[hs];exact Sn_ [] [0,1]
 ·obtain rfl:i=l.length:=by omega
  have e1:decide (((l.length:Nat):Int)<((l.length:Nat):Int))=false:=decide_eq_false (by omega);generalize aK_ (eT_ s.sto.nodes l) [] l.length=o at *;repeat(first|refine aa_ ?_|simp only[go_sem,e1])
  refine Re_ ?_
  refine⟨_,(by first|rfl|exact evd),.inl ?_⟩;(try simp only[go_sem,Nat.reduceAdd,Nat.reduceSub,Nat.reduceMul,Nat.reduceLT,Nat.reduceLeDiff,Nat.reduceEqDiff,reduceIte,Int.reduceToNat,Int.reduceLT,Int.reduceLE,Int.reduceEq,Int.reduceNeg,reduceCtorEq,Int.reduceBEq,Int.reduceBNe,gz_])
  all_goals rfl
theorem zU_(s:aN_)(h:StR s.sto)(h1:s.reqs.length≤1000000)(h2:s.rets.length≤1000000):PC Tryz.prog 134 [.agg (aB_ s.a)] (.agg (aB_ (vo_ s).a)):=by
 refine PC.fact 3 Cb_ (by simp) puA puA ?_;unfold qk_;refine bd ?_;have c1:=tk_ s s.reqs h h1;have c2:=tk_ s s.rets h h2;unfold vo_;generalize iM_ s.sto.nodes s.reqs=k1 at *;generalize iM_ s.sto.nodes s.rets=k2 at *;try refine aa_ ?_
 refine ay_ (c1) ?_;try refine aa_ ?_
 refine ay_ (c2) ?_;try refine aa_ ?_
 exact ah_
theorem Gu_(t b:Int)(ht:t≤9223372036854775807):PC Tryz.prog 184 [.int .i64 t,.int .u64 b] (.int .u64 (BP_ t b)):=by
 refine PC.fact 7 yq_ (by simp) puA puA ?_;unfold oJ_;refine bd ?_;unfold BP_;by_cases h0:b=0
 ·subst h0;try refine aa_ ?_
  refine Rf_ ?_
  exact ah_
 have e0:(b==0)=false:=by simp[h0]
 rw[if_neg h0];obtain⟨R,hR⟩:∃R,R=pi_ b (t-1).toNat 1:=⟨_,rfl⟩
 rw[←hR];repeat(first|refine aa_ ?_|simp only[go_sem,e0])
 refine Re_ ?_
 refine aG_ (fun x:Nat×Int=>[(6,.int .i64 ((x.1:Int)+1)),(5,.int .u64 x.2)]) (fun _=>[]) (fun x=>(t-1).toNat-x.1) (fun x=>x.1≤(t-1).toNat∧R=pi_ b ((t-1).toNat-x.1) x.2) (0,1) ⟨Nat.zero_le _,hR⟩ ?_ ?_
 ·exact Sn_ [] []
 clear hR;rintro⟨i,d⟩ ⟨hi,hn⟩;dsimp only at hi hn ⊢;(try simp only[aF_,aA_,List.set_cons_zero,List.set_cons_succ])
 by_cases h1:(i:Int)+1<t
 ·have e1:decide ((i:Int)+1<t)=true:=decide_eq_true h1
  obtain⟨f,hf⟩:∃f,(t-1).toNat-i=f+1:=⟨(t-1).toNat-i-1,by omega⟩
  rw[hf]at hn;have hg:pi_ b (f+1) d=if IntKind.u64.wrap (b-d)≤d then b else pi_ b f (IntKind.u64.wrap (2*d)):=rfl
  rw[hg]at hn;have hw:IntKind.i64.wrap ((i:Int)+1+1)=((i+1:Nat):Int)+1:=by rw[ai_ (by omega) (by omega)];omega
  by_cases q:IntKind.u64.wrap (b-d)≤d
  ·have e2:decide (IntKind.u64.wrap (b-d)≤d)=true:=decide_eq_true q;rw[if_pos q]at hn;subst hn;repeat(first|refine aa_ ?_|simp only[go_sem,e1])
   refine ac_ ?_;repeat(first|refine aa_ ?_|simp only[go_sem,e2])
   refine Rf_ ?_
   exact ah_
  ·have e2:decide (IntKind.u64.wrap (b-d)≤d)=false:=decide_eq_false q;rw[if_neg q]at hn;repeat(first|refine aa_ ?_|simp only[go_sem,e1])
   refine ac_ ?_;repeat(first|refine aa_ ?_|simp only[go_sem,e2])
   refine ab_ ?_;repeat(first|refine aa_ ?_|simp only[go_sem,hw])
   refine⟨(i+1,IntKind.u64.wrap (2*d)),⟨by dsimp only;omega,by rw[hn,show (t-1).toNat-(i+1)=f by omega]⟩,by dsimp only;omega,?_⟩;exact Sn_ [] []
 ·have e1:decide ((i:Int)+1<t)=false:=decide_eq_false h1;rw[show (t-1).toNat-i=0 by omega]at hn;have hg:pi_ b 0 d=d:=rfl;rw[hg]at hn;subst hn;repeat(first|refine aa_ ?_|simp only[go_sem,e1])
  refine Re_ ?_
  exact ah_
theorem Mg_(s:aN_)(h:StR s.sto)(h1:s.reqs.length+s.rets.length≤1000000):PC Tryz.prog 133 [.agg (aB_ s.a)] (.agg (aB_ (QJ_ s).a)):=by
 refine PC.fact 5 Ee_ (by simp) puA puA ?_;unfold sZ_;refine bd ?_;have hz:aK_ (mG_ s.rets) (eF_ s []) 0=eF_ s []:=rfl
 have hK : ∀ k, (aK_ (mG_ s.rets) (eF_ s []) k).sto = s.sto ∧ (aK_ (mG_ s.rets) (eF_ s []) k).reqs.length ≤ s.reqs.length + k ∧ (aK_ (mG_ s.rets) (eF_ s []) k).rets.length ≤ k := by
  intro k;induction k with
  |zero=>exact⟨rfl,Nat.le_refl _,Nat.le_refl _⟩
  | succ k ih =>
    rw[bT_];generalize aK_ (mG_ s.rets) (eF_ s []) k=s1 at *;unfold mG_;split
    ·unfold eF_;simp only[List.length_append,List.length_singleton];exact⟨ih.1,by omega,by omega⟩
    ·split
     ·unfold oU_;simp only[List.length_append,List.length_singleton];exact⟨ih.1,by omega,by omega⟩
     ·exact⟨ih.1,by omega,by omega⟩
 show Tri _ _ _ _ (PQ _ (.agg (aB_ (aK_ (mG_ s.rets) (eF_ s []) s.rets.length).a))) _ _
 try refine aa_ ?_
 refine nt_ 0 151 35 ?_ (by rfl) (by exact CZ_ _);simp only[go_sem,Da_];refine aG_ (fun i:Nat=>[(4,.int .i64 i)]) (fun i=>[.var (aB_ { (aK_ (mG_ s.rets) (eF_ s []) i).a with rets:=.hs 35 2 0 (aK_ (mG_ s.rets) (eF_ s []) i).rets.length }),.var (aB_ dG_),.vec 35 (rows aO_ (aK_ (mG_ s.rets) (eF_ s []) i).rets)]) (fun i=>s.rets.length-i) (fun i=>i≤s.rets.length) 0 (Nat.zero_le _) ?_ ?_
 ·rw[hz];unfold eF_;exact Sn_ [] [0,1,2]
 intro i hi;obtain⟨hK1,hK2,hK3⟩:=hK i;(try simp only[aF_,aA_,List.set_cons_zero,List.set_cons_succ])
 by_cases h1:i<s.rets.length
 ·have e1:decide ((i:Int)<((s.rets.length:Nat):Int))=true:=decide_eq_true (by omega)
  have hw:=ag_ h1 (by omega);have hgd:(rows aO_ s.rets).getD i []=aO_ (dl_ s.rets i):=cw_ (f:=aO_) hr_ h1;have hs:=bT_ (mG_ s.rets) (eF_ s []) i;clear hK;generalize aK_ (mG_ s.rets) (eF_ s []) i=s1 at *;have hc:mG_ s.rets i s1=if s1.sto.now<(dl_ s.rets i).due then eF_ s1 (s1.rets++[dl_ s.rets i])else if wq_ s1.sto (dl_ s.rets i).block=true then oU_ s1 (dl_ s.rets i).block (dl_ s.rets i).tries else s1:=rfl
  rw[hc]at hs;have c1:=Nc_ s1 (by rw[hK1];exact h) (dl_ s.rets i).block;have c2:=MY_ s1 (dl_ s.rets i).block (dl_ s.rets i).tries (by omega) s1.rets s1.rets.length;generalize dl_ s.rets i=r at *;have hsn:rows aO_ s1.rets++[aO_ r]=rows aO_ (s1.rets++[r]):=cx_ aO_ s1.rets r;repeat(first|refine aa_ ?_|simp only[go_sem,e1])
  refine ac_ ?_;repeat(first|refine aa_ ?_|simp only[go_sem,hgd])
  by_cases q:s1.sto.now<r.due
  ·have e2:decide (s1.sto.now<r.due)=true:=decide_eq_true q;rw[if_pos q]at hs;repeat(first|refine aa_ ?_|simp only[go_sem,e2])
   refine ac_ ?_;repeat(first|refine aa_ ?_|simp only[go_sem,hgd,hsn,hw])
   refine⟨i+1,h1,by omega,?_⟩;rw[hs];unfold eF_;exact Sn_ [] [0,1,3]
  ·have e2:decide (s1.sto.now<r.due)=false:=decide_eq_false q
   rw[if_neg q]at hs;repeat(first|refine aa_ ?_|simp only[go_sem,e2])
   refine ab_ ?_;repeat(first|refine aa_ ?_|simp only[go_sem,hgd])
   refine iD_ [2] (c1) evd (aj_.mk' (by simp) evd) ?_;refine evg ?_;generalize wq_ s1.sto r.block=B at *;cases B with
   | true =>
     rw[if_pos rfl]at hs;try refine aa_ ?_
     refine ac_ ?_;repeat(first|refine aa_ ?_|simp only[go_sem,hgd])
     refine iC_ [2] (c2) (by simp) evd (aj_.mk' (by simp) evd) ?_;refine evg ?_;repeat(first|refine aa_ ?_|simp only[go_sem,hw])
     refine⟨i+1,h1,by omega,?_⟩;rw[hs];unfold oU_;exact Sn_ [] [0,1,2]
   | false =>
     rw[if_neg (by simp)]at hs;try refine aa_ ?_
     refine ab_ ?_;repeat(first|refine aa_ ?_|simp only[go_sem,hw])
     refine⟨i+1,h1,by omega,?_⟩;rw[hs];exact Sn_ [] [0,1,2]
 ·obtain rfl:i=s.rets.length:=by omega
  have e1:decide (((s.rets.length:Nat):Int)<((s.rets.length:Nat):Int))=false:=decide_eq_false (by omega);generalize aK_ (mG_ s.rets) (eF_ s []) s.rets.length=s1 at *;repeat(first|refine aa_ ?_|simp only[go_sem,e1])
  refine Re_ ?_
  refine⟨_,(by first|rfl|exact evd),.inl ?_⟩;(try simp only[go_sem,Nat.reduceAdd,Nat.reduceSub,Nat.reduceMul,Nat.reduceLT,Nat.reduceLeDiff,Nat.reduceEqDiff,reduceIte,Int.reduceToNat,Int.reduceLT,Int.reduceLE,Int.reduceEq,Int.reduceNeg,reduceCtorEq,Int.reduceBEq,Int.reduceBNe,gz_])
  all_goals rfl
theorem QL_(n:Int):IntKind.i64.wrap n≤9223372036854775807:=by rw[IntKind.wrap_i64];omega
theorem Kd_(s:aN_)(L:List Req)(n:Nat)(hL:L.length=n+1)(hb:n≤1000000)(r0:Req):
 Tri Tryz.prog 117 0 (bM_.tl 6) (PQ [.cell 4 true 252] (.agg (aB_ (eF_ s (oX_ L n)).a))) ⟨7,[.dead,.dead,.ptr 0 0,.ptr 1 0,.ptr 2 0,.hs 35 3 0 (n+1),.dead],[]⟩ [.var (aB_ s.a),.var (aO_ r0),.var (aB_ dG_),.vec 35 (rows aO_ L)]:=by
 unfold bM_;refine bd ?_;simp only[ad_.tl];obtain⟨R,hR⟩:∃R,R=oX_ L n:=⟨_,rfl⟩
 rw[←hR];have hw0:IntKind.i64.wrap (((n+1:Nat):Int)-1)=(n:Int):=by rw[ai_ (by omega) (by omega)];omega
 have hw0':IntKind.i64.wrap ((n:Int)+1-1)=(n:Int):=by rw[ai_ (by omega) (by omega)];omega
 repeat(first|refine aa_ ?_|simp only[go_sem,hw0,hw0'])
 refine aG_ (fun x:Nat×List Req=>[(6,.int .i64 x.1)]) (fun x=>[.var (aB_ s.a),.var (aO_ r0),.var (aB_ dG_),.vec 35 (rows aO_ x.2)]) (fun x=>x.1) (fun x=>x.1≤n∧x.2.length=n+1∧R=oX_ x.2 x.1) (n,L) ⟨Nat.le_refl _,hL,hR⟩ ?_ ?_
 ·exact Sn_ [] [0,1,2,3]
 clear hR;rintro⟨k,l⟩ ⟨hk,hl,hn⟩;dsimp only at hk hl hn ⊢;(try simp only[aF_,aA_,List.set_cons_zero,List.set_cons_succ])
 have ht:List.take (n+1) (rows aO_ l)=rows aO_ l:=List.take_of_length_le (by simp[hl]);cases k with
 | zero =>
   have e0:decide ((0:Int)<((0:Nat):Int))=false:=by decide
   have hr:R=l:=hn;subst hr;repeat(first|refine aa_ ?_|simp only[go_sem,e0])
   refine Re_ ?_
   refine⟨_,(by first|rfl|exact evd),.inl ?_⟩;(try simp only[go_sem,Nat.reduceAdd,Nat.reduceSub,Nat.reduceMul,Nat.reduceLT,Nat.reduceLeDiff,Nat.reduceEqDiff,reduceIte,Int.reduceToNat,Int.reduceLT,Int.reduceLE,Int.reduceEq,Int.reduceNeg,reduceCtorEq,Int.reduceBEq,Int.reduceBNe,ht,hl])
   all_goals rfl
 | succ k =>
   have e0:decide ((0:Int)<((k+1:Nat):Int))=true:=decide_eq_true (by omega);have hw:IntKind.i64.wrap (((k+1:Nat):Int)-1)=(k:Int):=by rw[ai_ (by omega) (by omega)];omega
   have hg1:(rows aO_ l).getD (k+1) []=aO_ (dl_ l (k+1)):=cw_ (f:=aO_) hr_ (by omega);have hg2:(rows aO_ l).getD k []=aO_ (dl_ l k):=cw_ (f:=aO_) hr_ (by omega);have hsk:oX_ l (k+1)=if Mf_ (dl_ l (k+1)) (dl_ l k)=true then oX_ ((l.set (k+1) (dl_ l k)).set k (dl_ l (k+1))) k else l:=rfl
   rw[hsk]at hn;have hset:∀ (m:List Req) (j:Nat) (x:Req),(rows aO_ m).set j (aO_ x)=rows aO_ (m.set j x):=fun m j x=>wT_ aO_ m j x
   unfold Mf_ at hn;generalize ha:dl_ l (k+1)=a at *;generalize hb2:dl_ l k=b at *;have hg3:(rows aO_ (l.set (k+1) b)).getD k []=aO_ ((l.set (k+1) b).getD k hr_):=cw_ (f:=aO_) hr_ (by simp;omega);have hlt1:k+1<n+1:=by omega
   have hlt2:k<n+1:=by omega
   by_cases q1:a.due<b.due
   ·have e1:decide (a.due<b.due)=true:=decide_eq_true q1;rw[e1,Bool.true_or,if_pos rfl]at hn;repeat(first|refine aa_ ?_|simp only[go_sem,e0,hg1,hg2,hw,e1,hl])
    refine ac_ ?_;repeat(first|refine aa_ ?_|simp only[go_sem,hg1,hg2,hg3,hw,hl,hset])
    refine⟨(k,(l.set (k+1) b).set k a),⟨by dsimp only;omega,by simp[hl],hn⟩,by dsimp only;omega,?_⟩;exact Sn_ [] [0,1,2,3]
   have e1:decide (a.due<b.due)=false:=decide_eq_false q1;rw[e1,Bool.false_or]at hn;by_cases q2:a.due=b.due
   ·have e2:(a.due==b.due)=true:=by simp[q2]
    rw[decide_eq_true q2,Bool.true_and]at hn;by_cases q3:a.tag<b.tag
    ·have e3:decide (a.tag<b.tag)=true:=decide_eq_true q3;rw[e3,if_pos rfl]at hn;repeat(first|refine aa_ ?_|simp only[go_sem,e0,hg1,hg2,hw,e1,e2,e3,hl])
     refine ac_ ?_;repeat(first|refine aa_ ?_|simp only[go_sem,hg1,hg2,hg3,hw,hl,hset])
     refine⟨(k,(l.set (k+1) b).set k a),⟨by dsimp only;omega,by simp[hl],hn⟩,by dsimp only;omega,?_⟩;exact Sn_ [] [0,1,2,3]
    ·have e3:decide (a.tag<b.tag)=false:=decide_eq_false q3;rw[e3,if_neg (by simp)]at hn;subst hn;repeat(first|refine aa_ ?_|simp only[go_sem,e0,hg1,hg2,hw,e1,e2,e3,hl])
     refine Re_ ?_
     refine⟨_,(by first|rfl|exact evd),.inl ?_⟩;(try simp only[go_sem,Nat.reduceAdd,Nat.reduceSub,Nat.reduceMul,Nat.reduceLT,Nat.reduceLeDiff,Nat.reduceEqDiff,reduceIte,Int.reduceToNat,Int.reduceLT,Int.reduceLE,Int.reduceEq,Int.reduceNeg,reduceCtorEq,Int.reduceBEq,Int.reduceBNe,ht,hl])
     all_goals rfl
   ·have e2:(a.due==b.due)=false:=by simp[q2]
    rw[decide_eq_false q2,Bool.false_and,if_neg (by simp)]at hn;subst hn;repeat(first|refine aa_ ?_|simp only[go_sem,e0,hg1,hg2,hw,e1,e2,hl])
    refine Re_ ?_
    refine⟨_,(by first|rfl|exact evd),.inl ?_⟩;(try simp only[go_sem,Nat.reduceAdd,Nat.reduceSub,Nat.reduceMul,Nat.reduceLT,Nat.reduceLeDiff,Nat.reduceEqDiff,reduceIte,Int.reduceToNat,Int.reduceLT,Int.reduceLE,Int.reduceEq,Int.reduceNeg,reduceCtorEq,Int.reduceBEq,Int.reduceBNe,ht,hl])
    all_goals rfl
theorem GR_(s:aN_)(r:Req)(h:StR s.sto)(hy:s.rets.length≤1000):PC Tryz.prog 162 [.agg (aB_ s.a),.agg (aO_ r)] (.agg (aB_ (wa_ s r).a)):=by
 have tl:=Kd_ s (s.rets++[ss_ s r]) s.rets.length (by simp) (by omega) (ss_ s r);refine PC.fact 7 yr_ (by simp) puA puA ?_;have hc:bM_=.seq bM_.hd (.seq (bM_.tl 1).hd (.seq (bM_.tl 2).hd (.seq (bM_.tl 3).hd (.seq (bM_.tl 4).hd (.seq (bM_.tl 5).hd (bM_.tl 6)))))):=rfl;rw[hc];clear hc;generalize bM_.tl 6=cT at *;unfold bM_;refine bd ?_;simp only[ad_.tl,ad_.hd];have c1:=wr_ s h r.block;have c2:=Gu_ (IntKind.i64.wrap (r.tries+1)) s.sto.cfg.lim.backoff (QL_ _);unfold wa_;generalize wq_ s.sto r.block=B at *;cases B with
 | false =>
   rw[if_pos rfl];try refine aa_ ?_
   refine RV_ c1 ?_
   refine Rf_ ?_
   exact ah_
 | true =>
   rw[if_neg (by simp)];by_cases q:s.sto.cfg.lim.retry≤s.rets.length
   ·have e1:decide (s.sto.cfg.lim.retry≤(s.rets.length:Int))=true:=decide_eq_true q;rw[if_pos q];try refine aa_ ?_
    refine RV_ c1 ?_
    refine ab_ ?_;repeat(first|refine aa_ ?_|simp only[go_sem,e1])
    refine Rf_ ?_
    exact ah_
   ·have e1:decide (s.sto.cfg.lim.retry≤(s.rets.length:Int))=false:=decide_eq_false q;have hsn:rows aO_ s.rets++[aO_ (ss_ s r)]=rows aO_ (s.rets++[ss_ s r]):=cx_ aO_ s.rets _;have hlr:aO_ { tag:=r.tag,block:=r.block,tries:=IntKind.i64.wrap (r.tries+1),due:=IntKind.u64.wrap (s.sto.now+BP_ (IntKind.i64.wrap (r.tries+1)) s.sto.cfg.lim.backoff) }=aO_ (ss_ s r):=rfl;rw[if_neg q];try refine aa_ ?_
    refine RV_ c1 ?_
    refine ab_ ?_;repeat(first|refine aa_ ?_|simp only[go_sem,e1])
    refine Re_ ?_
    refine ay_ (c2) ?_;repeat(first|refine aa_ ?_|simp only[go_sem,hlr,hsn,gz_])
    refine eD_ ?_ tl;exact Sn_ [] [0,1,2,5]
theorem KN_(s:al_)(h:StR s):PC Tryz.prog 145 [.agg (ao_ s.a)] (.agg (rtc (Iy_ s))):=by
 refine PC.fact 4 Ce_ (by simp) puA puA ?_;unfold qm_;refine bd ?_;have c1:=bJ_ s.nodes s.j.rt h.bn;have b1:=dE_ s.nodes s.j.rt;unfold Iy_;generalize av_ s.nodes s.j.rt=I at *;try refine aa_ ?_
 refine ae_ c1 ?_;by_cases q:0≤I
 ·have e1:decide (0≤I)=true:=decide_eq_true q
  have hg:=bQ_ (t:=s.nodes) (i:=I.toNat) (by omega);by_cases q2:(nod s.nodes I.toNat).status=1
  ·have e2:((nod s.nodes I.toNat).status==1)=true:=by simp[q2]
   rw[if_pos ⟨q,q2⟩];repeat(first|refine aa_ ?_|simp only[go_sem,e1,hg,e2])
   refine Rf_ ?_
   exact ah_
  ·have e2:((nod s.nodes I.toNat).status==1)=false:=by simp[q2]
   rw[if_neg (fun h=>q2 h.2)];repeat(first|refine aa_ ?_|simp only[go_sem,e1,hg,e2])
   refine Re_ ?_
   exact ah_
 ·have e1:decide (0≤I)=false:=decide_eq_false q;rw[if_neg (fun h=>q h.1)];repeat(first|refine aa_ ?_|simp only[go_sem,e1])
  refine Re_ ?_
  exact ah_
theorem MC_{s:al_}(h:StR s):0≤vV_ s∧vV_ s<s.nodes.length:=by
 have h1:=dE_ s.nodes s.j.rt;have h2:=Ey_ h.tree (hh_ s) (wl_ s) (s.nodes.length+1) (av_ s.nodes s.j.rt) (by omega);have h3:=h.jf;unfold vV_;omega
theorem LT_(s:al_)(h:StR s):PC Tryz.prog 131 [.agg (ao_ s.a)] (.agg (cL_ (Jz_ s))):=by
 refine PC.fact 3 tP_ (by simp) puA puA ?_;unfold lH_;refine bd ?_;have c1:=JW_ s h;have c2:=KN_ s h;have hb:=MC_ h;unfold Jz_;generalize vV_ s=I at *;generalize Iy_ s=S at *;have hg:=bQ_ (t:=s.nodes) (i:=I.toNat) (by omega);try refine aa_ ?_
 refine ay_ (c1) ?_;repeat(first|refine aa_ ?_|simp only[go_sem,hg])
 refine ay_ (c2) ?_;try refine aa_ ?_
 exact ah_
theorem zW_(s:aN_)(h:StR s.sto):PC Tryz.prog 113 [.agg (aB_ s.a)] (.tup [.agg (aB_ (mH_ s).1.a),.sl 96 false (rows cL_ (mH_ s).2)]):=by
 refine PC.fact 5 Cc_ (by simp) puA ⟨aN_.pul _,cX_ _,trivial⟩ ?_;have c1:=LT_ s.sto h;unfold mH_;generalize Jz_ s.sto=C at *;by_cases q:s.sent=true∧s.last=C
 ·rw[if_pos q];obtain⟨q1,q2⟩:=q;have e2:decide (s.last=C)=true:=decide_eq_true q2;unfold fL_;refine bd ?_;try refine aa_ ?_
  refine ae_ c1 ?_;repeat(first|refine aa_ ?_|simp only[go_sem,q1,e2])
  refine Rf_ ?_
  refine⟨_,(by first|rfl|exact evd),.inr ⟨.tup [.agg (aB_ s.a),.sl 0 true []],?_,⟨aN_.pul _,trivial,trivial⟩,Wk.tup ⟨Wk.refl _,Wk.empty _ _ _,trivial⟩⟩⟩;exact evd
 ·rw [if_neg q]
  have key:∀b:Bool,s.sent=b→(b=true→decide (s.last=C)=false)→Tri Tryz.prog 23 0 fL_ (PQ [.cell 2 true 252,.tmp 3] (.tup [.agg (aB_ (aN_.a ⟨s.sto,s.reqs,s.rets,s.tag,true,C,s.over,s.halt⟩)),.sl 96 false (rows cL_ [C])])) ⟨5,[.agg (aB_ s.a),.dead,.dead,.dead,.dead],[]⟩ []:=by
   intro b h1 h2;cases b with
   | false =>
     unfold fL_;dsimp only[om,oo,on,omg,og,ong,ci,cu,cb,cf,fA,lA,lF,bI,bC,sO,eX,lN,iX,kA,kB,kC,sR,cN];try refine aa_ ?_
     refine ae_ c1 ?_;repeat(first|refine aa_ ?_|simp only[go_sem,h1])
     refine Re_ ?_
     refine⟨_,(by first|rfl|exact evd),.inr ⟨.tup [.agg (aB_ (aN_.a ⟨s.sto,s.reqs,s.rets,s.tag,true,C,s.over,s.halt⟩)),.sl 96 true (rows cL_ [C])],?_,⟨aN_.pul _,cX_ _,trivial⟩,Wk.tup ⟨Wk.refl _,Wk.open_ _ _ _,trivial⟩⟩⟩;exact evd
   | true =>
     have e2:=h2 rfl;unfold fL_;dsimp only[om,oo,on,omg,og,ong,ci,cu,cb,cf,fA,lA,lF,bI,bC,sO,eX,lN,iX,kA,kB,kC,sR,cN];try refine aa_ ?_
     refine ae_ c1 ?_;repeat(first|refine aa_ ?_|simp only[go_sem,h1,e2])
     refine Re_ ?_
     refine⟨_,(by first|rfl|exact evd),.inr ⟨.tup [.agg (aB_ (aN_.a ⟨s.sto,s.reqs,s.rets,s.tag,true,C,s.over,s.halt⟩)),.sl 96 true (rows cL_ [C])],?_,⟨aN_.pul _,cX_ _,trivial⟩,Wk.tup ⟨Wk.refl _,Wk.open_ _ _ _,trivial⟩⟩⟩;exact evd
  exact key s.sent rfl fun hb=>decide_eq_false fun hl=>q ⟨hb,hl⟩
end Go.Proofs.YtipiipgpnkpejaaGreat
