/-
 My texts Nd, Ne, joined.
-/
import Derived.Test.YtipiipgpnkpejaaGreatV8
import Derived.Test.YtipiipgpnkpejaaGreatW6
namespace Go.Proofs.YtipiipgpnkpejaaGreat
open Go Go.FH Go.RowKit
set_option linter.unusedVariables false
set_option linter.unusedSimpArgs false
set_option maxRecDepth 8000
set_option maxHeartbeats 4000000

theorem sR_ (x:Sta) (v:AV):(staC x).set 151 v=staC { x with rets:=v }:=by
 simp only[staC,List.set_append,ar_,List.length_cons,Nat.reduceSub,Nat.reduceLT,if_false,List.set_cons_succ,List.set_cons_zero]
theorem sw_ (x:Sta):(staC x).getD 151 .dead=x.rets:=by
 simp only[staC,List.getD_eq_getElem?_getD,List.getElem?_append,ar_,List.length_cons,Nat.reduceSub,Nat.reduceLT,if_false,List.getElem?_cons_succ,List.getElem?_cons_zero,Option.getD_some]
theorem do_ (l:List Req):List.take l.length (rows reqC l)=rows reqC l:=List.take_of_length_le (by simp)
theorem nl_ (s:VSta) (h:StR s.sto) (r:Rt):PC Tryz.prog 150 [.agg (staC s.a),.agg (rtc r)] (.bool (optS s.sto r)):=by
 refine PC.fact 6 jB_ (by simp) puA puA ?_
 unfold eL_;refine bd ?_
 have c1:=aS_ s.sto.nodes r h.bn
 have b1:=bN_ s.sto.nodes r
 unfold optS
 generalize findT s.sto.nodes r=I at *
 try refine aa_ ?_
 refine pcall c1 ?_
 by_cases q:0≤I
 · have e1:decide (0≤I)=true:=decide_eq_true q
   have hg:=aW_ (t:=s.sto.nodes) (i:=I.toNat) (by omega)
   repeat(first | refine aa_ ?_ | simp only[go_sem,e1,hg])
   have e2:((nod s.sto.nodes I.toNat).status==0)=decide ((nod s.sto.nodes I.toNat).status=0):=by rw[Bool.eq_iff_iff];simp
   refine⟨_,(by first | rfl | exact evd),.inl ?_⟩
   (try simp only[go_sem,Nat.reduceAdd,Nat.reduceSub,Nat.reduceMul,Nat.reduceLT,Nat.reduceLeDiff,Nat.reduceEqDiff,reduceIte,Int.reduceToNat,Int.reduceLT,Int.reduceLE,Int.reduceEq,Int.reduceNeg,reduceCtorEq,Int.reduceBEq,Int.reduceBNe,e2])
   all_goals rfl
 · have e1:decide (0≤I)=false:=decide_eq_false q
   repeat(first | refine aa_ ?_ | simp only[go_sem,e1])
   exact fin0
theorem Cf_ (s:VSta) (h:StR s.sto) (r:Rt):ACall Tryz.prog 150 [.agg (staC { s.a with rets:=.hs 35 0 0 s.rets.length }),.agg (rtc r)] [.vec 35 (rows reqC s.rets)] (.bool (optS s.sto r)) [.vec 35 (rows reqC s.rets)]:=by
 refine ACall.lend rfl ?_
 (try simp only[go_sem,do_,List.length_cons,List.length_nil,List.range_succ,List.range_zero])
 exact nl_ s h r
theorem zN_ (s:VSta) (r:Rt) (k:Int) (hb:s.reqs.length≤1000000):PC Tryz.prog 151 [.agg (staC s.a),.agg (rtc r),.int .i64 k] (.agg (staC (openS s r k).a)):=by
 refine PC.fact 8 kL_ (by simp) puA puA ?_
 unfold gi_;refine bd ?_
 have hsn:rows reqC s.reqs++[reqC ⟨s.tag,r,k,0⟩]=rows reqC (s.reqs++[⟨s.tag,r,k,0⟩]):=bn_ reqC s.reqs _
 have ht:List.take (s.reqs.length+1) (rows reqC (s.reqs++[⟨s.tag,r,k,0⟩]))=rows reqC (s.reqs++[⟨s.tag,r,k,0⟩]):=List.take_of_length_le (by simp)
 repeat(first | refine aa_ ?_ | simp only[go_sem,hsn,do_])
 refine⟨_,(by first | rfl | exact evd),.inl ?_⟩
 (try simp only[go_sem,Nat.reduceAdd,Nat.reduceSub,Nat.reduceMul,Nat.reduceLT,Nat.reduceLeDiff,Nat.reduceEqDiff,reduceIte,Int.reduceToNat,Int.reduceLT,Int.reduceLE,Int.reduceEq,Int.reduceNeg,reduceCtorEq,Int.reduceBEq,Int.reduceBNe,ht])
 all_goals rfl
theorem CT_ (s:VSta) (r:Rt) (k:Int) (hb:s.reqs.length≤1000000) (l:List Req) (n:Nat):ACall Tryz.prog 151 [.agg (staC { s.a with rets:=.hs 35 0 0 n }),.agg (rtc r),.int .i64 k] [.vec 35 (rows reqC l)] (.agg (staC { (openS s r k).a with rets:=.hs 35 0 0 n })) [.vec 35 (rows reqC l)]:=by
 refine ACall.fact 8 kL_ (by simp) ?_ (by simp)
 unfold gi_;refine bd ?_
 have hsn:rows reqC s.reqs++[reqC ⟨s.tag,r,k,0⟩]=rows reqC (s.reqs++[⟨s.tag,r,k,0⟩]):=bn_ reqC s.reqs _
 have ht:List.take (s.reqs.length+1) (rows reqC (s.reqs++[⟨s.tag,r,k,0⟩]))=rows reqC (s.reqs++[⟨s.tag,r,k,0⟩]):=List.take_of_length_le (by simp)
 repeat(first | refine aa_ ?_ | simp only[go_sem,hsn,do_])
 refine finQ [2,3,4,5,6,7] [0] _ (by simp) (by first | rfl | exact evd) (by simp) rfl (by simp) (by simp) evd ?_
 (try simp only[go_sem,Nat.reduceAdd,Nat.reduceSub,Nat.reduceMul,Nat.reduceLT,Nat.reduceLeDiff,Nat.reduceEqDiff,reduceIte,Int.reduceToNat,Int.reduceLT,Int.reduceLE,Int.reduceEq,Int.reduceNeg,reduceCtorEq,Int.reduceBEq,Int.reduceBNe,ht])
 all_goals rfl
theorem xE_ (s:VSta) (l:List Rt) (h:StR s.sto) (hb:s.reqs.length+l.length≤1000000):PC Tryz.prog 136 [.agg (staC s.a),.sl 32 false (rows rtc l)] (.agg (staC (opensS s l).a)):=by
 refine PC.fact 6 sx_ (by simp) puA puA ?_
 unfold kf_;refine bd ?_
 have hz:upto (openR l) s 0=s:=rfl
 have hS:∀ k,(upto (openR l) s k).sto=s.sto∧(upto (openR l) s k).reqs.length≤s.reqs.length+k:=by
   intro k
   induction k with
   | zero=>exact⟨rfl,Nat.le_refl _⟩
   | succ k ih =>
     rw[aX_]
     generalize upto (openR l) s k=s1 at *
     unfold openR
     split
     · refine⟨ih.1,?_⟩
       unfold openS
       simp only[List.length_append,List.length_singleton]
       omega
     · exact⟨ih.1,by omega⟩
 show Tri _ _ _ _ (PQ _ (.agg (staC (upto (openR l) s l.length).a))) _ _
 try refine aa_ ?_
 refine au_ (fun i:Nat=>[(5,.int .i64 i)]) (fun i=>[.var (staC (upto (openR l) s i).a),.var (staC sta0)]) (fun i=>l.length-i) (fun i=>i≤l.length) 0 (Nat.zero_le _) ?_ ?_
 · rw[hz]
   refine GC.mk' [] [0,1] (by simp) rfl (by simp) (by simp) evd evd
 intro i hi
 (try simp only[as_,av_,List.set_cons_zero,List.set_cons_succ])
 by_cases h1:i<l.length
 · have e1:decide ((i:Int)<((l.length:Nat):Int))=true:=decide_eq_true (by omega)
   have hw:=af_ h1 (by omega)
   have hgd:=bl_ (f:=rtc) rt0 h1
   have hs:=aX_ (openR l) s i
   obtain⟨hS1,hS2⟩:=hS i
   have hc:openR l i (upto (openR l) s i)=if optS (upto (openR l) s i).sto (l.getD i rt0)=true then openS (upto (openR l) s i) (l.getD i rt0) 0 else upto (openR l) s i:=rfl
   have c1:=nl_ (upto (openR l) s i) (by rw[hS1];exact h) (l.getD i rt0)
   have c2:=zN_ (upto (openR l) s i) (l.getD i rt0) 0 (by omega)
   generalize upto (openR l) s i=s1 at *
   generalize l.getD i rt0=r at *
   generalize optS s1.sto r=B at *
   rw[hc]at hs
   repeat(first | refine aa_ ?_ | simp only[go_sem,e1])
   refine ac_ ?_
   repeat(first | refine aa_ ?_ | simp only[go_sem,hgd])
   refine dpcall (c1) ?_
   cases B with
   | true =>
     rw[if_pos rfl]at hs
     try refine aa_ ?_
     refine ac_ ?_
     repeat(first | refine aa_ ?_ | simp only[go_sem,hgd])
     refine dpcall (c2) ?_
     repeat(first | refine aa_ ?_ | simp only[go_sem,hw])
     refine⟨i+1,h1,by omega,?_⟩
     rw[hs]
     refine GC.mk' [] [0,1] (by simp) rfl (by simp) (by simp) evd evd
   | false =>
     rw[if_neg (by simp)]at hs
     try refine aa_ ?_
     refine ab_ ?_
     repeat(first | refine aa_ ?_ | simp only[go_sem,hw])
     refine⟨i+1,h1,by omega,?_⟩
     rw[hs]
     refine GC.mk' [] [0,1] (by simp) rfl (by simp) (by simp) evd evd
 · obtain rfl:i=l.length:=by omega
   have e1:decide (((l.length:Nat):Int)<((l.length:Nat):Int))=false:=decide_eq_false (by omega)
   repeat(first | refine aa_ ?_ | simp only[go_sem,e1])
   refine ab_ ?_
   try refine aa_ ?_
   exact fin0
theorem CM_:WkC (stoC sto0) (stoC vsto0.a):=by
 unfold sto0 vsto0 VSto.a stoC
 dsimp only
 refine WkC.app ?_ ?_
 · unfold cfg0 VCfg.a cfgC
   dsimp only
   exact(WkC.refl _).app (.same _ (.same _ ((WkC.refl _).app ((WkC.refl _).app (.one (Wk.empty _ _ _) fun h=>h)))))
 · exact .cons (Wk.empty _ _ _) (fun h=>h) (.cons (Wk.empty _ _ _) (fun h=>h) ((WkC.refl _).app ((WkC.refl _).app (.cons (Wk.empty _ _ _) (fun h=>h) (.cons (Wk.empty _ _ _) (fun h=>h) (.cons (Wk.empty _ _ _) (fun h=>h) (.same _ ((WkC.refl _).app (.one (Wk.empty _ _ _) fun h=>h)))))))))
theorem xQ_:Wk (.agg (staC sta0)) (.agg (staC vsta0.a)):=by
 refine Wk.agg ?_
 unfold sta0 vsta0 VSta.a staC
 dsimp only
 exact CM_.app (.cons (Wk.empty _ _ _) (fun h=>h) (.cons (Wk.empty _ _ _) (fun h=>h) (WkC.refl _)))
theorem uh_:PuL (staC sta0):=by simp[sta0,staC,bq_,PuL,Pu,PuLL,sto0,stoC,dA_,bg_,cI_,cH_,cfg0,cfgC,cp0,fC_]
theorem wr_ (s:VSta) (v:Vdt) (hb:s.reqs.length≤1000000):PC Tryz.prog 161 [.agg (staC s.a),.agg (vdtC v)] (.tup [.agg (reqC (matchS s v).1),.agg (staC (matchS s v).2.1.a),.int .i64 (matchS s v).2.2]):=by
 refine PC.fact 9 qm_ (by simp) puA ⟨bU_ _,VSta.pul _,trivial,trivial⟩ ?_
 unfold iS_;refine bd ?_
 obtain⟨R,hR⟩:∃ R,R=matchS s v:=⟨_,rfl⟩
 rw[← hR]
 unfold matchS fstN at hR
 try refine aa_ ?_
 refine au_ (fun i:Nat=>[(7,.int .i64 i)]) (fun _=>[.var (staC s.a),.var (vdtC v),.var (reqC req0),.var (staC sta0)]) (fun i=>s.reqs.length-i)
   (fun i=>i≤s.reqs.length∧R=(match fstG (fun i=>decide ((reqA s.reqs i).tag=v.tag)) (s.reqs.length-i) i with
 | some i=>(reqA s.reqs i,withR s (takeR s.reqs i),0)
 | none=>(req0,vsta0,23))) 0 ⟨Nat.zero_le _,hR⟩ ?_ ?_
 · refine GC.mk' [] [0,1,2,3] (by simp) rfl (by simp) (by simp) evd evd
 clear hR
 rintro i ⟨hi,hn⟩
 (try simp only[as_,av_,List.set_cons_zero,List.set_cons_succ])
 by_cases h1:i<s.reqs.length
 · have e1:decide ((i:Int)<((s.reqs.length:Nat):Int))=true:=decide_eq_true (by omega)
   have hw:=af_ h1 (by omega)
   have hgd:(rows reqC s.reqs).getD i []=reqC (reqA s.reqs i):=bl_ (f:=reqC) req0 h1
   by_cases q:(reqA s.reqs i).tag=v.tag
   · rw[hw_ h1 (decide_eq_true q)]at hn
     dsimp only at hn
     generalize hrq:reqA s.reqs i=r at *
     have e2:(r.tag==v.tag)=true:=by simp[q]
     have hw1:IntKind.i64.wrap ((i:Int)+1)=((i+1:Nat):Int):=hw
     have ht1:List.take i (rows reqC s.reqs)=rows reqC (s.reqs.take i):=ie_ _ _ _
     have ht2:List.drop (i+1) (rows reqC s.reqs)=rows reqC (s.reqs.drop (i+1)):=if_ _ _ _
     have ht3:rows reqC (s.reqs.take i)++rows reqC (s.reqs.drop (i+1))=rows reqC (takeR s.reqs i):=oz_ _ _ _
     have ht4:(s.reqs.take i).length+(s.reqs.drop (i+1)).length=(takeR s.reqs i).length:=by unfold takeR;rw[List.length_append]
     have ht5:List.take (s.reqs.length-(i+1)) (rows reqC (s.reqs.drop (i+1)))=rows reqC (s.reqs.drop (i+1)):=List.take_of_length_le (by simp)
     have hlo:(takeR s.reqs i).length≤s.reqs.length:=(ys_ _ _).1
     subst hn
     dsimp only
     repeat(first | refine aa_ ?_ | simp only[go_sem,e1])
     refine ac_ ?_
     repeat(first | refine aa_ ?_ | simp only[go_sem,hgd,e2])
     refine ac_ ?_
     repeat(first | refine aa_ ?_ | simp only[go_sem,hgd,hw1,ht1,ht2,ht3,ht4,ht5])
     refine⟨_,(by first | rfl | exact evd),.inl ?_⟩
     (try simp only[go_sem,Nat.reduceAdd,Nat.reduceSub,Nat.reduceMul,Nat.reduceLT,Nat.reduceLeDiff,Nat.reduceEqDiff,reduceIte,Int.reduceToNat,Int.reduceLT,Int.reduceLE,Int.reduceEq,Int.reduceNeg,reduceCtorEq,Int.reduceBEq,Int.reduceBNe,do_])
     all_goals rfl
   · rw[hm_ h1 (decide_eq_false q)]at hn
     have e2:((reqA s.reqs i).tag==v.tag)=false:=by simp[q]
     repeat(first | refine aa_ ?_ | simp only[go_sem,e1])
     refine ac_ ?_
     repeat(first | refine aa_ ?_ | simp only[go_sem,hgd,e2])
     refine ab_ ?_
     repeat(first | refine aa_ ?_ | simp only[go_sem,hw])
     refine⟨i+1,⟨h1,hn⟩,by omega,?_⟩
     refine GC.mk' [] [0,1,2,3] (by simp) rfl (by simp) (by simp) evd evd
 · obtain rfl:i=s.reqs.length:=by omega
   have e1:decide (((s.reqs.length:Nat):Int)<((s.reqs.length:Nat):Int))=false:=decide_eq_false (by omega)
   rw[hc_]at hn
   dsimp only at hn
   subst hn
   dsimp only
   repeat(first | refine aa_ ?_ | simp only[go_sem,e1])
   refine ab_ ?_
   try refine aa_ ?_
   refine⟨_,(by first | rfl | exact evd),.inr ⟨.tup [.agg (reqC req0),.agg (staC sta0),.int .i64 23],?_,?_,Wk.tup ⟨Wk.refl _,?_,Wk.refl _,trivial⟩⟩⟩
   · (try simp only[go_sem,Nat.reduceAdd,Nat.reduceSub,Nat.reduceMul,Nat.reduceLT,Nat.reduceLeDiff,Nat.reduceEqDiff,reduceIte,Int.reduceToNat,Int.reduceLT,Int.reduceLE,Int.reduceEq,Int.reduceNeg,reduceCtorEq,Int.reduceBEq,Int.reduceBNe])
     all_goals rfl
   · exact⟨bU_ _,uh_,trivial,trivial⟩
   · exact xQ_
theorem lU_ (s:VSta) (l:List Req) (h:StR s.sto) (hb:l.length≤1000000):PC Tryz.prog 152 [.agg (staC s.a),.sl 35 false (rows reqC l)] (.sl 35 false (rows reqC (knownL s.sto.nodes l))):=by
 refine PC.fact 7 qs_ (by simp) puA puA ?_
 unfold iW_;refine bd ?_
 have hz:upto (knownR s.sto.nodes l) [] 0=[]:=rfl
 have hL:∀ k,(upto (knownR s.sto.nodes l) [] k).length≤k:=fun k=>by
   have:=dM_ (f:=knownR s.sto.nodes l) (a:=[]) (fun i o=>by unfold knownR;split<;>simp) k
   simpa using this
 show Tri _ _ _ _ (PQ _ (.sl 35 false (rows reqC (upto (knownR s.sto.nodes l) [] l.length)))) _ _
 try refine aa_ ?_
 refine cF_ 5 35 ?_;simp only[go_sem]
 refine au_ (fun i:Nat=>[(6,.int .i64 i),(5,.hs 35 1 0 (upto (knownR s.sto.nodes l) [] i).length)]) (fun i=>[.var (staC s.a),.vec 35 (rows reqC (upto (knownR s.sto.nodes l) [] i))]) (fun i=>l.length-i) (fun i=>i≤l.length) 0 (Nat.zero_le _) ?_ ?_
 · rw[hz]
   refine GC.mk' [] [0,1] (by simp) rfl (by simp) (by simp) evd evd
 intro i hi
 have hLi:=hL i
 (try simp only[as_,av_,List.set_cons_zero,List.set_cons_succ])
 by_cases h1:i<l.length
 · have e1:decide ((i:Int)<((l.length:Nat):Int))=true:=decide_eq_true (by omega)
   have hw:=af_ h1 (by omega)
   have hgd:(rows reqC l).getD i []=reqC (reqA l i):=bl_ (f:=reqC) req0 h1
   have hs:=aX_ (knownR s.sto.nodes l) [] i
   have c1:=aS_ s.sto.nodes (reqA l i).block h.bn
   generalize upto (knownR s.sto.nodes l) [] i=o at *
   have hc:knownR s.sto.nodes l i o=if 0≤findT s.sto.nodes (reqA l i).block then o++[reqA l i]else o:=rfl
   rw[hc]at hs
   generalize reqA l i=r at *
   have hsn:rows reqC o++[reqC r]=rows reqC (o++[r]):=bn_ reqC o r
   repeat(first | refine aa_ ?_ | simp only[go_sem,e1])
   refine ac_ ?_
   repeat(first | refine aa_ ?_ | simp only[go_sem,hgd])
   refine dpcall (c1) ?_
   try refine aa_ ?_
   by_cases q:0≤findT s.sto.nodes r.block
   · have e2:decide (0≤findT s.sto.nodes r.block)=true:=decide_eq_true q
     rw[if_pos q]at hs
     repeat(first | refine aa_ ?_ | simp only[go_sem,e2])
     refine ac_ ?_
     repeat(first | refine aa_ ?_ | simp only[go_sem,hgd,hsn,hw])
     refine⟨i+1,h1,by omega,?_⟩
     rw[hs]
     refine GC.mk' [] [0,3] (by simp) rfl (by simp) (by simp) evd evd
   · have e2:decide (0≤findT s.sto.nodes r.block)=false:=decide_eq_false q
     rw[if_neg q]at hs
     repeat(first | refine aa_ ?_ | simp only[go_sem,e2])
     refine ab_ ?_
     repeat(first | refine aa_ ?_ | simp only[go_sem,hw])
     refine⟨i+1,h1,by omega,?_⟩
     rw[hs]
     refine GC.mk' [] [0,1] (by simp) rfl (by simp) (by simp) evd evd
 · obtain rfl:i=l.length:=by omega
   have e1:decide (((l.length:Nat):Int)<((l.length:Nat):Int))=false:=decide_eq_false (by omega)
   generalize upto (knownR s.sto.nodes l) [] l.length=o at *
   repeat(first | refine aa_ ?_ | simp only[go_sem,e1])
   refine ab_ ?_
   try refine aa_ ?_
   refine⟨_,(by first | rfl | exact evd),.inl ?_⟩
   (try simp only[go_sem,Nat.reduceAdd,Nat.reduceSub,Nat.reduceMul,Nat.reduceLT,Nat.reduceLeDiff,Nat.reduceEqDiff,reduceIte,Int.reduceToNat,Int.reduceLT,Int.reduceLE,Int.reduceEq,Int.reduceNeg,reduceCtorEq,Int.reduceBEq,Int.reduceBNe,do_])
   all_goals rfl
theorem qY_ (s:VSta) (h:StR s.sto) (h1:s.reqs.length≤1000000) (h2:s.rets.length≤1000000):PC Tryz.prog 134 [.agg (staC s.a)] (.agg (staC (dropS s).a)):=by
 refine PC.fact 3 sd_ (by simp) puA puA ?_
 unfold jP_;refine bd ?_
 have c1:=lU_ s s.reqs h h1
 have c2:=lU_ s s.rets h h2
 unfold dropS
 generalize knownL s.sto.nodes s.reqs=k1 at *
 generalize knownL s.sto.nodes s.rets=k2 at *
 try refine aa_ ?_
 refine dpcall (c1) ?_
 try refine aa_ ?_
 refine dpcall (c2) ?_
 try refine aa_ ?_
 exact fin0
theorem xc_ (t b:Int) (ht:t≤9223372036854775807):PC Tryz.prog 184 [.int .i64 t,.int .u64 b] (.int .u64 (delayS t b)):=by
 refine PC.fact 7 oW_ (by simp) puA puA ?_
 unfold jg_;refine bd ?_
 unfold delayS
 by_cases h0:b=0
 · subst h0
   try refine aa_ ?_
   refine ac_ ?_
   try refine aa_ ?_
   exact fin0
 have e0:(b==0)=false:=by simp[h0]
 rw[if_neg h0]
 obtain⟨R,hR⟩:∃ R,R=delayG b (t-1).toNat 1:=⟨_,rfl⟩
 rw[← hR]
 repeat(first | refine aa_ ?_ | simp only[go_sem,e0])
 refine ab_ ?_
 try refine aa_ ?_
 refine au_ (fun x:Nat × Int=>[(6,.int .i64 ((x.1:Int)+1)),(5,.int .u64 x.2)]) (fun _=>[]) (fun x=>(t-1).toNat-x.1) (fun x=>x.1≤(t-1).toNat∧R=delayG b ((t-1).toNat-x.1) x.2) (0,1) ⟨Nat.zero_le _,hR⟩ ?_ ?_
 · refine GC.mk' [] [] (by simp) rfl (by simp) (by simp) evd evd
 clear hR
 rintro⟨i,d⟩ ⟨hi,hn⟩
 dsimp only at hi hn ⊢
 (try simp only[as_,av_,List.set_cons_zero,List.set_cons_succ])
 by_cases h1:(i:Int)+1<t
 · have e1:decide ((i:Int)+1<t)=true:=decide_eq_true h1
   obtain⟨f,hf⟩:∃ f,(t-1).toNat-i=f+1:=⟨(t-1).toNat-i-1,by omega⟩
   rw[hf]at hn
   have hg:delayG b (f+1) d=if IntKind.u64.wrap (b-d)≤d then b else delayG b f (IntKind.u64.wrap (2*d)):=rfl
   rw[hg]at hn
   have hw:IntKind.i64.wrap ((i:Int)+1+1)=((i+1:Nat):Int)+1:=by rw[ah_ (by omega) (by omega)];omega
   by_cases q:IntKind.u64.wrap (b-d)≤d
   · have e2:decide (IntKind.u64.wrap (b-d)≤d)=true:=decide_eq_true q
     rw[if_pos q]at hn
     subst hn
     repeat(first | refine aa_ ?_ | simp only[go_sem,e1])
     refine ac_ ?_
     repeat(first | refine aa_ ?_ | simp only[go_sem,e2])
     refine ac_ ?_
     try refine aa_ ?_
     exact fin0
   · have e2:decide (IntKind.u64.wrap (b-d)≤d)=false:=decide_eq_false q
     rw[if_neg q]at hn
     repeat(first | refine aa_ ?_ | simp only[go_sem,e1])
     refine ac_ ?_
     repeat(first | refine aa_ ?_ | simp only[go_sem,e2])
     refine ab_ ?_
     repeat(first | refine aa_ ?_ | simp only[go_sem,hw])
     refine⟨(i+1,IntKind.u64.wrap (2*d)),⟨by dsimp only;omega,by rw[hn,show (t-1).toNat-(i+1)=f by omega]⟩,by dsimp only;omega,?_⟩
     refine GC.mk' [] [] (by simp) rfl (by simp) (by simp) evd evd
 · have e1:decide ((i:Int)+1<t)=false:=decide_eq_false h1
   rw[show (t-1).toNat-i=0 by omega]at hn
   have hg:delayG b 0 d=d:=rfl
   rw[hg]at hn
   subst hn
   repeat(first | refine aa_ ?_ | simp only[go_sem,e1])
   refine ab_ ?_
   try refine aa_ ?_
   exact fin0
theorem BM_ (s:VSta) (h:StR s.sto) (h1:s.reqs.length+s.rets.length≤1000000):PC Tryz.prog 133 [.agg (staC s.a)] (.agg (staC (dueS s).a)):=by
 refine PC.fact 5 vY_ (by simp) puA puA ?_
 unfold lP_;refine bd ?_
 have hz:upto (dueR s.rets) (withY s []) 0=withY s []:=rfl
 have hK : ∀ k, (upto (dueR s.rets) (withY s []) k).sto = s.sto ∧ (upto (dueR s.rets) (withY s []) k).reqs.length ≤ s.reqs.length + k ∧ (upto (dueR s.rets) (withY s []) k).rets.length ≤ k := by
   intro k
   induction k with
   | zero=>exact⟨rfl,Nat.le_refl _,Nat.le_refl _⟩
   | succ k ih =>
     rw[aX_]
     generalize upto (dueR s.rets) (withY s []) k=s1 at *
     unfold dueR
     split
     · unfold withY
       simp only[List.length_append,List.length_singleton]
       exact⟨ih.1,by omega,by omega⟩
     · split
       · unfold openS
         simp only[List.length_append,List.length_singleton]
         exact⟨ih.1,by omega,by omega⟩
       · exact⟨ih.1,by omega,by omega⟩
 show Tri _ _ _ _ (PQ _ (.agg (staC (upto (dueR s.rets) (withY s []) s.rets.length).a))) _ _
 try refine aa_ ?_
 refine hU_ 0 151 35 ?_ (by rfl) (by exact sw_ _)
 simp only[go_sem,sR_]
 refine au_ (fun i:Nat=>[(4,.int .i64 i)]) (fun i=>[.var (staC { (upto (dueR s.rets) (withY s []) i).a with rets:=.hs 35 2 0 (upto (dueR s.rets) (withY s []) i).rets.length }),.var (staC sta0),.vec 35 (rows reqC (upto (dueR s.rets) (withY s []) i).rets)]) (fun i=>s.rets.length-i) (fun i=>i≤s.rets.length) 0 (Nat.zero_le _) ?_ ?_
 · rw[hz]
   unfold withY
   refine GC.mk' [] [0,1,2] (by simp) rfl (by simp) (by simp) evd evd
 intro i hi
 obtain⟨hK1,hK2,hK3⟩:=hK i
 (try simp only[as_,av_,List.set_cons_zero,List.set_cons_succ])
 by_cases h1:i<s.rets.length
 · have e1:decide ((i:Int)<((s.rets.length:Nat):Int))=true:=decide_eq_true (by omega)
   have hw:=af_ h1 (by omega)
   have hgd:(rows reqC s.rets).getD i []=reqC (reqA s.rets i):=bl_ (f:=reqC) req0 h1
   have hs:=aX_ (dueR s.rets) (withY s []) i
   clear hK
   generalize upto (dueR s.rets) (withY s []) i=s1 at *
   have hc:dueR s.rets i s1=if s1.sto.now<(reqA s.rets i).due then withY s1 (s1.rets++[reqA s.rets i])else if optS s1.sto (reqA s.rets i).block=true then openS s1 (reqA s.rets i).block (reqA s.rets i).tries else s1:=rfl
   rw[hc]at hs
   have c1:=Cf_ s1 (by rw[hK1];exact h) (reqA s.rets i).block
   have c2:=CT_ s1 (reqA s.rets i).block (reqA s.rets i).tries (by omega) s1.rets s1.rets.length
   generalize reqA s.rets i=r at *
   have hsn:rows reqC s1.rets++[reqC r]=rows reqC (s1.rets++[r]):=bn_ reqC s1.rets r
   repeat(first | refine aa_ ?_ | simp only[go_sem,e1])
   refine ac_ ?_
   repeat(first | refine aa_ ?_ | simp only[go_sem,hgd])
   by_cases q:s1.sto.now<r.due
   · have e2:decide (s1.sto.now<r.due)=true:=decide_eq_true q
     rw[if_pos q]at hs
     repeat(first | refine aa_ ?_ | simp only[go_sem,e2])
     refine ac_ ?_
     repeat(first | refine aa_ ?_ | simp only[go_sem,hgd,hsn,hw])
     refine⟨i+1,h1,by omega,?_⟩
     rw[hs]
     unfold withY
     refine GC.mk' [] [0,1,3] (by simp) rfl (by simp) (by simp) evd evd
   · have e2:decide (s1.sto.now<r.due)=false:=decide_eq_false q
     rw[if_neg q]at hs
     repeat(first | refine aa_ ?_ | simp only[go_sem,e2])
     refine ab_ ?_
     repeat(first | refine aa_ ?_ | simp only[go_sem,hgd])
     refine dcallr [2] (c1) evd (Picks.mk' (by simp) evd) ?_;refine evg ?_
     generalize optS s1.sto r.block=B at *
     cases B with
     | true =>
       rw[if_pos rfl]at hs
       try refine aa_ ?_
       refine ac_ ?_
       repeat(first | refine aa_ ?_ | simp only[go_sem,hgd])
       refine dcall [2] (c2) (by simp) evd (Picks.mk' (by simp) evd) ?_;refine evg ?_
       repeat(first | refine aa_ ?_ | simp only[go_sem,hw])
       refine⟨i+1,h1,by omega,?_⟩
       rw[hs]
       unfold openS
       refine GC.mk' [] [0,1,2] (by simp) rfl (by simp) (by simp) evd evd
     | false =>
       rw[if_neg (by simp)]at hs
       try refine aa_ ?_
       refine ab_ ?_
       repeat(first | refine aa_ ?_ | simp only[go_sem,hw])
       refine⟨i+1,h1,by omega,?_⟩
       rw[hs]
       refine GC.mk' [] [0,1,2] (by simp) rfl (by simp) (by simp) evd evd
 · obtain rfl:i=s.rets.length:=by omega
   have e1:decide (((s.rets.length:Nat):Int)<((s.rets.length:Nat):Int))=false:=decide_eq_false (by omega)
   generalize upto (dueR s.rets) (withY s []) s.rets.length=s1 at *
   repeat(first | refine aa_ ?_ | simp only[go_sem,e1])
   refine ab_ ?_
   try refine aa_ ?_
   refine⟨_,(by first | rfl | exact evd),.inl ?_⟩
   (try simp only[go_sem,Nat.reduceAdd,Nat.reduceSub,Nat.reduceMul,Nat.reduceLT,Nat.reduceLeDiff,Nat.reduceEqDiff,reduceIte,Int.reduceToNat,Int.reduceLT,Int.reduceLE,Int.reduceEq,Int.reduceNeg,reduceCtorEq,Int.reduceBEq,Int.reduceBNe,do_])
   all_goals rfl

theorem EX_ (n:Int):IntKind.i64.wrap n≤9223372036854775807:=by rw[IntKind.wrap_i64];omega
theorem yV_ (s:VSta) (L:List Req) (n:Nat) (hL:L.length=n+1) (hb:n≤1000000) (r0:Req):
   Tri Tryz.prog 117 0 (aT_.tl 6) (PQ [.cell 4 true 252] (.agg (staC (withY s (sinkG L n)).a))) ⟨7,[.dead,.dead,.ptr 0 0,.ptr 1 0,.ptr 2 0,.hs 35 3 0 (n+1),.dead],[]⟩ [.var (staC s.a),.var (reqC r0),.var (staC sta0),.vec 35 (rows reqC L)]:=by
 unfold aT_;refine bd ?_
 simp only[ACode.tl]
 obtain⟨R,hR⟩:∃ R,R=sinkG L n:=⟨_,rfl⟩
 rw[← hR]
 have hw0:IntKind.i64.wrap (((n+1:Nat):Int)-1)=(n:Int):=by rw[ah_ (by omega) (by omega)];omega
 have hw0':IntKind.i64.wrap ((n:Int)+1-1)=(n:Int):=by rw[ah_ (by omega) (by omega)];omega
 repeat(first | refine aa_ ?_ | simp only[go_sem,hw0,hw0'])
 refine au_ (fun x:Nat × List Req=>[(6,.int .i64 x.1)]) (fun x=>[.var (staC s.a),.var (reqC r0),.var (staC sta0),.vec 35 (rows reqC x.2)]) (fun x=>x.1) (fun x=>x.1≤n∧x.2.length=n+1∧R=sinkG x.2 x.1) (n,L) ⟨Nat.le_refl _,hL,hR⟩ ?_ ?_
 · refine GC.mk' [] [0,1,2,3] (by simp) rfl (by simp) (by simp) evd evd
 clear hR
 rintro⟨k,l⟩ ⟨hk,hl,hn⟩
 dsimp only at hk hl hn ⊢
 (try simp only[as_,av_,List.set_cons_zero,List.set_cons_succ])
 have ht:List.take (n+1) (rows reqC l)=rows reqC l:=List.take_of_length_le (by simp[hl])
 cases k with
 | zero =>
   have e0:decide ((0:Int)<((0:Nat):Int))=false:=by decide
   have hr:R=l:=hn
   subst hr
   repeat(first | refine aa_ ?_ | simp only[go_sem,e0])
   refine ab_ ?_
   try refine aa_ ?_
   refine⟨_,(by first | rfl | exact evd),.inl ?_⟩
   (try simp only[go_sem,Nat.reduceAdd,Nat.reduceSub,Nat.reduceMul,Nat.reduceLT,Nat.reduceLeDiff,Nat.reduceEqDiff,reduceIte,Int.reduceToNat,Int.reduceLT,Int.reduceLE,Int.reduceEq,Int.reduceNeg,reduceCtorEq,Int.reduceBEq,Int.reduceBNe,ht,hl])
   all_goals rfl
 | succ k =>
   have e0:decide ((0:Int)<((k+1:Nat):Int))=true:=decide_eq_true (by omega)
   have hw:IntKind.i64.wrap (((k+1:Nat):Int)-1)=(k:Int):=by rw[ah_ (by omega) (by omega)];omega
   have hg1:(rows reqC l).getD (k+1) []=reqC (reqA l (k+1)):=bl_ (f:=reqC) req0 (by omega)
   have hg2:(rows reqC l).getD k []=reqC (reqA l k):=bl_ (f:=reqC) req0 (by omega)
   have hsk:sinkG l (k+1)=if dueLt (reqA l (k+1)) (reqA l k)=true then sinkG ((l.set (k+1) (reqA l k)).set k (reqA l (k+1))) k else l:=rfl
   rw[hsk]at hn
   have hset:∀ (m:List Req) (j:Nat) (x:Req),(rows reqC m).set j (reqC x)=rows reqC (m.set j x):=fun m j x=>nC_ reqC m j x
   unfold dueLt at hn
   generalize ha:reqA l (k+1)=a at *
   generalize hb2:reqA l k=b at *
   have hg3:(rows reqC (l.set (k+1) b)).getD k []=reqC ((l.set (k+1) b).getD k req0):=bl_ (f:=reqC) req0 (by simp;omega)
   have hlt1:k+1<n+1:=by omega
   have hlt2:k<n+1:=by omega
   by_cases q1:a.due<b.due
   · have e1:decide (a.due<b.due)=true:=decide_eq_true q1
     rw[e1,Bool.true_or,if_pos rfl]at hn
     repeat(first | refine aa_ ?_ | simp only[go_sem,e0,hg1,hg2,hw,e1,hl])
     refine ac_ ?_
     repeat(first | refine aa_ ?_ | simp only[go_sem,hg1,hg2,hg3,hw,hl,hset])
     refine⟨(k,(l.set (k+1) b).set k a),⟨by dsimp only;omega,by simp[hl],hn⟩,by dsimp only;omega,?_⟩
     refine GC.mk' [] [0,1,2,3] (by simp) rfl (by simp) (by simp) evd evd
   have e1:decide (a.due<b.due)=false:=decide_eq_false q1
   rw[e1,Bool.false_or]at hn
   by_cases q2:a.due=b.due
   · have e2:(a.due==b.due)=true:=by simp[q2]
     rw[decide_eq_true q2,Bool.true_and]at hn
     by_cases q3:a.tag<b.tag
     · have e3:decide (a.tag<b.tag)=true:=decide_eq_true q3
       rw[e3,if_pos rfl]at hn
       repeat(first | refine aa_ ?_ | simp only[go_sem,e0,hg1,hg2,hw,e1,e2,e3,hl])
       refine ac_ ?_
       repeat(first | refine aa_ ?_ | simp only[go_sem,hg1,hg2,hg3,hw,hl,hset])
       refine⟨(k,(l.set (k+1) b).set k a),⟨by dsimp only;omega,by simp[hl],hn⟩,by dsimp only;omega,?_⟩
       refine GC.mk' [] [0,1,2,3] (by simp) rfl (by simp) (by simp) evd evd
     · have e3:decide (a.tag<b.tag)=false:=decide_eq_false q3
       rw[e3,if_neg (by simp)]at hn
       subst hn
       repeat(first | refine aa_ ?_ | simp only[go_sem,e0,hg1,hg2,hw,e1,e2,e3,hl])
       refine ab_ ?_
       try refine aa_ ?_
       refine⟨_,(by first | rfl | exact evd),.inl ?_⟩
       (try simp only[go_sem,Nat.reduceAdd,Nat.reduceSub,Nat.reduceMul,Nat.reduceLT,Nat.reduceLeDiff,Nat.reduceEqDiff,reduceIte,Int.reduceToNat,Int.reduceLT,Int.reduceLE,Int.reduceEq,Int.reduceNeg,reduceCtorEq,Int.reduceBEq,Int.reduceBNe,ht,hl])
       all_goals rfl
   · have e2:(a.due==b.due)=false:=by simp[q2]
     rw[decide_eq_false q2,Bool.false_and,if_neg (by simp)]at hn
     subst hn
     repeat(first | refine aa_ ?_ | simp only[go_sem,e0,hg1,hg2,hw,e1,e2,hl])
     refine ab_ ?_
     try refine aa_ ?_
     refine⟨_,(by first | rfl | exact evd),.inl ?_⟩
     (try simp only[go_sem,Nat.reduceAdd,Nat.reduceSub,Nat.reduceMul,Nat.reduceLT,Nat.reduceLeDiff,Nat.reduceEqDiff,reduceIte,Int.reduceToNat,Int.reduceLT,Int.reduceLE,Int.reduceEq,Int.reduceNeg,reduceCtorEq,Int.reduceBEq,Int.reduceBNe,ht,hl])
     all_goals rfl
theorem xt_ (s:VSta) (r:Req) (h:StR s.sto) (hy:s.rets.length≤1000):PC Tryz.prog 162 [.agg (staC s.a),.agg (reqC r)] (.agg (staC (laterS s r).a)):=by
 have tl:=yV_ s (s.rets++[laterR s r]) s.rets.length (by simp) (by omega) (laterR s r)
 refine PC.fact 7 pE_ (by simp) puA puA ?_
 have hc:aT_=.seq aT_.hd (.seq (aT_.tl 1).hd (.seq (aT_.tl 2).hd (.seq (aT_.tl 3).hd (.seq (aT_.tl 4).hd (.seq (aT_.tl 5).hd (aT_.tl 6)))))):=rfl
 rw[hc];clear hc
 generalize aT_.tl 6=cT at *
 unfold aT_;refine bd ?_
 simp only[ACode.tl,ACode.hd]
 have c1:=nl_ s h r.block
 have c2:=xc_ (IntKind.i64.wrap (r.tries+1)) s.sto.cfg.lim.backoff (EX_ _)
 unfold laterS
 generalize optS s.sto r.block=B at *
 cases B with
 | false =>
   rw[if_pos rfl]
   try refine aa_ ?_
   refine pcall c1 ?_
   try refine aa_ ?_
   refine ac_ ?_
   try refine aa_ ?_
   exact fin0
 | true =>
   rw[if_neg (by simp)]
   by_cases q:s.sto.cfg.lim.retry≤s.rets.length
   · have e1:decide (s.sto.cfg.lim.retry≤(s.rets.length:Int))=true:=decide_eq_true q
     rw[if_pos q]
     try refine aa_ ?_
     refine pcall c1 ?_
     try refine aa_ ?_
     refine ab_ ?_
     repeat(first | refine aa_ ?_ | simp only[go_sem,e1])
     refine ac_ ?_
     try refine aa_ ?_
     exact fin0
   · have e1:decide (s.sto.cfg.lim.retry≤(s.rets.length:Int))=false:=decide_eq_false q
     have hsn:rows reqC s.rets++[reqC (laterR s r)]=rows reqC (s.rets++[laterR s r]):=bn_ reqC s.rets _
     have hlr:reqC { tag:=r.tag,block:=r.block,tries:=IntKind.i64.wrap (r.tries+1),due:=IntKind.u64.wrap (s.sto.now+delayS (IntKind.i64.wrap (r.tries+1)) s.sto.cfg.lim.backoff) }=reqC (laterR s r):=rfl
     rw[if_neg q]
     try refine aa_ ?_
     refine pcall c1 ?_
     try refine aa_ ?_
     refine ab_ ?_
     repeat(first | refine aa_ ?_ | simp only[go_sem,e1])
     refine ab_ ?_
     try refine aa_ ?_
     refine dpcall (c2) ?_
     repeat(first | refine aa_ ?_ | simp only[go_sem,hlr,hsn,do_])
     refine ck_ ?_ tl
     refine GC.mk' [] [0,1,2,5] (by simp) rfl (by simp) (by simp) evd evd
theorem zA_ (s:VSto) (h:StR s):PC Tryz.prog 145 [.agg (stoC s.a)] (.agg (rtc (safeS s))):=by
 refine PC.fact 4 sl_ (by simp) puA puA ?_
 unfold jT_;refine bd ?_
 have c1:=aS_ s.nodes s.j.rt h.bn
 have b1:=bN_ s.nodes s.j.rt
 unfold safeS
 generalize findT s.nodes s.j.rt=I at *
 try refine aa_ ?_
 refine pcall c1 ?_
 by_cases q:0≤I
 · have e1:decide (0≤I)=true:=decide_eq_true q
   have hg:=aW_ (t:=s.nodes) (i:=I.toNat) (by omega)
   by_cases q2:(nod s.nodes I.toNat).status=1
   · have e2:((nod s.nodes I.toNat).status==1)=true:=by simp[q2]
     rw[if_pos ⟨q,q2⟩]
     repeat(first | refine aa_ ?_ | simp only[go_sem,e1,hg,e2])
     refine ac_ ?_
     try refine aa_ ?_
     exact fin0
   · have e2:((nod s.nodes I.toNat).status==1)=false:=by simp[q2]
     rw[if_neg (fun h=>q2 h.2)]
     repeat(first | refine aa_ ?_ | simp only[go_sem,e1,hg,e2])
     refine ab_ ?_
     try refine aa_ ?_
     exact fin0
 · have e1:decide (0≤I)=false:=decide_eq_false q
   rw[if_neg (fun h=>q h.1)]
   repeat(first | refine aa_ ?_ | simp only[go_sem,e1])
   refine ab_ ?_
   try refine aa_ ?_
   exact fin0
theorem CK_ {s:VSto}(h:StR s):0≤headT s∧headT s<s.nodes.length:=by
 have h1:=bN_ s.nodes s.j.rt
 have h2:=uH_ h.tree (weightsT s) (liveT s) (s.nodes.length+1) (findT s.nodes s.j.rt) (by omega)
 have h3:=h.jf
 unfold headT
 omega
theorem BZ_ (s:VSto) (h:StR s):PC Tryz.prog 131 [.agg (stoC s.a)] (.agg (cmdC (cmdS s))):=by
 refine PC.fact 3 mu_ (by simp) puA puA ?_
 unfold gL_;refine bd ?_
 have c1:=yM_ s h
 have c2:=zA_ s h
 have hb:=CK_ h
 unfold cmdS
 generalize headT s=I at *
 generalize safeS s=S at *
 have hg:=aW_ (t:=s.nodes) (i:=I.toNat) (by omega)
 try refine aa_ ?_
 refine dpcall (c1) ?_
 repeat(first | refine aa_ ?_ | simp only[go_sem,hg])
 refine dpcall (c2) ?_
 try refine aa_ ?_
 exact fin0
theorem rB_ (s:VSta) (h:StR s.sto):PC Tryz.prog 113 [.agg (staC s.a)] (.tup [.agg (staC (emitS s).1.a),.sl 96 false (rows cmdC (emitS s).2)]):=by
 refine PC.fact 5 su_ (by simp) puA ⟨VSta.pul _,bA_ _,trivial⟩ ?_
 have c1:=BZ_ s.sto h
 unfold emitS
 generalize cmdS s.sto=C at *
 by_cases q:s.sent=true∧s.last=C
 · rw[if_pos q]
   obtain⟨q1,q2⟩:=q
   have e2:decide (s.last=C)=true:=decide_eq_true q2
   unfold db_;refine bd ?_
   try refine aa_ ?_
   refine pcall c1 ?_
   repeat(first | refine aa_ ?_ | simp only[go_sem,q1,e2])
   refine ac_ ?_
   try refine aa_ ?_
   refine⟨_,(by first | rfl | exact evd),.inr ⟨.tup [.agg (staC s.a),.sl 0 true []],?_,⟨VSta.pul _,trivial,trivial⟩,Wk.tup ⟨Wk.refl _,Wk.empty _ _ _,trivial⟩⟩⟩
   (try simp only[go_sem,Nat.reduceAdd,Nat.reduceSub,Nat.reduceMul,Nat.reduceLT,Nat.reduceLeDiff,Nat.reduceEqDiff,reduceIte,Int.reduceToNat,Int.reduceLT,Int.reduceLE,Int.reduceEq,Int.reduceNeg,reduceCtorEq,Int.reduceBEq,Int.reduceBNe])
   all_goals rfl
 · rw [if_neg q]
   have key:∀ b:Bool,s.sent=b→(b=true→decide (s.last=C)=false)→Tri Tryz.prog 23 0 db_ (PQ [.cell 2 true 252,.tmp 3] (.tup [.agg (staC (VSta.a ⟨s.sto,s.reqs,s.rets,s.tag,true,C,s.over,s.halt⟩)),.sl 96 false (rows cmdC [C])])) ⟨5,[.agg (staC s.a),.dead,.dead,.dead,.dead],[]⟩ []:=by
     intro b h1 h2
     cases b with
     | false =>
       unfold db_;dsimp only[om,oo,on,omg,og,ong,ci,cu,cb,cf,fA,lA,lF,bI,bC,sO,eX,lN,iX,kA,kB,kC]
       try refine aa_ ?_
       refine pcall c1 ?_
       repeat(first | refine aa_ ?_ | simp only[go_sem,h1])
       refine ab_ ?_
       try refine aa_ ?_
       refine⟨_,(by first | rfl | exact evd),.inr ⟨.tup [.agg (staC (VSta.a ⟨s.sto,s.reqs,s.rets,s.tag,true,C,s.over,s.halt⟩)),.sl 96 true (rows cmdC [C])],?_,⟨VSta.pul _,bA_ _,trivial⟩,Wk.tup ⟨Wk.refl _,Wk.open_ _ _ _,trivial⟩⟩⟩
       (try simp only[go_sem,Nat.reduceAdd,Nat.reduceSub,Nat.reduceMul,Nat.reduceLT,Nat.reduceLeDiff,Nat.reduceEqDiff,reduceIte,Int.reduceToNat,Int.reduceLT,Int.reduceLE,Int.reduceEq,Int.reduceNeg,reduceCtorEq,Int.reduceBEq,Int.reduceBNe])
       all_goals rfl
     | true =>
       have e2:=h2 rfl
       unfold db_;dsimp only[om,oo,on,omg,og,ong,ci,cu,cb,cf,fA,lA,lF,bI,bC,sO,eX,lN,iX,kA,kB,kC]
       try refine aa_ ?_
       refine pcall c1 ?_
       repeat(first | refine aa_ ?_ | simp only[go_sem,h1,e2])
       refine ab_ ?_
       try refine aa_ ?_
       refine⟨_,(by first | rfl | exact evd),.inr ⟨.tup [.agg (staC (VSta.a ⟨s.sto,s.reqs,s.rets,s.tag,true,C,s.over,s.halt⟩)),.sl 96 true (rows cmdC [C])],?_,⟨VSta.pul _,bA_ _,trivial⟩,Wk.tup ⟨Wk.refl _,Wk.open_ _ _ _,trivial⟩⟩⟩
       (try simp only[go_sem,Nat.reduceAdd,Nat.reduceSub,Nat.reduceMul,Nat.reduceLT,Nat.reduceLeDiff,Nat.reduceEqDiff,reduceIte,Int.reduceToNat,Int.reduceLT,Int.reduceLE,Int.reduceEq,Int.reduceNeg,reduceCtorEq,Int.reduceBEq,Int.reduceBNe])
       all_goals rfl
   exact key s.sent rfl fun hb=>decide_eq_false fun hl=>q ⟨hb,hl⟩
end Go.Proofs.YtipiipgpnkpejaaGreat
