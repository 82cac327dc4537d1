/-
 My texts Rf, Rg, joined.
-/
import Derived.Test.YtkgimpdgncakjaaGreatS1
namespace Go.Proofs.YtkgimpdgncakjaaGreat
open Go Go.FH Go.RowKit
set_option linter.unusedVariables false
set_option linter.unusedSimpArgs false
set_option maxRecDepth 8000
set_option maxHeartbeats 4000000
def Nz_(s0:ai_)(b:Blk)(p:ai_×List Rt)(z:List Blk)(o:Bool):St:=if o then [.var (aj_ s0.a),.var (al_ b),.var (aj_ { p.1.a with orph:=.hs 238 3 0 p.1.orph.length }),.vec 238 (rows al_ (p.1.orph++z)),.vec 32 (rows rtc p.2)]
 else [.var (aj_ s0.a),.var (al_ b),.var (aj_ { p.1.a with orph:=.hs 238 3 0 p.1.orph.length }),.vec 238 (rows al_ (p.1.orph++z))]
def NC_(p:ai_×List Rt)(o:Bool):AV:=if o then .hs 32 4 0 p.2.length else .sl 32 true (rows rtc p.2)
theorem Nr_(s0:ai_)(S:ai_)(z0:List Blk)(m:Nat)(hS:aJ_ S m)(b:Blk)(hlo:S.orph.length≤3)(R:ai_×List Rt)(hR0:R=waitG (S.orph.length+1) (S,[b.root])):
 Tri Tryz.prog 103 0 (bh_.tl 6) (PQ [.cell 4 true 150,.tmp 5,.tmp 6] (.tup [.agg (aj_ R.1.a),.sl 32 false (rows rtc R.2),.int .i64 0])) ⟨22,[.dead,.dead,.ptr 0 0,.ptr 1 0,.ptr 2 0,.dead,.dead,.dead,.dead,.dead,.dead,.dead,.dead,.dead,.dead,.dead,.dead,.dead,.dead,.dead,.dead,.dead],[]⟩ [.var (aj_ s0.a),.var (al_ b),.var (aj_ { S.a with orph:=.hs 238 3 0 S.orph.length }),.vec 238 (rows al_ (S.orph++z0))]:=by
 unfold bh_;refine bd ?_;simp only[ad_.tl];try refine aa_ ?_
 refine ao_ (fun x:((ai_×List Rt)×Bool)×List Blk=>[(5,NC_ x.1.1 x.1.2),(6,.dead),(7,.dead),(8,.dead),(9,.dead),(10,.dead)]) (fun x=>Nz_ s0 b x.1.1 x.2 x.1.2) (fun x=>x.1.1.1.orph.length)
  (fun x=>aJ_ x.1.1.1 m∧R=waitG (x.1.1.1.orph.length+1) x.1.1∧x.1.1.2.length+x.1.1.1.orph.length≤10) (((S,[b.root]),false),z0) ⟨hS,hR0,by simp only[List.length_cons,List.length_nil];omega⟩ ?_ ?_
 ·show GC _ _ _ ⟨_,fK_ [(5,.sl 32 true [rtc b.root]),(6,.dead),(7,.dead),(8,.dead),(9,.dead),(10,.dead)] _,[]⟩ [.var (aj_ s0.a),.var (al_ b),.var (aj_ { S.a with orph:=.hs 238 3 0 S.orph.length }),.vec 238 (rows al_ (S.orph++z0))]
  exact ST_ [] [0,1,2,3]
 clear hR0;rintro⟨⟨⟨S1,L⟩,o⟩,z⟩ ⟨hi,hR,hl⟩;dsimp only at hi hR hl ⊢;have hwb:=nk_ S1;have c0:=Hl_ S1 hi.r.bn hi.r.bo z;by_cases hw:bC_ S1<0
 ·have hR':R=(S1,L):=by rw[hR];unfold waitG;rw[if_pos hw]
  subst hR';clear hR;generalize bC_ S1=W at *;have e1:=decide_eq_true hw;have ht:List.take L.length (rows rtc L)=rows rtc L:=List.take_of_length_le (by simp);cases o with
  | true =>
    show Tri _ _ _ _ _ ⟨_,fK_ [(5,.hs 32 4 0 L.length),(6,.dead),(7,.dead),(8,.dead),(9,.dead),(10,.dead)] _,[]⟩ [.var (aj_ s0.a),.var (al_ b),.var (aj_ { S1.a with orph:=.hs 238 3 0 S1.orph.length }),.vec 238 (rows al_ (S1.orph++z)),.vec 32 (rows rtc L)]
    (try simp only[bz_,bt_,List.set_cons_zero,List.set_cons_succ])
    try refine aa_ ?_
    refine bj_ [2,3] (c0) evd (aV_.mk' (by simp) evd) ?_;refine evg ?_;repeat(first|refine aa_ ?_|simp only[go_sem,e1])
    refine Rn_ ?_
    refine⟨_,(by first|rfl|exact evd),.inl ?_⟩;(try simp only[go_sem,Nat.reduceAdd,Nat.reduceSub,Nat.reduceMul,Nat.reduceLT,Nat.reduceLeDiff,Nat.reduceEqDiff,reduceIte,Int.reduceToNat,Int.reduceLT,Int.reduceLE,Int.reduceEq,Int.reduceNeg,reduceCtorEq,Int.reduceBEq,Int.reduceBNe,ht])
    rfl
  | false =>
    show Tri _ _ _ _ _ ⟨_,fK_ [(5,.sl 32 true (rows rtc L)),(6,.dead),(7,.dead),(8,.dead),(9,.dead),(10,.dead)] _,[]⟩ [.var (aj_ s0.a),.var (al_ b),.var (aj_ { S1.a with orph:=.hs 238 3 0 S1.orph.length }),.vec 238 (rows al_ (S1.orph++z))]
    (try simp only[bz_,bt_,List.set_cons_zero,List.set_cons_succ])
    try refine aa_ ?_
    refine bj_ [2,3] (c0) evd (aV_.mk' (by simp) evd) ?_;refine evg ?_;repeat(first|refine aa_ ?_|simp only[go_sem,e1])
    refine Rn_ ?_
    refine⟨_,(by first|rfl|exact evd),.inr ⟨.tup [.agg (aj_ S1.a),.sl 32 true (rows rtc L),.int .i64 0],?_,⟨S1.pul,dQ_ L,trivial,trivial⟩,Wk.tup ⟨Wk.refl _,Wk.open_ _ _ _,Wk.refl _,trivial⟩⟩⟩;(try simp only[go_sem,Nat.reduceAdd,Nat.reduceSub,Nat.reduceMul,Nat.reduceLT,Nat.reduceLeDiff,Nat.reduceEqDiff,reduceIte,Int.reduceToNat,Int.reduceLT,Int.reduceLE,Int.reduceEq,Int.reduceNeg,reduceCtorEq,Int.reduceBEq,Int.reduceBNe])
    rfl
 ·have hst:=wR_ (p:=(S1,L)) (show 0≤bC_ S1 by omega)
  dsimp only at hst;rw[hst]at hR;clear hst;have hro:=kU_ (p:=(S1,L)) (by show 0≤bC_ S1;omega);have hI:aJ_ (waitR (S1,L)).1 m:=aJ_.waitR hi (by show 0≤bC_ S1;omega);have hwr:waitR (S1,L)=if aI_ (withO S1 (takeO S1.orph (bC_ S1).toNat)) (ce_ S1.orph (bC_ S1).toNat)=0 then (cO_ (withO S1 (takeO S1.orph (bC_ S1).toNat)) (ce_ S1.orph (bC_ S1).toNat),L++[(ce_ S1.orph (bC_ S1).toNat).root])else (withO S1 (takeO S1.orph (bC_ S1).toNat),L):=rfl
  have e1:=decide_eq_false hw;obtain⟨u,hu⟩:=Int.eq_ofNat_of_zero_le (show 0≤bC_ S1 by omega);rw[hu]at hwr hwb c0 e1;rw[Int.toNat_natCast]at hwr;have hul:u<S1.orph.length:=by omega
  have h2:=hi.takeO u;have hbo:=hi.uo _ (dA_ cg_ hul);have hxl:u<(S1.orph++z).length:=by simp;omega
  have hgd:(rows al_ (S1.orph++z)).getD u []=al_ (ce_ S1.orph u):=by
   unfold ce_;rw[aB_ (f:=al_) cg_ hxl,List.getD_eq_getElem?_getD,List.getElem?_append_left hul,←List.getD_eq_getElem?_getD]
  change eL_ m (ce_ S1.orph u)at hbo
  generalize ce_ S1.orph u=ob at *;have hub:decide ((u:Int)<((S1.orph.length:Nat):Int))=true:=decide_eq_true (by omega);have hw1:IntKind.i64.wrap ((u:Int)+1)=((u+1:Nat):Int):=ax_ (by have:=hi.oo;omega) (by have:=hi.oo;omega);have hoo:=hi.oo;obtain⟨z2,_,cd⟩:=BN_ S1.orph z u hul;have c1:=BM_ (withO S1 (takeO S1.orph u)) m h2 ob hbo z2;have c2:=fun hc=>qT_ (withO S1 (takeO S1.orph u)) m h2 ob hbo hc
  have hsn:rows rtc L++[rtc ob.root]=rows rtc (L++[ob.root]):=bF_ rtc L ob.root;unfold withO at c1;dsimp only at c1;have hWa:∀l:List Blk,(aj_ { S1.a with orph:=.sl 238 false (rows al_ l) })=aj_ (withO S1 l).a:=fun l=>rfl
  cases o with
  | true =>
    show Tri _ _ _ _ _ ⟨_,fK_ [(5,.hs 32 4 0 L.length),(6,.dead),(7,.dead),(8,.dead),(9,.dead),(10,.dead)] _,[]⟩ [.var (aj_ s0.a),.var (al_ b),.var (aj_ { S1.a with orph:=.hs 238 3 0 S1.orph.length }),.vec 238 (rows al_ (S1.orph++z)),.vec 32 (rows rtc L)]
    (try simp only[bz_,bt_,List.set_cons_zero,List.set_cons_succ])
    try refine aa_ ?_
    refine bj_ [2,3] (c0) evd (aV_.mk' (by simp) evd) ?_;refine evg ?_;repeat(first|refine aa_ ?_|simp only[go_sem,e1])
    refine ab_ ?_;repeat(first|refine aa_ ?_|simp only[go_sem,hgd,hxl,hub,hw1])
    refine bj_ [3] (cd) evd (aV_.mk' (by simp) evd) ?_;refine evg ?_;repeat(first|refine aa_ ?_|simp only[go_sem,hw1])
    refine bj_ [6] (c1) evd (aV_.mk' (by simp) evd) ?_;refine evg ?_;by_cases hc:aI_ (withO S1 (takeO S1.orph u)) ob=0
    ·have e3:(aI_ (withO S1 (takeO S1.orph u)) ob==0)=true:=by simp[hc]
     rw[if_pos hc]at hwr;rw[hwr]at hR hro hI;dsimp only at hR hro hI;obtain⟨z3,c4⟩:=c2 hc;unfold withO at e3;generalize cO_ (withO S1 (takeO S1.orph u)) ob=S3 at *;unfold lv_ at c4;repeat(first|refine aa_ ?_|simp only[go_sem,e3])
     refine ac_ ?_;refine wN_ [6] ?_;simp only[evZ,vw_];(try simp only[go_sem,Nat.reduceAdd,Nat.reduceSub,Nat.reduceMul,Nat.reduceLT,Nat.reduceLeDiff,Nat.reduceEqDiff,reduceIte,Int.reduceToNat,Int.reduceLT,Int.reduceLE,Int.reduceEq,Int.reduceNeg,reduceCtorEq,Int.reduceBEq,Int.reduceBNe])
     try refine aa_ ?_
     refine bj_ [] (c4) evd (aV_.mk' (by simp) evd) ?_;refine evg ?_;repeat(first|refine aa_ ?_|simp only[go_sem,hsn])
     refine⟨(((S3,L++[ob.root]),true),z3),⟨hI,hR,by simp only[List.length_append,List.length_cons,List.length_nil];omega⟩,by dsimp only;omega,?_⟩;(try simp only[NC_,Nz_,if_true,if_false,Bool.false_eq_true])
     exact ST_ [] [0,1,2,7,8]
    ·have e3:(aI_ (withO S1 (takeO S1.orph u)) ob==0)=false:=by simp[hc]
     rw[if_neg hc]at hwr;rw[hwr]at hR hro hI;dsimp only at hR hro hI;unfold withO at e3;repeat(first|refine aa_ ?_|simp only[go_sem,e3])
     refine Rm_ ?_
     refine⟨(((withO S1 (takeO S1.orph u),L),true),z2),⟨hI,hR,by dsimp only;omega⟩,by dsimp only;omega,?_⟩;(try simp only[NC_,Nz_,if_true,if_false,Bool.false_eq_true,withO])
     exact ST_ [] [0,1,2,6,4]
  | false =>
    show Tri _ _ _ _ _ ⟨_,fK_ [(5,.sl 32 true (rows rtc L)),(6,.dead),(7,.dead),(8,.dead),(9,.dead),(10,.dead)] _,[]⟩ [.var (aj_ s0.a),.var (al_ b),.var (aj_ { S1.a with orph:=.hs 238 3 0 S1.orph.length }),.vec 238 (rows al_ (S1.orph++z))]
    (try simp only[bz_,bt_,List.set_cons_zero,List.set_cons_succ])
    try refine aa_ ?_
    refine bj_ [2,3] (c0) evd (aV_.mk' (by simp) evd) ?_;refine evg ?_;repeat(first|refine aa_ ?_|simp only[go_sem,e1])
    refine ab_ ?_;repeat(first|refine aa_ ?_|simp only[go_sem,hgd,hxl,hub,hw1])
    refine bj_ [3] (cd) evd (aV_.mk' (by simp) evd) ?_;refine evg ?_;repeat(first|refine aa_ ?_|simp only[go_sem,hw1])
    refine bj_ [5] (c1) evd (aV_.mk' (by simp) evd) ?_;refine evg ?_;by_cases hc:aI_ (withO S1 (takeO S1.orph u)) ob=0
    ·have e3:(aI_ (withO S1 (takeO S1.orph u)) ob==0)=true:=by simp[hc]
     rw[if_pos hc]at hwr;rw[hwr]at hR hro hI;dsimp only at hR hro hI;obtain⟨z3,c4⟩:=c2 hc;unfold withO at e3;generalize cO_ (withO S1 (takeO S1.orph u)) ob=S3 at *;unfold lv_ at c4;repeat(first|refine aa_ ?_|simp only[go_sem,e3])
     refine ac_ ?_;refine wN_ [5] ?_;simp only[evZ,vw_];(try simp only[go_sem,Nat.reduceAdd,Nat.reduceSub,Nat.reduceMul,Nat.reduceLT,Nat.reduceLeDiff,Nat.reduceEqDiff,reduceIte,Int.reduceToNat,Int.reduceLT,Int.reduceLE,Int.reduceEq,Int.reduceNeg,reduceCtorEq,Int.reduceBEq,Int.reduceBNe])
     try refine aa_ ?_
     refine bj_ [] (c4) evd (aV_.mk' (by simp) evd) ?_;refine evg ?_;repeat(first|refine aa_ ?_|simp only[go_sem,hsn])
     refine⟨(((S3,L++[ob.root]),true),z3),⟨hI,hR,by simp only[List.length_append,List.length_cons,List.length_nil];omega⟩,by dsimp only;omega,?_⟩;(try simp only[NC_,Nz_,if_true,if_false,Bool.false_eq_true])
     exact ST_ [] [0,1,2,6,7]
    ·have e3:(aI_ (withO S1 (takeO S1.orph u)) ob==0)=false:=by simp[hc]
     rw[if_neg hc]at hwr;rw[hwr]at hR hro hI;dsimp only at hR hro hI;unfold withO at e3;repeat(first|refine aa_ ?_|simp only[go_sem,e3])
     refine Rm_ ?_
     refine⟨(((withO S1 (takeO S1.orph u),L),false),z2),⟨hI,hR,by dsimp only;omega⟩,by dsimp only;omega,?_⟩;(try simp only[NC_,Nz_,if_true,if_false,Bool.false_eq_true,withO])
     exact ST_ [] [0,1,2,5]
theorem jv_(s:ai_)(m:Nat)(h:aJ_ s m)(b:Blk)(hb:eL_ m b):PC Tryz.prog 20 [.agg (aj_ s.a),.agg (al_ b)] (.tup [.agg (aj_ (aT_ s b).1.a),.sl 32 false (rows rtc (aT_ s b).2.1),.int .i64 (aT_ s b).2.2]):=by
 have tl:=Nr_ s;refine PC.fact 22 yc_ (by simp) puA ⟨(aT_ s b).1.pul,dQ_ _,trivial,trivial⟩ ?_;have hc:bh_=.seq bh_.hd (.seq (bh_.tl 1).hd (.seq (bh_.tl 2).hd (.seq (bh_.tl 3).hd (.seq (bh_.tl 4).hd (.seq (bh_.tl 5).hd (bh_.tl 6)))))):=rfl;rw[hc];clear hc;generalize bh_.tl 6=cT at *;unfold bh_;refine bd ?_;simp only[ad_.tl,ad_.hd];have c0:=Bd_ s h.cp;have c0o:=np_ s h.cp;unfold Np_ at c0o;have c1:=qS_ s m h b hb;have hoo:=h.oo;unfold aT_;by_cases q1:aI_ s b=10
 ·rw[if_pos q1]
  rw[q1]at c1;have hlo:=h.cfg.lo;have ge:decide ((s.orph.length:Int) ≥ s.cfg.lim.orph)=decide (s.cfg.lim.orph≤(s.orph.length:Int)):=rfl;by_cases q2:s.cfg.lim.orph≤s.orph.length
  ·have e2:decide (s.cfg.lim.orph≤(s.orph.length:Int))=true:=decide_eq_true q2;rw[if_pos q2];try refine aa_ ?_
   refine Sv_ c0 ?_
   refine Sv_ c1 ?_
   refine Rm_ ?_
   refine ac_ ?_;repeat(first|refine aa_ ?_|simp only[go_sem,ge,e2])
   refine Rn_ ?_
   exact tX_ (by first|rfl|exact evd) (by first|rfl|exact evd)
  ·have e2:decide (s.cfg.lim.orph≤(s.orph.length:Int))=false:=decide_eq_false q2;have hsn:rows al_ s.orph++[al_ (noT b)]=rows al_ (s.orph++[noT b]):=bF_ al_ s.orph (noT b);have ht2:List.take (s.orph.length+1) (rows al_ (s.orph++[noT b]))=rows al_ (s.orph++[noT b]):=List.take_of_length_le (by simp);have hno:al_ { pul:=b.pul,slot:=b.slot,root:=b.root,parent:=b.parent,payload:=b.payload,diff:=b.diff,pdiff:=b.pdiff,just:=b.just,fin:=b.fin,timely:=false }=al_ (noT b):=rfl;rw[if_neg q2];try refine aa_ ?_
   refine bj_ [] (c0o) evd (aV_.mk' (by simp) evd) ?_;refine evg ?_;try refine aa_ ?_
   refine Sv_ c1 ?_
   refine Rm_ ?_
   refine ac_ ?_;repeat(first|refine aa_ ?_|simp only[go_sem,ge,e2])
   refine ab_ ?_;repeat(first|refine aa_ ?_|simp only[go_sem,hno,hsn])
   refine⟨_,(by first|rfl|exact evd),.inr ⟨.tup [.agg (aj_ (withO s (s.orph++[noT b])).a),.sl 0 true [],.int .i64 0],?_,⟨(withO s (s.orph++[noT b])).pul,trivial,trivial,trivial⟩,Wk.tup ⟨Wk.refl _,Wk.empty _ _ _,Wk.refl _,trivial⟩⟩⟩;(try simp only[go_sem,Nat.reduceAdd,Nat.reduceSub,Nat.reduceMul,Nat.reduceLT,Nat.reduceLeDiff,Nat.reduceEqDiff,reduceIte,Int.reduceToNat,Int.reduceLT,Int.reduceLE,Int.reduceEq,Int.reduceNeg,reduceCtorEq,Int.reduceBEq,Int.reduceBNe,ht2])
   rfl
 rw[if_neg q1];have n1:(aI_ s b==10)=false:=by simp[q1]
 by_cases q2:aI_ s b=0
 case neg=>
  rw[if_pos q2];have e1:(aI_ s b==0)=false:=by simp[q2]
  generalize aI_ s b=E at *;try refine aa_ ?_
  refine Sv_ c0 ?_
  refine ae_ c1 ?_;repeat(first|refine aa_ ?_|simp only[go_sem,e1])
  refine ab_ ?_;repeat(first|refine aa_ ?_|simp only[go_sem,n1])
  refine Rm_ ?_
  exact tX_ (by first|rfl|exact evd) (by first|rfl|exact evd)
 rw[if_neg (by simp[q2])];have hins:=h.ins q2 hb;obtain⟨z,c2⟩:=qT_ s m h b hb q2;rw[q2]at c1;have hBI:blockI s b=if b.timely=true∧b.slot=s.now∧s.boost=rt0 then withB (cO_ s b) b.root else cO_ s b:=rfl
 obtain⟨B,hB,hBI2⟩:∃B:Bool,(B=true↔(b.timely=true∧b.slot=s.now∧s.boost=rt0))∧blockI s b=if B=true then withB (cO_ s b) b.root else cO_ s b:=by
  by_cases q:b.timely=true∧b.slot=s.now∧s.boost=rt0
  ·exact⟨true,by simp[q],by rw[hBI,if_pos q,if_pos rfl]⟩
  ·exact⟨false,by simp[q],by rw[hBI,if_neg q,if_neg (by simp)]⟩
 rw[hBI2];clear hBI hBI2 n1 q1 q2;generalize cO_ s b=S at *;have hSo:=hins.oo
 have key:∀ (ts:List (Nat×AV)),Tri Tryz.prog 103 0 (.seq ((bh_.tl 4).hd) (.seq (bh_.tl 5).hd cT)) (PQ [.cell 4 true 150,.tmp 5,.tmp 6] (.tup [.agg (aj_ (waitG ((if B=true then withB S b.root else S).orph.length+1) ((if B=true then withB S b.root else S),[b.root])).1.a),.sl 32 false (rows rtc (waitG ((if B=true then withB S b.root else S).orph.length+1) ((if B=true then withB S b.root else S),[b.root])).2),.int .i64 0]))
  ⟨22,[.agg (aj_ s.a),.agg (al_ b),.ptr 0 0,.ptr 1 0,.ptr 2 0,.sl 0 true [],.int .i64 0,.int .i64 0,.bool B,.dead,.dead,.dead,.dead,.dead,.dead,.dead,.dead,.dead,.dead,.bool true,.dead,.dead],ts⟩ [.var (aj_ s.a),.var (al_ b),.var (aj_ s.a)]:=by
  intro ts;unfold bh_;refine bd ?_;simp only[ad_.tl,ad_.hd];unfold lv_ at c2;try refine aa_ ?_
  refine bj_ [] (c2) evd (aV_.mk' (by simp) evd) ?_;refine evg ?_;try refine aa_ ?_
  cases B with
  | true =>
    have t2:=tl (withB S b.root) z m (hins.withB _) b (by show S.orph.length≤3;omega) _ rfl;refine Rn_ ?_
    (try simp only[if_true])
    refine cH_ ?_ t2;unfold withB;exact ST_ [] [0,1,2,3]
  | false =>
    have t2:=tl S z m hins b (by omega) _ rfl;refine Rm_ ?_
    (try simp only[Bool.false_eq_true,if_false])
    refine cH_ ?_ t2;exact ST_ [] [0,1,2,3]
 unfold bh_ at key;dsimp only[nfO,Int.reduceOfNat,Int.reduceNegSucc,wA,wB,wC,wD,wE,wF,wG,wH,wI,wJ,wK,wL,wM,wN,wO,wP,wQ,wR,wS,wT,wU,wV,wW,wX,wY,wZ,om,oo,on,omg,og,ong,ci,cu,cb,cf,fA,lA,lF,bI,bC,sO,eX,lN,iX,kA,kB,kC,sR,cN]at key;simp only[ad_.tl,ad_.hd]at key;clear tl c2 hins;have c3:=fm_ s.boost;try refine aa_ ?_
 refine Sv_ c0 ?_
 refine Sv_ c1 ?_
 refine ac_ ?_;refine fu_ ?_;refine eU_ ?_;cases h1:b.timely with
 | false =>
   obtain rfl:B=false:=by rw[←Bool.not_eq_true,hB,h1];simp
   repeat(first|refine fu_ ?_|simp only[go_sem,h1])
   have k2:=key [];(try simp only[Bool.false_eq_true,if_false,if_true]at k2)
   refine cH_ ?_ k2;exact ST_ [] [0,1,2]
 | true =>
   by_cases h2:b.slot=s.now
   ·have e2:(b.slot==s.now)=true:=by simp[h2]
    by_cases h3:s.boost=rt0
    ·have e3:decide (s.boost=rt0)=true:=decide_eq_true h3;obtain rfl:B=true:=hB.2 ⟨h1,h2,h3⟩;rw[e3]at c3;repeat(first|refine fu_ ?_|simp only[go_sem,h1,e2])
     refine ae_ c3 ?_;refine fu_ ?_;have k2:=key [];(try simp only[Bool.false_eq_true,if_false,if_true]at k2)
     refine cH_ ?_ k2;exact ST_ [] [0,1,2]
    ·have e3:decide (s.boost=rt0)=false:=decide_eq_false h3;obtain rfl:B=false:=by rw[←Bool.not_eq_true,hB];exact fun h=>h3 h.2.2
     rw[e3]at c3;repeat(first|refine fu_ ?_|simp only[go_sem,h1,e2])
     refine ae_ c3 ?_;refine fu_ ?_;have k2:=key [];(try simp only[Bool.false_eq_true,if_false,if_true]at k2)
     refine cH_ ?_ k2;exact ST_ [] [0,1,2]
   ·have e2:(b.slot==s.now)=false:=by simp[h2]
    obtain rfl:B=false:=by rw[←Bool.not_eq_true,hB];exact fun h=>h2 h.2.1
    repeat(first|refine fu_ ?_|simp only[go_sem,h1,e2])
    have k2:=key [];(try simp only[Bool.false_eq_true,if_false,if_true]at k2)
    refine cH_ ?_ k2;exact ST_ [] [0,1,2]
end Go.Proofs.YtkgimpdgncakjaaGreat
