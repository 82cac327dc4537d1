/-
 My texts Rf, Rg, joined.
-/
import Derived.Test.YtnjdpnfglgcjcaaGreatS1
set_option linter.unusedVariables false
set_option linter.unusedSimpArgs false
set_option maxRecDepth 8000
set_option maxHeartbeats 4000000
namespace Go.Proofs.YtnjdpnfglgcjcaaGreat
open Go Go.FH Go.RowKit
def Yp(s0:am)(b:Blk)(p:am×List Rt)(z:List Blk)(o:Bool):St:=if o then [.var (aw s0.a),.var (aA b),.var (aw { p.1.a with orph:=.hs 238 3 0 p.1.orph.length }),.vec 238 (rows aA (p.1.orph++z)),.vec 32 (rows rtc p.2)]
 else [.var (aw s0.a),.var (aA b),.var (aw { p.1.a with orph:=.hs 238 3 0 p.1.orph.length }),.vec 238 (rows aA (p.1.orph++z))]
def Ys(p:am×List Rt)(o:Bool):AV:=if o then .hs 32 4 0 p.2.length else .sl 32 true (rows rtc p.2)
theorem Yh(s0:am)(S:am)(z0:List Blk)(m:Nat)(hS:bi S m)(b:Blk)(hlo:S.orph.length<=3)(R:am×List Rt)(hR0:R=waitG (S.orph.length+1) (S,[b.root])):
 Tri Tryz.prog 103 0 (ce.tl 6) (PQ [.cell 4 true 150,.tmp 5,.tmp 6] (.tup [.agg (aw R.1.a),.sl 32 false (rows rtc R.2),.int .i64 0])) ⟨22,[.dead,.dead,.ptr 0 0,.ptr 1 0,.ptr 2 0,.dead,.dead,.dead,.dead,.dead,.dead,.dead,.dead,.dead,.dead,.dead,.dead,.dead,.dead,.dead,.dead,.dead],[]⟩ [.var (aw s0.a),.var (aA b),.var (aw { S.a with orph:=.hs 238 3 0 S.orph.length }),.vec 238 (rows aA (S.orph++z0))]:=by
 unfold ce;refine bd ?_;simp only[ab.tl];refine gon ?_
 refine ay (fun x:((am×List Rt)×Bool)×List Blk=>[(5,Ys x.1.1 x.1.2),(6,.dead),(7,.dead),(8,.dead),(9,.dead),(10,.dead)]) (fun x=>Yp s0 b x.1.1 x.2 x.1.2) (fun x=>x.1.1.1.orph.length)
  (fun x=>bi x.1.1.1 m/\R=waitG (x.1.1.1.orph.length+1) x.1.1/\x.1.1.2.length+x.1.1.1.orph.length<=10) (((S,[b.root]),false),z0) ⟨hS,hR0,by simp only[List.length_cons,List.length_nil];omega⟩ ?_ ?_
 ·show GC _ _ _ ⟨_,jU [(5,.sl 32 true [rtc b.root]),(6,.dead),(7,.dead),(8,.dead),(9,.dead),(10,.dead)] _,[]⟩ [.var (aw s0.a),.var (aA b),.var (aw { S.a with orph:=.hs 238 3 0 S.orph.length }),.vec 238 (rows aA (S.orph++z0))]
  exact adk [] [0,1,2,3]
 clear hR0;rintro⟨⟨⟨S1,L⟩,o⟩,z⟩ ⟨hi,hR,hl⟩;dsimp only at hi hR hl ⊢;have hwb:=qr S1;have c0:=RV S1 hi.r.bn hi.r.bo z;by_cases hw:bR S1<0
 ·have hR':R=(S1,L):=by rw[hR];unfold waitG;rw[if_pos hw]
  subst hR';clear hR;generalize bR S1=W at *;have e1:=ak hw;have ht:List.take L.length (rows rtc L)=rows rtc L:=List.take_of_length_le (by simp);cases o with
  | true =>
    show Tri _ _ _ _ _ ⟨_,jU [(5,.hs 32 4 0 L.length),(6,.dead),(7,.dead),(8,.dead),(9,.dead),(10,.dead)] _,[]⟩ [.var (aw s0.a),.var (aA b),.var (aw { S1.a with orph:=.hs 238 3 0 S1.orph.length }),.vec 238 (rows aA (S1.orph++z)),.vec 32 (rows rtc L)]
    (try simp only[db,cV,List.set_cons_zero,List.set_cons_succ])
    refine gon ?_;refine bP [2,3] (c0) evd (bx.mk' (by simp) evd) ?_;refine evg ?_;refine aE e1 ?_;refine⟨_,(by first|rfl|exact evd),.inl ?_⟩;exact nN ht
  | false =>
    show Tri _ _ _ _ _ ⟨_,jU [(5,.sl 32 true (rows rtc L)),(6,.dead),(7,.dead),(8,.dead),(9,.dead),(10,.dead)] _,[]⟩ [.var (aw s0.a),.var (aA b),.var (aw { S1.a with orph:=.hs 238 3 0 S1.orph.length }),.vec 238 (rows aA (S1.orph++z))]
    (try simp only[db,cV,List.set_cons_zero,List.set_cons_succ])
    refine gon ?_;refine bP [2,3] (c0) evd (bx.mk' (by simp) evd) ?_;refine evg ?_;refine aE e1 ?_;refine⟨_,(by first|rfl|exact evd),.inr ⟨.tup [.agg (aw S1.a),.sl 32 true (rows rtc L),.int .i64 0],?_,⟨S1.pul,gj L,trivial,trivial⟩,Wk.tup ⟨Wk.refl _,Wk.open_ _ _ _,Wk.refl _,trivial⟩⟩⟩;(try simp only[go_sem,Nat.reduceAdd,Nat.reduceSub,Nat.reduceMul,Nat.reduceLT,Nat.reduceLeDiff,Nat.reduceEqDiff,reduceIte,Int.reduceToNat,Int.reduceLT,Int.reduceLE,Int.reduceEq,Int.reduceNeg,reduceCtorEq,Int.reduceBEq,Int.reduceBNe])
    rfl
 ·have hst:=Gx (p:=(S1,L)) (show 0<=bR S1 by omega)
  dsimp only at hst;rw[hst]at hR;clear hst;have hro:=qV (p:=(S1,L)) (by show 0<=bR S1;omega);have hI:bi (waitR (S1,L)).1 m:=bi.waitR hi (by show 0<=bR S1;omega);have hwr:waitR (S1,L)=if bG (withO S1 (takeO S1.orph (bR S1).toNat)) (cF S1.orph (bR S1).toNat)=0 then (gi (withO S1 (takeO S1.orph (bR S1).toNat)) (cF S1.orph (bR S1).toNat),L++[(cF S1.orph (bR S1).toNat).root])else (withO S1 (takeO S1.orph (bR S1).toNat),L):=rfl
  have e1:=au hw;obtain⟨u,hu⟩:=Int.eq_ofNat_of_zero_le (show 0<=bR S1 by omega);rw[hu]at hwr hwb c0 e1;rw[Int.toNat_natCast]at hwr;have hul:u<S1.orph.length:=by omega
  have h2:=hi.takeO u;have hbo:=hi.uo _ (cG dO hul);have hxl:u<(S1.orph++z).length:=by simp;omega
  have hgd:(rows aA (S1.orph++z)).getD u []=aA (cF S1.orph u):=by
   unfold cF;rw[aM (f:=aA) dO hxl,List.getD_eq_getElem?_getD,List.getElem?_append_left hul,<-List.getD_eq_getElem?_getD]
  change jx m (cF S1.orph u)at hbo
  generalize cF S1.orph u=ob at *;have hub:decide ((u:Int)<((S1.orph.length:Nat):Int))=true:=ak (by omega);have hw1:IntKind.i64.wrap ((u:Int)+1)=((u+1:Nat):Int):=aK (by have:=hi.oo;omega) (by have:=hi.oo;omega);have hoo:=hi.oo;obtain⟨z2,_,cd⟩:=L5 S1.orph z u hul;have c1:=L4 (withO S1 (takeO S1.orph u)) m h2 ob hbo z2;have c2:=fun hc=>zf (withO S1 (takeO S1.orph u)) m h2 ob hbo hc
  have hsn:rows rtc L++[rtc ob.root]=rows rtc (L++[ob.root]):=da rtc L ob.root;unfold withO at c1;dsimp only at c1;have hWa:∀l:List Blk,(aw { S1.a with orph:=.sl 238 false (rows aA l) })=aw (withO S1 l).a:=fun l=>rfl
  cases o with
  | true =>
    show Tri _ _ _ _ _ ⟨_,jU [(5,.hs 32 4 0 L.length),(6,.dead),(7,.dead),(8,.dead),(9,.dead),(10,.dead)] _,[]⟩ [.var (aw s0.a),.var (aA b),.var (aw { S1.a with orph:=.hs 238 3 0 S1.orph.length }),.vec 238 (rows aA (S1.orph++z)),.vec 32 (rows rtc L)]
    (try simp only[db,cV,List.set_cons_zero,List.set_cons_succ])
    refine gon ?_;refine bP [2,3] (c0) evd (bx.mk' (by simp) evd) ?_;refine evg ?_;refine aQ e1 ?_;refine eW hgd hxl hub hw1 ?_;refine bP [3] (cd) evd (bx.mk' (by simp) evd) ?_;refine evg ?_;refine ap hw1 ?_;refine bP [6] (c1) evd (bx.mk' (by simp) evd) ?_;refine evg ?_;by_cases hc:bG (withO S1 (takeO S1.orph u)) ob=0
    ·have e3:(bG (withO S1 (takeO S1.orph u)) ob==0)=true:=by simp[hc]
     rw[if_pos hc]at hwr;rw[hwr]at hR hro hI;dsimp only at hR hro hI;obtain⟨z3,c4⟩:=c2 hc;unfold withO at e3;generalize gi (withO S1 (takeO S1.orph u)) ob=S3 at *;unfold rE at c4;refine bg e3 ?_;refine Gp [6] ?_;simp only[evZ,E0];(try simp only[go_sem,Nat.reduceAdd,Nat.reduceSub,Nat.reduceMul,Nat.reduceLT,Nat.reduceLeDiff,Nat.reduceEqDiff,reduceIte,Int.reduceToNat,Int.reduceLT,Int.reduceLE,Int.reduceEq,Int.reduceNeg,reduceCtorEq,Int.reduceBEq,Int.reduceBNe])
     refine gon ?_;refine bP [] (c4) evd (bx.mk' (by simp) evd) ?_;refine evg ?_;refine ap hsn ?_;refine⟨(((S3,L++[ob.root]),true),z3),⟨hI,hR,by simp only[List.length_append,List.length_cons,List.length_nil];omega⟩,by dsimp only;omega,?_⟩;(try simp only[Ys,Yp,if_true,if_false,Bool.false_eq_true])
     exact adk [] [0,1,2,7,8]
    ·have e3:(bG (withO S1 (takeO S1.orph u)) ob==0)=false:=by simp[hc]
     rw[if_neg hc]at hwr;rw[hwr]at hR hro hI;dsimp only at hR hro hI;unfold withO at e3;refine aD e3 ?_;refine⟨(((withO S1 (takeO S1.orph u),L),true),z2),⟨hI,hR,by dsimp only;omega⟩,by dsimp only;omega,?_⟩;(try simp only[Ys,Yp,if_true,if_false,Bool.false_eq_true,withO])
     exact adk [] [0,1,2,6,4]
  | false =>
    show Tri _ _ _ _ _ ⟨_,jU [(5,.sl 32 true (rows rtc L)),(6,.dead),(7,.dead),(8,.dead),(9,.dead),(10,.dead)] _,[]⟩ [.var (aw s0.a),.var (aA b),.var (aw { S1.a with orph:=.hs 238 3 0 S1.orph.length }),.vec 238 (rows aA (S1.orph++z))]
    (try simp only[db,cV,List.set_cons_zero,List.set_cons_succ])
    refine gon ?_;refine bP [2,3] (c0) evd (bx.mk' (by simp) evd) ?_;refine evg ?_;refine aQ e1 ?_;refine eW hgd hxl hub hw1 ?_;refine bP [3] (cd) evd (bx.mk' (by simp) evd) ?_;refine evg ?_;refine ap hw1 ?_;refine bP [5] (c1) evd (bx.mk' (by simp) evd) ?_;refine evg ?_;by_cases hc:bG (withO S1 (takeO S1.orph u)) ob=0
    ·have e3:(bG (withO S1 (takeO S1.orph u)) ob==0)=true:=by simp[hc]
     rw[if_pos hc]at hwr;rw[hwr]at hR hro hI;dsimp only at hR hro hI;obtain⟨z3,c4⟩:=c2 hc;unfold withO at e3;generalize gi (withO S1 (takeO S1.orph u)) ob=S3 at *;unfold rE at c4;refine bg e3 ?_;refine Gp [5] ?_;simp only[evZ,E0];(try simp only[go_sem,Nat.reduceAdd,Nat.reduceSub,Nat.reduceMul,Nat.reduceLT,Nat.reduceLeDiff,Nat.reduceEqDiff,reduceIte,Int.reduceToNat,Int.reduceLT,Int.reduceLE,Int.reduceEq,Int.reduceNeg,reduceCtorEq,Int.reduceBEq,Int.reduceBNe])
     refine gon ?_;refine bP [] (c4) evd (bx.mk' (by simp) evd) ?_;refine evg ?_;refine ap hsn ?_;refine⟨(((S3,L++[ob.root]),true),z3),⟨hI,hR,by simp only[List.length_append,List.length_cons,List.length_nil];omega⟩,by dsimp only;omega,?_⟩;(try simp only[Ys,Yp,if_true,if_false,Bool.false_eq_true])
     exact adk [] [0,1,2,6,7]
    ·have e3:(bG (withO S1 (takeO S1.orph u)) ob==0)=false:=by simp[hc]
     rw[if_neg hc]at hwr;rw[hwr]at hR hro hI;dsimp only at hR hro hI;unfold withO at e3;refine aD e3 ?_;refine⟨(((withO S1 (takeO S1.orph u),L),false),z2),⟨hI,hR,by dsimp only;omega⟩,by dsimp only;omega,?_⟩;(try simp only[Ys,Yp,if_true,if_false,Bool.false_eq_true,withO])
     exact adk [] [0,1,2,5]
theorem OT(s:am)(m:Nat)(h:bi s m)(b:Blk)(hb:jx m b):PC Tryz.prog 53 [.agg (aw s.a),.agg (aA b)] (.tup [.agg (aw (cq s b).1.a),.sl 32 false (rows rtc (cq s b).2.1),.int .i64 (cq s b).2.2]):=by
 have tl:=Yh s;refine PC.fact 22 HC (by simp) puA ⟨(cq s b).1.pul,gj _,trivial,trivial⟩ ?_;have hc:ce=.seq ce.hd (.seq (ce.tl 1).hd (.seq (ce.tl 2).hd (.seq (ce.tl 3).hd (.seq (ce.tl 4).hd (.seq (ce.tl 5).hd (ce.tl 6)))))):=rfl;rw[hc];clear hc;generalize ce.tl 6=cT at *;unfold ce;refine bd ?_;simp only[ab.tl,ab.hd];have c0:=K1 s h.cp;have c0o:=kW s h.cp;unfold OO at c0o;have c1:=ze s m h b hb;have hoo:=h.oo;unfold cq;by_cases q1:bG s b=10
 ·rw[if_pos q1]
  rw[q1]at c1;have hlo:=h.cfg.lo;have ge:decide ((s.orph.length:Int) ≥ s.cfg.lim.orph)=decide (s.cfg.lim.orph<=(s.orph.length:Int)):=rfl;by_cases q2:s.cfg.lim.orph<=s.orph.length
  ·have e2:decide (s.cfg.lim.orph<=(s.orph.length:Int))=true:=ak q2;rw[if_pos q2];refine gon ?_;refine acT c0 ?_;refine ai c1 ?_;refine bh ?_;refine aF ?_;refine cn ge e2 ?_;exact Dr (by first|rfl|exact evd) (by first|rfl|exact evd)
  ·have e2:decide (s.cfg.lim.orph<=(s.orph.length:Int))=false:=au q2;have hsn:rows aA s.orph++[aA (noT b)]=rows aA (s.orph++[noT b]):=da aA s.orph (noT b);have ht2:List.take (s.orph.length+1) (rows aA (s.orph++[noT b]))=rows aA (s.orph++[noT b]):=List.take_of_length_le (by simp);have hno:aA { pul:=b.pul,slot:=b.slot,root:=b.root,parent:=b.parent,payload:=b.payload,diff:=b.diff,pdiff:=b.pdiff,just:=b.just,fin:=b.fin,timely:=false }=aA (noT b):=rfl;rw[if_neg q2];refine gon ?_;refine bP [] (c0o) evd (bx.mk' (by simp) evd) ?_;refine evg ?_;refine gon ?_;refine ai c1 ?_;refine bh ?_;refine aF ?_;refine dD ge e2 ?_;refine aO hno hsn ?_;refine⟨_,(by first|rfl|exact evd),.inr ⟨.tup [.agg (aw (withO s (s.orph++[noT b])).a),.sl 0 true [],.int .i64 0],?_,⟨(withO s (s.orph++[noT b])).pul,trivial,trivial,trivial⟩,Wk.tup ⟨Wk.refl _,Wk.empty _ _ _,Wk.refl _,trivial⟩⟩⟩;exact nN ht2
 rw[if_neg q1];have n1:(bG s b==10)=false:=by simp[q1]
 by_cases q2:bG s b=0
 case neg=>
  rw[if_pos q2];have e1:(bG s b==0)=false:=by simp[q2]
  generalize bG s b=E at *;refine gon ?_;refine acT c0 ?_;refine ai c1 ?_;refine aQ e1 ?_;refine aD n1 ?_;exact Dr (by first|rfl|exact evd) (by first|rfl|exact evd)
 rw[if_neg (by simp[q2])];have hins:=h.ins q2 hb;obtain⟨z,c2⟩:=zf s m h b hb q2;rw[q2]at c1;have hBI:blockI s b=if b.timely=true/\b.slot=s.now/\s.boost=rt0 then withB (gi s b) b.root else gi s b:=rfl
 obtain⟨B,hB,hBI2⟩:∃B:Bool,(B=true↔(b.timely=true/\b.slot=s.now/\s.boost=rt0))/\blockI s b=if B=true then withB (gi s b) b.root else gi s b:=by
  by_cases q:b.timely=true/\b.slot=s.now/\s.boost=rt0
  ·exact⟨true,by simp[q],by rw[hBI,if_pos q,if_pos rfl]⟩
  ·exact⟨false,by simp[q],by rw[hBI,if_neg q,if_neg (by simp)]⟩
 rw[hBI2];clear hBI hBI2 n1 q1 q2;generalize gi s b=S at *;have hSo:=hins.oo
 have key:∀ (ts:List (Nat×AV)),Tri Tryz.prog 103 0 (.seq ((ce.tl 4).hd) (.seq (ce.tl 5).hd cT)) (PQ [.cell 4 true 150,.tmp 5,.tmp 6] (.tup [.agg (aw (waitG ((if B=true then withB S b.root else S).orph.length+1) ((if B=true then withB S b.root else S),[b.root])).1.a),.sl 32 false (rows rtc (waitG ((if B=true then withB S b.root else S).orph.length+1) ((if B=true then withB S b.root else S),[b.root])).2),.int .i64 0]))
  ⟨22,[.agg (aw s.a),.agg (aA b),.ptr 0 0,.ptr 1 0,.ptr 2 0,.sl 0 true [],.int .i64 0,.int .i64 0,.bool B,.dead,.dead,.dead,.dead,.dead,.dead,.dead,.dead,.dead,.dead,.bool true,.dead,.dead],ts⟩ [.var (aw s.a),.var (aA b),.var (aw s.a)]:=by
  intro ts;unfold ce;refine bd ?_;simp only[ab.tl,ab.hd];unfold rE at c2;refine gon ?_;refine bP [] (c2) evd (bx.mk' (by simp) evd) ?_;refine evg ?_;refine gon ?_;cases B with
  | true =>
    have t2:=tl (withB S b.root) z m (hins.withB _) b (by show S.orph.length<=3;omega) _ rfl;refine abX ?_;(try simp only[if_true])
    refine dR ?_ t2;unfold withB;exact adk [] [0,1,2,3]
  | false =>
    have t2:=tl S z m hins b (by omega) _ rfl;refine abW ?_;(try simp only[Bool.false_eq_true,if_false])
    refine dR ?_ t2;exact adk [] [0,1,2,3]
 unfold ce at key;dsimp only[nfO,Int.reduceOfNat,Int.reduceNegSucc,wA,wB,wC,wD,wE,wF,wG,wH,wI,wJ,wK,wL,wM,wN,wO,wP,wQ,wR,wS,wT,wU,wV,wW,wX,wY,wZ,om,oo,on,omg,og,ong,ci,cu,cb,cf,fA,lA,lF,bI,bC,sO,eX,lN,iX,kA,kB,kC,sR,cN]at key;simp only[ab.tl,ab.hd]at key;clear tl c2 hins;have c3:=jk s.boost;refine gon ?_;refine acT c0 ?_;refine ai c1 ?_;refine kO ?_;refine jB ?_;refine iO ?_;cases h1:b.timely with
 | false =>
   obtain rfl:B=false:=by rw[<-Bool.not_eq_true,hB,h1];simp
   repeat(first|refine jB ?_|simp only[go_sem,h1])
   have k2:=key [];(try simp only[Bool.false_eq_true,if_false,if_true]at k2)
   refine dR ?_ k2;exact adk [] [0,1,2]
 | true =>
   by_cases h2:b.slot=s.now
   ·have e2:(b.slot==s.now)=true:=by simp[h2]
    by_cases h3:s.boost=rt0
    ·have e3:=ak h3;obtain rfl:B=true:=hB.2 ⟨h1,h2,h3⟩;rw[e3]at c3;repeat(first|refine jB ?_|simp only[go_sem,h1,e2])
     refine ai c3 ?_;refine jB ?_;have k2:=key [];(try simp only[Bool.false_eq_true,if_false,if_true]at k2)
     refine dR ?_ k2;exact adk [] [0,1,2]
    ·have e3:=au h3;obtain rfl:B=false:=by rw[<-Bool.not_eq_true,hB];exact fun h=>h3 h.2.2
     rw[e3]at c3;repeat(first|refine jB ?_|simp only[go_sem,h1,e2])
     refine ai c3 ?_;refine jB ?_;have k2:=key [];(try simp only[Bool.false_eq_true,if_false,if_true]at k2)
     refine dR ?_ k2;exact adk [] [0,1,2]
   ·have e2:(b.slot==s.now)=false:=by simp[h2]
    obtain rfl:B=false:=by rw[<-Bool.not_eq_true,hB];exact fun h=>h2 h.2.1
    repeat(first|refine jB ?_|simp only[go_sem,h1,e2])
    have k2:=key [];(try simp only[Bool.false_eq_true,if_false,if_true]at k2)
    refine dR ?_ k2;exact adk [] [0,1,2]
end Go.Proofs.YtnjdpnfglgcjcaaGreat
