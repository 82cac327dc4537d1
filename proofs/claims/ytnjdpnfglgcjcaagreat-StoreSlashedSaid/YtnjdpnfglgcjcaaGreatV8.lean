/-
 My texts Na, Nb, Nc, joined.
-/
import Derived.Test.YtnjdpnfglgcjcaaGreatV7
set_option linter.unusedVariables false
set_option linter.unusedSimpArgs false
set_option maxRecDepth 8000
set_option maxHeartbeats 4000000
namespace Go.Proofs.YtnjdpnfglgcjcaaGreat
open Go Go.FH Go.RowKit
theorem mZ(s:am)(h:StR s):PC Tryz.prog 306 [.agg (aw s.a)] (.int .i64 (bR s)):=by
 refine PC.fact 4 CF (by simp) puA puA ?_;unfold rk;refine bd ?_;have hb:=h.bo;obtain⟨R,hR⟩:∃R,R=bR s:=⟨_,rfl⟩
 rw[<-hR];unfold bR cE at hR;refine gon ?_;refine ay (fun i:Nat=>[(3,.int .i64 i)]) (fun _=>[.var (aw s.a)]) (fun i=>s.orph.length-i) (fun i=>i<=s.orph.length/\R=rP (fw (fun i=>decide (0<=aj s.nodes (cF s.orph i).parent)) (s.orph.length-i) i)) 0 ⟨Nat.zero_le _,hR⟩ ?_ ?_
 ·exact adk [] [0]
 clear hR;rintro i ⟨hi,hn⟩;refine dM ?_;by_cases h1:i<s.orph.length
 ·have e1:=inT h1
  have hw:=ah h1 (by omega);have hgd:(rows aA s.orph).getD i []=aA (cF s.orph i):=aM (f:=aA) dO h1;have c1:=cm s.nodes (cF s.orph i).parent h.bn;refine bg e1 ?_;refine ap hgd ?_;refine aC (c1) ?_;refine gon ?_;by_cases q:0<=aj s.nodes (cF s.orph i).parent
  ·have e2:=ak q;rw[f9 h1 e2]at hn;subst hn;refine aE e2 ?_;exact af
  ·have e2:=au q;rw[fW h1 e2]at hn;refine aQ e2 ?_;refine ap hw ?_;refine⟨i+1,⟨h1,hn⟩,by omega,?_⟩;exact adk [] [0]
 ·obtain rfl:i=s.orph.length:=by omega
  have e1:=inF (s.orph.length);rw[gQ]at hn;subst hn;refine aD e1 ?_;exact af
theorem I7(s:am)(b:Blk)(h:StR s)(h1:StR (dh s (eP s.nodes b (ck b)).1)):PC Tryz.prog 305 [.agg (aw s.a),.agg (aA b)] (.agg (aw (gi s b).a)):=by
 refine PC.fact 5 EG (by simp) puA puA ?_;unfold sy;refine bd ?_;have c1:=Se b;have c2:=UW s.nodes b (ck b) h.bn;have c3:=Gt (dh s (eP s.nodes b (ck b)).1) b.just b.fin h1;have h2:=h1.upd b.just b.fin
 have hI:gi s b=if bY (dl (dh s (eP s.nodes b (ck b)).1) b.just b.fin) b.slot<bY (dl (dh s (eP s.nodes b (ck b)).1) b.just b.fin) (dl (dh s (eP s.nodes b (ck b)).1) b.just b.fin).now
  then dl (dl (dh s (eP s.nodes b (ck b)).1) b.just b.fin) b.pul.j b.pul.f else dl (dh s (eP s.nodes b (ck b)).1) b.just b.fin:=rfl
 rw[hI];clear hI;unfold dh at c3;generalize ck b=st at *;generalize eP s.nodes b st=T at *;obtain⟨T1,T2⟩:=T;show Tri _ _ _ _ (PQ _ (.agg (aw (am.a (if bY (dl (dh s T1) b.just b.fin) b.slot<bY (dl (dh s T1) b.just b.fin) (dl (dh s T1) b.just b.fin).now then dl (dl (dh s T1) b.just b.fin) b.pul.j b.pul.f else dl (dh s T1) b.just b.fin))))) _ _
 change StR (dl (dh s T1) b.just b.fin)at h2
 change PC _ _ _ (.agg (aw (dl (dh s T1) b.just b.fin).a))at c3
 generalize dl (dh s T1) b.just b.fin=S2 at *;have c4:=fV S2 b.slot h2.spe;have c5:=fV S2 S2.now h2.spe;have c6:=Gt S2 b.pul.j b.pul.f h2;refine gon ?_;refine aC (c1) ?_;refine gon ?_;refine aC (c2) ?_;refine gon ?_;refine acT c3 ?_;refine aC (c4) ?_;refine gon ?_;refine aC (c5) ?_;refine gon ?_;by_cases q:bY S2 b.slot<bY S2 S2.now
 ·have e1:=ak q;rw[if_pos q];refine aE e1 ?_;refine acT c6 ?_;exact af
 ·have e1:=au q;rw[if_neg q];refine aD e1 ?_;exact af
theorem I6(s:am)(b:Blk):(gi s b).orph.length<=s.orph.length:=by
 unfold gi;have h1:=(oh (dh s (eP s.nodes b (ck b)).1) b.just b.fin).1;have h2:=(oh (dl (dh s (eP s.nodes b (ck b)).1) b.just b.fin) b.pul.j b.pul.f).1;have h3:(dh s (eP s.nodes b (ck b)).1).orph.length=s.orph.length:=rfl;split<;>omega
theorem qV{p:am×List Rt}(h0:0<=bR p.1):(waitR p).1.orph.length+1<=p.1.orph.length:=by
 have h1:=qr p.1;have h2:=J4 p.1.orph (i:=(bR p.1).toNat) (by omega);have h3:=I6 (withO p.1 (takeO p.1.orph (bR p.1).toNat)) (cF p.1.orph (bR p.1).toNat);have h4:(withO p.1 (takeO p.1.orph (bR p.1).toNat)).orph.length=(takeO p.1.orph (bR p.1).toNat).length:=rfl;unfold waitR;split
 ·show (gi _ _).orph.length+1<=_;omega
 ·show (takeO p.1.orph (bR p.1).toNat).length+1<=_;omega
theorem PR:∀ (f g:Nat) (p:am×List Rt),p.1.orph.length<f->p.1.orph.length<g->waitG f p=waitG g p
 |0,_,_,h,_=>by omega
 |_,0,_,_,h=>by omega
 | f + 1, g + 1, p, h1, h2 => by
   unfold waitG;split
   ·rfl
   ·rename_i hw;have:=qV (p:=p) (by omega);exact PR f g (waitR p) (by omega) (by omega)
theorem Gx{p:am×List Rt}(h0:0<=bR p.1):waitG (p.1.orph.length+1) p=waitG ((waitR p).1.orph.length+1) (waitR p):=by
 have h1:=qV h0;conv=>lhs;unfold waitG
 rw[if_neg (by omega)];exact PR _ _ _ (by omega) (by omega)
theorem NH(s:am)(b:Blk)(h:StR s):aI Tryz.prog 304 [.agg (aw { s.a with orph:=.hs 238 0 0 s.orph.length }),.agg (aA b)] [.vec 238 (rows aA s.orph)] (.int .i64 (bG s b)) [.vec 238 (rows aA s.orph)]:=by
 refine aI.lend rfl ?_;have ht:List.take s.orph.length (rows aA s.orph)=rows aA s.orph:=List.take_of_length_le (by simp);(try simp only[go_sem,ht,List.length_cons,List.length_nil,List.range_succ,List.range_zero])
 exact BK s b h
theorem M8(s:am)(h:StR s):aI Tryz.prog 306 [.agg (aw { s.a with orph:=.hs 238 0 0 s.orph.length })] [.vec 238 (rows aA s.orph)] (.int .i64 (bR s)) [.vec 238 (rows aA s.orph)]:=by
 refine aI.lend rfl ?_;have ht:List.take s.orph.length (rows aA s.orph)=rows aA s.orph:=List.take_of_length_le (by simp);(try simp only[go_sem,ht,List.length_cons,List.length_nil,List.range_succ,List.range_zero])
 exact mZ s h
theorem QX(s:am)(b:Blk)(h:StR s)(h1:StR (dh s (eP s.nodes b (ck b)).1)):aI Tryz.prog 305 [.agg (aw { s.a with orph:=.hs 238 0 0 s.orph.length }),.agg (aA b)] [.vec 238 (rows aA s.orph)] (.agg (aw (gi s b).a)) [.gone]:=by
 have ht:List.take s.orph.length (rows aA s.orph)=rows aA s.orph:=List.take_of_length_le (by simp)
 have:=aI.give (σ:=[.vec 238 (rows aA s.orph)]) (args:=[.agg (aw { s.a with orph:=.hs 238 0 0 s.orph.length }),.agg (aA b)]) (r:=_) (by
  (try simp only[go_sem,ht,List.length_cons,List.length_nil,List.range_succ,List.range_zero])
  exact I7 s b h h1)
 exact this
def Yq(b:Blk)(p:am×List Rt)(o:Bool):St:=if o then [.var (aw p.1.a),.var (aA b),.var (aw gY),.vec 32 (rows rtc p.2)]else [.var (aw p.1.a),.var (aA b),.var (aw gY)]
def Yr(p:am×List Rt)(o:Bool):AV:=if o then .hs 32 3 0 p.2.length else .sl 32 true (rows rtc p.2)
theorem Zq(S:am)(m:Nat)(hS:bi S m)(b:Blk)(hbu:jx m b)(hlo:S.orph.length<=3)(R:am×List Rt)(hR0:R=waitG (S.orph.length+1) (S,[b.root])):
 Tri Tryz.prog 108 0 (bT.tl 7) (PQ [.cell 4 true 150,.tmp 5,.tmp 6] (.tup [.agg (aw R.1.a),.sl 32 false (rows rtc R.2),.int .i64 0])) ⟨12,[.dead,.dead,.ptr 0 0,.ptr 1 0,.ptr 2 0,.dead,.dead,.dead,.dead,.dead,.dead,.dead],[]⟩ [.var (aw S.a),.var (aA b),.var (aw gY)]:=by
 unfold bT;refine bd ?_;simp only[ab.tl];have c0:=mZ S hS.r;refine gon ?_;refine acT c0 ?_
 refine ay (fun x:(am×List Rt)×Bool=>[(9,Yr x.1 x.2),(10,.int .i64 (bR x.1.1)),(11,.dead)]) (fun x=>Yq b x.1 x.2) (fun x=>x.1.1.orph.length)
  (fun x=>bi x.1.1 m/\R=waitG (x.1.1.orph.length+1) x.1/\x.1.2.length+x.1.1.orph.length<=10) ((S,[b.root]),false) ⟨hS,hR0,by simp only[List.length_cons,List.length_nil];omega⟩ ?_ ?_
 ·show GC _ _ _ ⟨_,jU [(9,.sl 32 true [rtc b.root]),(10,.int .i64 (bR S)),(11,.dead)] _,[]⟩ [.var (aw S.a),.var (aA b),.var (aw gY)]
  exact adk [] [0,1,2]
 clear hR0 c0;rintro⟨⟨S1,L⟩,o⟩ ⟨hi,hR,hl⟩;dsimp only at hi hR hl ⊢;have hwb:=qr S1;by_cases hw:bR S1<0
 ·have hR':R=(S1,L):=by rw[hR];unfold waitG;rw[if_pos hw]
  subst hR';clear hR;generalize bR S1=W at *;have e1:decide (W ≥ 0)=false:=au (by omega);have e2:decide (0<=W)=false:=au (by omega);have ht:List.take L.length (rows rtc L)=rows rtc L:=List.take_of_length_le (by simp);cases o with
  | true =>
    show Tri _ _ _ _ _ ⟨_,jU [(9,.hs 32 3 0 L.length),(10,_),(11,.dead)] _,[]⟩ [.var (aw S1.a),.var (aA b),.var (aw gY),.vec 32 (rows rtc L)]
    (try simp only[db,cV,List.set_cons_zero,List.set_cons_succ])
    refine eC e1 e2 ?_;refine⟨_,(by first|rfl|exact evd),.inl ?_⟩;exact nN ht
  | false =>
    show Tri _ _ _ _ _ ⟨_,jU [(9,.sl 32 true (rows rtc L)),(10,_),(11,.dead)] _,[]⟩ [.var (aw S1.a),.var (aA b),.var (aw gY)]
    (try simp only[db,cV,List.set_cons_zero,List.set_cons_succ])
    refine eC e1 e2 ?_;refine⟨_,(by first|rfl|exact evd),.inr ⟨.tup [.agg (aw S1.a),.sl 32 true (rows rtc L),.int .i64 0],?_,⟨S1.pul,gj L,trivial,trivial⟩,Wk.tup ⟨Wk.refl _,Wk.open_ _ _ _,Wk.refl _,trivial⟩⟩⟩;(try simp only[go_sem,Nat.reduceAdd,Nat.reduceSub,Nat.reduceMul,Nat.reduceLT,Nat.reduceLeDiff,Nat.reduceEqDiff,reduceIte,Int.reduceToNat,Int.reduceLT,Int.reduceLE,Int.reduceEq,Int.reduceNeg,reduceCtorEq,Int.reduceBEq,Int.reduceBNe])
    all_goals rfl
 ·have hst:=Gx (p:=(S1,L)) (show 0<=bR S1 by omega)
  dsimp only at hst;rw[hst]at hR;clear hst;have hro:=qV (p:=(S1,L)) (by show 0<=bR S1;omega);have hI:bi (waitR (S1,L)).1 m:=bi.waitR hi (by show 0<=bR S1;omega);have hwr:waitR (S1,L)=if bG (withO S1 (takeO S1.orph (bR S1).toNat)) (cF S1.orph (bR S1).toNat)=0 then (gi (withO S1 (takeO S1.orph (bR S1).toNat)) (cF S1.orph (bR S1).toNat),L++[(cF S1.orph (bR S1).toNat).root])else (withO S1 (takeO S1.orph (bR S1).toNat),L):=rfl
  obtain⟨u,hu⟩:=Int.eq_ofNat_of_zero_le (show 0<=bR S1 by omega);rw[hu]at hwr hwb ⊢;rw[Int.toNat_natCast]at hwr;have hul:u<S1.orph.length:=by omega
  have h2:=hi.takeO u;have hbo:=hi.uo _ (cG dO hul);have hgd:(rows aA S1.orph).getD u []=aA (cF S1.orph u):=aM (f:=aA) dO hul;change jx m (cF S1.orph u)at hbo
  generalize cF S1.orph u=ob at *;have e2:decide (0<=(u:Int))=true:=ak (by omega);have hw1:IntKind.i64.wrap ((u:Int)+1)=((u+1:Nat):Int):=aK (by omega) (by omega);have ht1:List.take u (rows aA S1.orph)=rows aA (S1.orph.take u):=qm _ _ _;have ht2:List.drop (u+1) (rows aA S1.orph)=rows aA (S1.orph.drop (u+1)):=ur _ _ _;have ht3:rows aA (S1.orph.take u)++rows aA (S1.orph.drop (u+1))=rows aA (takeO S1.orph u):=FX _ _ _;have ht4:(S1.orph.take u).length+(S1.orph.drop (u+1)).length=(takeO S1.orph u).length:=by unfold takeO;rw[List.length_append]
  have ht5:List.take (S1.orph.length-(u+1)) (rows aA (S1.orph.drop (u+1)))=rows aA (S1.orph.drop (u+1)):=List.take_of_length_le (by simp);have hlo:(takeO S1.orph u).length<=3:=h2.oo;have hoo:=hi.oo;have c1:=NH (withO S1 (takeO S1.orph u)) ob h2.r;have c2:=fun hc=>QX (withO S1 (takeO S1.orph u)) ob h2.r (h2.insN hc hbo).r
  have c3:=M8 (withO S1 (takeO S1.orph u)) h2.r;unfold withO at c1 c2 c3;dsimp only at c1 c2 c3;have ht6:List.take (takeO S1.orph u).length (rows aA (takeO S1.orph u))=rows aA (takeO S1.orph u):=List.take_of_length_le (by simp);have hsn:rows rtc L++[rtc ob.root]=rows rtc (L++[ob.root]):=da rtc L ob.root;have hT0:takeO S1.orph u=takeO S1.orph u:=rfl;cases o with
  | true =>
    show Tri _ _ _ _ _ ⟨_,jU [(9,.hs 32 3 0 L.length),(10,_),(11,.dead)] _,[]⟩ [.var (aw S1.a),.var (aA b),.var (aw gY),.vec 32 (rows rtc L)]
    (try simp only[db,cV,List.set_cons_zero,List.set_cons_succ])
    refine bg e2 ?_;refine jN hgd hw1 ht1 ht2 ht3 ht4 ht5 ?_;refine bP [6] (c1) evd (bx.mk' (by simp) evd) ?_;refine evg ?_;refine gon ?_;by_cases hc:bG (withO S1 (takeO S1.orph u)) ob=0
    ·have e3:(bG (withO S1 (takeO S1.orph u)) ob==0)=true:=by simp[hc]
     rw[if_pos hc]at hwr;rw[hwr]at hR hro hI;dsimp only at hR hro hI;have c4:=c2 hc;have c5:=mZ _ hI.r;unfold withO at e3;change aI _ _ _ _ (.agg (aw (gi (withO S1 (takeO S1.orph u)) ob).a)) _ at c4
     generalize gi (withO S1 (takeO S1.orph u)) ob=S3 at *;refine aE e3 ?_;refine bP [6] (c4) evd (bx.mk' (by simp) evd) ?_;refine evg ?_;refine ap hsn ?_;refine acT c5 ?_;refine⟨((S3,L++[ob.root]),true),⟨hI,hR,by simp only[List.length_append,List.length_cons,List.length_nil];omega⟩,by dsimp only;omega,?_⟩;(try simp only[Yr,Yq,if_true,if_false,Bool.false_eq_true,withO])
     exact adk [] [0,1,2,7]
    ·have e3:(bG (withO S1 (takeO S1.orph u)) ob==0)=false:=by simp[hc]
     rw[if_neg hc]at hwr;rw[hwr]at hR hro hI;dsimp only at hR hro hI;unfold withO at e3;refine aD e3 ?_;refine bP [6] (c3) evd (bx.mk' (by simp) evd) ?_;refine evg ?_;refine gon ?_;refine⟨((withO S1 (takeO S1.orph u),L),true),⟨hI,hR,by dsimp only;omega⟩,by dsimp only;omega,?_⟩;(try simp only[Yr,Yq,if_true,if_false,Bool.false_eq_true,withO])
     refine GC.mk' [6] [0,1,2,3] (by simp) rfl (by simp) (by simp) (by(try simp only[go_sem,Nat.reduceAdd,Nat.reduceSub,Nat.reduceMul,Nat.reduceLT,Nat.reduceLeDiff,Nat.reduceEqDiff,reduceIte,Int.reduceToNat,Int.reduceLT,Int.reduceLE,Int.reduceEq,Int.reduceNeg,reduceCtorEq,Int.reduceBEq,Int.reduceBNe,ht6]);all_goals first|rfl|exact⟨rfl,rfl⟩) (by(try simp only[go_sem,Nat.reduceAdd,Nat.reduceSub,Nat.reduceMul,Nat.reduceLT,Nat.reduceLeDiff,Nat.reduceEqDiff,reduceIte,Int.reduceToNat,Int.reduceLT,Int.reduceLE,Int.reduceEq,Int.reduceNeg,reduceCtorEq,Int.reduceBEq,Int.reduceBNe,ht6]);all_goals rfl)
  | false =>
    show Tri _ _ _ _ _ ⟨_,jU [(9,.sl 32 true (rows rtc L)),(10,_),(11,.dead)] _,[]⟩ [.var (aw S1.a),.var (aA b),.var (aw gY)]
    (try simp only[db,cV,List.set_cons_zero,List.set_cons_succ])
    refine bg e2 ?_;refine jN hgd hw1 ht1 ht2 ht3 ht4 ht5 ?_;refine bP [5] (c1) evd (bx.mk' (by simp) evd) ?_;refine evg ?_;refine gon ?_;by_cases hc:bG (withO S1 (takeO S1.orph u)) ob=0
    ·have e3:(bG (withO S1 (takeO S1.orph u)) ob==0)=true:=by simp[hc]
     rw[if_pos hc]at hwr;rw[hwr]at hR hro hI;dsimp only at hR hro hI;have c4:=c2 hc;have c5:=mZ _ hI.r;unfold withO at e3;change aI _ _ _ _ (.agg (aw (gi (withO S1 (takeO S1.orph u)) ob).a)) _ at c4
     generalize gi (withO S1 (takeO S1.orph u)) ob=S3 at *;refine aE e3 ?_;refine bP [5] (c4) evd (bx.mk' (by simp) evd) ?_;refine evg ?_;refine ap hsn ?_;refine acT c5 ?_;refine⟨((S3,L++[ob.root]),true),⟨hI,hR,by simp only[List.length_append,List.length_cons,List.length_nil];omega⟩,by dsimp only;omega,?_⟩;(try simp only[Yr,Yq,if_true,if_false,Bool.false_eq_true,withO])
     exact adk [] [0,1,2,6]
    ·have e3:(bG (withO S1 (takeO S1.orph u)) ob==0)=false:=by simp[hc]
     rw[if_neg hc]at hwr;rw[hwr]at hR hro hI;dsimp only at hR hro hI;unfold withO at e3;refine aD e3 ?_;refine bP [5] (c3) evd (bx.mk' (by simp) evd) ?_;refine evg ?_;refine gon ?_;refine⟨((withO S1 (takeO S1.orph u),L),false),⟨hI,hR,by dsimp only;omega⟩,by dsimp only;omega,?_⟩;(try simp only[Yr,Yq,if_true,if_false,Bool.false_eq_true,withO])
     refine GC.mk' [5] [0,1,2] (by simp) rfl (by simp) (by simp) (by(try simp only[go_sem,Nat.reduceAdd,Nat.reduceSub,Nat.reduceMul,Nat.reduceLT,Nat.reduceLeDiff,Nat.reduceEqDiff,reduceIte,Int.reduceToNat,Int.reduceLT,Int.reduceLE,Int.reduceEq,Int.reduceNeg,reduceCtorEq,Int.reduceBEq,Int.reduceBNe,ht6]);all_goals first|rfl|exact⟨rfl,rfl⟩) (by(try simp only[go_sem,Nat.reduceAdd,Nat.reduceSub,Nat.reduceMul,Nat.reduceLT,Nat.reduceLeDiff,Nat.reduceEqDiff,reduceIte,Int.reduceToNat,Int.reduceLT,Int.reduceLE,Int.reduceEq,Int.reduceNeg,reduceCtorEq,Int.reduceBEq,Int.reduceBNe,ht6]);all_goals rfl)
theorem Dr{fr:Fr}{σ:St}{rs:List gO}{l:List AV}{n:Int}(hl:dQ fr σ rs=some l)(hv:fz σ (List.range σ.length) (gm l)=.tup [.agg (aw gY),.sl 0 true [],.int .i64 n]):PQ rs (.tup [.agg (aw d9.a),.sl 32 false (rows rtc []),.int .i64 n]) .ret fr σ:=
 ⟨l,hl,.inr ⟨_,hv,(by simp[PuL,Pu,fG,gY,aw,eo,jW,dS,jY,fF,qD,cD,cp0]),Wk.tup ⟨DC,Wk.empty _ _ _,Wk.refl _,trivial⟩⟩⟩
theorem P7(s:am)(m:Nat)(h:bi s m)(b:Blk)(hb:jx m b):PC Tryz.prog 207 [.agg (aw s.a),.agg (aA b)] (.tup [.agg (aw (cq s b).1.a),.sl 32 false (rows rtc (cq s b).2.1),.int .i64 (cq s b).2.2]):=by
 have tl:=Zq;refine PC.fact 12 Hk (by simp) puA ⟨(cq s b).1.pul,gj _,trivial,trivial⟩ ?_;have hc:bT=.seq bT.hd (.seq (bT.tl 1).hd (.seq (bT.tl 2).hd (.seq (bT.tl 3).hd (.seq (bT.tl 4).hd (.seq (bT.tl 5).hd (.seq (bT.tl 6).hd (bT.tl 7))))))):=rfl;rw[hc];clear hc;generalize bT.tl 7=cT at *;unfold bT;refine bd ?_;simp only[ab.tl,ab.hd];have c1:=BK s b h.r;have hoo:=h.oo;unfold cq;by_cases q1:bG s b=10
 ·rw[if_pos q1]
  rw[q1]at c1;have hlo:=h.cfg.lo;by_cases q2:s.cfg.lim.orph<=s.orph.length
  ·have e1:decide ((s.orph.length:Int) ≥ s.cfg.lim.orph)=true:=ak q2;have e2:decide (s.cfg.lim.orph<=(s.orph.length:Int))=true:=ak q2;rw[if_pos q2];refine gon ?_;refine ai c1 ?_;refine kO ?_;refine cn e1 e2 ?_;exact Dr (by first|rfl|exact evd) (by first|rfl|exact evd)
  ·have e1:decide ((s.orph.length:Int) ≥ s.cfg.lim.orph)=false:=au q2;have e2:decide (s.cfg.lim.orph<=(s.orph.length:Int))=false:=au q2;have hsn:rows aA s.orph++[aA (noT b)]=rows aA (s.orph++[noT b]):=da aA s.orph (noT b);have ht:∀l:List Blk,List.take l.length (rows aA l)=rows aA l:=fun l=>List.take_of_length_le (by simp)
   have ht2:List.take (s.orph.length+1) (rows aA (s.orph++[noT b]))=rows aA (s.orph++[noT b]):=List.take_of_length_le (by simp);have hno:aA { pul:=b.pul,slot:=b.slot,root:=b.root,parent:=b.parent,payload:=b.payload,diff:=b.diff,pdiff:=b.pdiff,just:=b.just,fin:=b.fin,timely:=false }=aA (noT b):=rfl;rw[if_neg q2];refine gon ?_;refine ai c1 ?_;refine kO ?_;refine dD e1 e2 ?_;refine cZ hno hsn ht ?_;refine⟨_,(by first|rfl|exact evd),.inr ⟨.tup [.agg (aw (withO s (s.orph++[noT b])).a),.sl 0 true [],.int .i64 0],?_,⟨(withO s (s.orph++[noT b])).pul,trivial,trivial,trivial⟩,Wk.tup ⟨Wk.refl _,Wk.empty _ _ _,Wk.refl _,trivial⟩⟩⟩;exact nN ht2
 rw[if_neg q1];have n1:(bG s b==10)=false:=by simp[q1]
 by_cases q2:bG s b=0
 case neg=>
  rw[if_pos q2];have e1:(bG s b != 0)=true:=by simp[q2]
  generalize bG s b=E at *;refine gon ?_;refine ai c1 ?_;refine aQ n1 ?_;refine aE e1 ?_;exact Dr (by first|rfl|exact evd) (by first|rfl|exact evd)
 rw[if_neg (by simp[q2])];have hI:=h.insN q2 hb;have hins:=h.ins q2 hb;have c2:=I7 s b h.r hI.r;have hor:=I6 s b;rw[q2]at c1;clear n1 q1 q2 hI;have hBI:blockI s b=if b.timely=true/\b.slot=s.now/\s.boost=rt0 then withB (gi s b) b.root else gi s b:=rfl
 obtain⟨B,hB,hBI2⟩:∃B:Bool,(B=true↔(b.timely=true/\b.slot=s.now/\s.boost=rt0))/\blockI s b=if B=true then withB (gi s b) b.root else gi s b:=by
  by_cases q:b.timely=true/\b.slot=s.now/\s.boost=rt0
  ·exact⟨true,by simp[q],by rw[hBI,if_pos q,if_pos rfl]⟩
  ·exact⟨false,by simp[q],by rw[hBI,if_neg q,if_neg (by simp)]⟩
 rw[hBI2];clear hBI hBI2;generalize gi s b=S at *
 have key:∀ (ts:List (Nat×AV)),Tri Tryz.prog 108 0 (.seq ((bT.tl 5).hd) (.seq (bT.tl 6).hd cT)) (PQ [.cell 4 true 150,.tmp 5,.tmp 6] (.tup [.agg (aw (waitG ((if B=true then withB S b.root else S).orph.length+1) ((if B=true then withB S b.root else S),[b.root])).1.a),.sl 32 false (rows rtc (waitG ((if B=true then withB S b.root else S).orph.length+1) ((if B=true then withB S b.root else S),[b.root])).2),.int .i64 0]))
  ⟨12,[.agg (aw s.a),.agg (aA b),.ptr 0 0,.ptr 1 0,.ptr 2 0,.sl 0 true [],.int .i64 0,.int .i64 0,.bool B,.dead,.dead,.dead],ts⟩ [.var (aw s.a),.var (aA b),.var (aw gY)]:=by
  intro ts;unfold bT;refine bd ?_;simp only[ab.tl,ab.hd];refine gon ?_;refine acT c2 ?_;cases B with
  | true =>
    have t2:=tl (withB S b.root) m (hins.withB _) b hb (by show S.orph.length<=3;omega) _ rfl;refine abX ?_;(try simp only[if_true])
    refine dR ?_ t2;unfold withB;exact adk [] [0,1,2]
  | false =>
    have t2:=tl S m hins b hb (by omega) _ rfl;refine abW ?_;(try simp only[Bool.false_eq_true,if_false])
    refine dR ?_ t2;exact adk [] [0,1,2]
 unfold bT at key;dsimp only[nfO,Int.reduceOfNat,Int.reduceNegSucc,wA,wB,wC,wD,wE,wF,wG,wH,wI,wJ,wK,wL,wM,wN,wO,wP,wQ,wR,wS,wT,wU,wV,wW,wX,wY,wZ,om,oo,on,omg,og,ong,ci,cu,cb,cf,fA,lA,lF,bI,bC,sO,eX,lN,iX,kA,kB,kC,sR,cN]at key;simp only[ab.tl,ab.hd]at key;clear tl c2 hins hor;refine gon ?_;refine ai c1 ?_;refine bh ?_;refine aB ?_;refine jB ?_;refine iO ?_;cases h1:b.timely with
 | false =>
   obtain rfl:B=false:=by rw[<-Bool.not_eq_true,hB,h1];simp
   repeat(first|refine jB ?_|simp only[go_sem,h1])
   exact key _
 | true =>
   by_cases h2:b.slot=s.now
   ·have e2:(b.slot==s.now)=true:=by simp[h2]
    by_cases h3:s.boost=rt0
    ·have e3:=ak h3;obtain rfl:B=true:=hB.2 ⟨h1,h2,h3⟩;repeat(first|refine jB ?_|simp only[go_sem,h1,e2,e3])
     exact key _
    ·have e3:=au h3;obtain rfl:B=false:=by rw[<-Bool.not_eq_true,hB];exact fun h=>h3 h.2.2
     repeat(first|refine jB ?_|simp only[go_sem,h1,e2,e3])
     exact key _
   ·have e2:(b.slot==s.now)=false:=by simp[h2]
    obtain rfl:B=false:=by rw[<-Bool.not_eq_true,hB];exact fun h=>h2 h.2.1
    repeat(first|refine jB ?_|simp only[go_sem,h1,e2])
    exact key _
theorem NE{s:am}{a:aW}(h:(dB s a).2=0):∀j∈a.vals,0<=j/\j<s.cfg.bals.length:=fun j hjm=>by
 have hv:dr a.vals s.cfg.bals.length=0:=by
  unfold dB at h;split at h
  ·rename_i h1;exact absurd h h1
  ·rename_i h1;simpa using h1
 obtain⟨u,hm,rfl⟩:=List.getElem_of_mem hjm;have:=(jw hv).2 u hm;rw[List.getD_eq_getElem?_getD,List.getElem?_eq_getElem hm,Option.getD_some]at this;omega
theorem Ny(s:am)(m:Nat)(h:bi s m)(a:aW)(ha:a.vals.length<=1000000):PC Tryz.prog 48 [.agg (aw s.a),.agg (bZ a.a)] (.tup [.agg (aw (i9 s a).1.a),.int .i64 (i9 s a).2]):=by
 refine PC.fact 9 EC (by simp) puA puA ?_;unfold su;refine bd ?_;have c1:=BJ s a h.r ha;have c2:=fun(hz:(dB s a).2=0)=>ND s a h.r ha (fun j hj=>by have:=NE hz j hj;have:=h.ll;omega)
 have haa:=h.aa;unfold i9;generalize hC:dB s a=C at *;obtain⟨C1,C2⟩:=C;dsimp only at c1 c2 ⊢;by_cases q1:C2=0
 case neg=>
  have e1:(C2 != 0)=true:=by simp[q1]
  rw[if_pos q1];refine gon ?_;refine ai c1 ?_;refine aE e1 ?_;exact gS (by first|rfl|exact evd) (by first|rfl|exact evd)
 subst q1;rw[if_neg (by simp)];cases C1 with
 | false =>
   have c3:=c2 rfl;refine gon ?_;refine ai c1 ?_;refine bh ?_;refine abX ?_;refine acT c3 ?_;(try simp only[if_true])
   exact af
 | true =>
   rw[if_neg (by simp)];by_cases q2:s.cfg.lim.early<=s.early.length
   ·have e2:decide (s.cfg.lim.early<=(s.early.length:Int))=true:=ak q2;have e3:decide ((s.early.length:Int) ≥ s.cfg.lim.early)=true:=ak q2;rw[if_pos q2];refine gon ?_;refine ai c1 ?_;refine bh ?_;refine aB ?_;refine cn e2 e3 ?_;exact gS (by first|rfl|exact evd) (by first|rfl|exact evd)
   ·have e2:decide (s.cfg.lim.early<=(s.early.length:Int))=false:=au q2;have e3:decide ((s.early.length:Int) ≥ s.cfg.lim.early)=false:=au q2;have hsn:rows aW.c s.early++[bZ a.a]=rows aW.c (s.early++[a]):=da aW.c s.early a;have ht:List.take (s.early.length+1) (rows aW.c (s.early++[a]))=rows aW.c (s.early++[a]):=List.take_of_length_le (by simp);have ht2:List.take s.early.length (rows aW.c s.early)=rows aW.c s.early:=List.take_of_length_le (by simp);have ht3:List.take a.vals.length (ax .i64 a.vals)=ax .i64 a.vals:=List.take_of_length_le (by simp);rw[if_neg q2];refine gon ?_;refine ai c1 ?_;refine bh ?_;refine aB ?_;refine dD e2 e3 ?_;refine jB ?_;refine iO ?_;repeat(first|refine jB ?_|simp only[go_sem,ht2])
    refine dR (fr2:=⟨9,[.dead,.dead,.ptr 0 0,.ptr 1 0,.ptr 2 0,.int .i64 0,.dead,.dead,.dead],[]⟩) (σ2:=[.var (aw s.a),.var (bZ a.a),.var (aw gY)]) (GC.mk' [3] [0,1,2] (by simp) rfl (by simp) (by simp) (by(try simp only[go_sem,Nat.reduceAdd,Nat.reduceSub,Nat.reduceMul,Nat.reduceLT,Nat.reduceLeDiff,Nat.reduceEqDiff,reduceIte,Int.reduceToNat,Int.reduceLT,Int.reduceLE,Int.reduceEq,Int.reduceNeg,reduceCtorEq,Int.reduceBEq,Int.reduceBNe,ht3]);all_goals first|rfl|exact⟨rfl,rfl⟩) (by(try simp only[go_sem,Nat.reduceAdd,Nat.reduceSub,Nat.reduceMul,Nat.reduceLT,Nat.reduceLeDiff,Nat.reduceEqDiff,reduceIte,Int.reduceToNat,Int.reduceLT,Int.reduceLE,Int.reduceEq,Int.reduceNeg,reduceCtorEq,Int.reduceBEq,Int.reduceBNe,ht3]);all_goals rfl)) ?_;refine aO hsn ht2 ?_;refine⟨_,(by first|rfl|exact evd),.inl ?_⟩;exact nN ht
theorem O2(s:am)(m:Nat)(h:bi s m)(t:aH)(ht:t.bals.length<=1000000):PC Tryz.prog 52 [.agg (aw s.a),.agg (bE t.a)] (.tup [.agg (aw (iu s t).1.a),.int .i64 (iu s t).2]):=by
 refine PC.fact 9 zW (by simp) puA puA ?_;unfold pO;refine bd ?_;have c0:=qp s;have c1:=uB t s.cfg.bals.length ht;have c2:=O3 s.tabs t s.cfg.bals.length s.cfg.lim.table h.r.bt ht;unfold iu;generalize fJ t s.cfg.bals.length=V at *;generalize gu s.tabs t s.cfg.bals.length s.cfg.lim.table=T at *;obtain⟨T1,T2⟩:=T;dsimp only at c2 ⊢;by_cases q1:V=0
 case neg=>
  have e1:(V != 0)=true:=by simp[q1]
  rw[if_pos q1];refine gon ?_;refine aC (c0) ?_;refine gon ?_;refine aC (c1) ?_;refine aE e1 ?_;exact gS (by first|rfl|exact evd) (by first|rfl|exact evd)
 subst q1;rw[if_neg (by simp)];by_cases q2:t.cp.ep<s.j.ep
 ·have e2:=ak q2;rw[if_pos q2];refine gon ?_;refine aC (c0) ?_;refine gon ?_;refine aC (c1) ?_;refine dk ?_;refine aE e2 ?_;exact gS (by first|rfl|exact evd) (by first|rfl|exact evd)
 have e2:=au q2;rw[if_neg q2];by_cases q3:T2=0
 case neg=>
  have e3:(T2 != 0)=true:=by simp[q3]
  rw[if_pos q3];refine gon ?_;refine aC (c0) ?_;refine gon ?_;refine aC (c1) ?_;refine dk ?_;refine aD e2 ?_;refine aC (c0) ?_;refine gon ?_;refine aC (c2) ?_;refine aE e3 ?_;exact gS (by first|rfl|exact evd) (by first|rfl|exact evd)
 subst q3;rw[if_neg (by simp)];refine gon ?_;refine aC (c0) ?_;refine gon ?_;refine aC (c1) ?_;refine dk ?_;refine aD e2 ?_;refine aC (c0) ?_;refine gon ?_;refine aC (c2) ?_;refine bh ?_;exact af
theorem F4(s:am)(m:Nat)(h:bi s m)(x:eR)(h1:x.fst.vals.length<=100)(h2:x.snd.vals.length<=100):PC Tryz.prog 50 [.agg (aw s.a),.agg (dq x.a)] (.tup [.agg (aw (di s x).1.a),.int .i64 (di s x).2]):=by
 refine PC.fact 9 Hm (by simp) puA puA ?_;unfold vx;refine bd ?_;have c0:=qp s;have c1:=Pe x.a x.fst.vals x.snd.vals false false s.cfg.bals.length rfl rfl h1 h2;have c2:=xA x.a x.fst.vals x.snd.vals false false rfl rfl h1 h2;have hcl:(ee x.fst.vals x.snd.vals x.fst.vals.length).length<=x.fst.vals.length:=pY _ _ _;have hqq:=h.qq;have hii:=h.ii;have c3:=O0 s.eqv (ee x.fst.vals x.snd.vals x.fst.vals.length) (by omega);unfold di;generalize evE x.a x.fst.vals x.snd.vals s.cfg.bals.length=V at *;generalize ee x.fst.vals x.snd.vals x.fst.vals.length=C at *;generalize mV s.eqv C=U at *;generalize IntKind.i64.wrap ((U.length:Int)-s.eqv.length)=N at *;by_cases q1:V=0
 case neg=>
  have e1:(V != 0)=true:=by simp[q1]
  rw[if_pos q1];refine gon ?_;refine aC (c0) ?_;refine gon ?_;refine aC (c1) ?_;refine aE e1 ?_;exact gS (by first|rfl|exact evd) (by first|rfl|exact evd)
 subst q1;rw[if_neg (by simp)];by_cases q2:N=0
 ·have e2:(N==0)=true:=by simp[q2]
  rw[if_pos q2];refine gon ?_;refine aC (c0) ?_;refine gon ?_;refine aC (c1) ?_;refine bh ?_;refine aC (c2) ?_;refine gon ?_;refine aC (c3) ?_;refine aE e2 ?_;exact gS (by first|rfl|exact evd) (by first|rfl|exact evd)
 ·have e2:(N==0)=false:=by simp[q2]
  rw[if_neg q2];refine gon ?_;refine aC (c0) ?_;refine gon ?_;refine aC (c1) ?_;refine bh ?_;refine aC (c2) ?_;refine gon ?_;refine aC (c3) ?_;refine aD e2 ?_;exact af
end Go.Proofs.YtnjdpnfglgcjcaaGreat
