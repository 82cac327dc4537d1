/-
 My texts Na, Nb, Nc, joined.
-/
import Derived.Test.YtkgimpdgncakjaaGreatV7
namespace Go.Proofs.YtkgimpdgncakjaaGreat
open Go Go.FH Go.RowKit
set_option linter.unusedVariables false
set_option linter.unusedSimpArgs false
set_option maxRecDepth 8000
set_option maxHeartbeats 4000000
theorem ic_(s:ai_)(h:StR s):PC Tryz.prog 86 [.agg (aj_ s.a)] (.int .i64 (bC_ s)):=by
 refine PC.fact 4 tl_ (by simp) puA puA ?_;unfold li_;refine bd ?_;have hb:=h.bo;obtain⟨R,hR⟩:∃R,R=bC_ s:=⟨_,rfl⟩
 rw[←hR];unfold bC_ ca_ at hR;try refine aa_ ?_
 refine ao_ (fun i:Nat=>[(3,.int .i64 i)]) (fun _=>[.var (aj_ s.a)]) (fun i=>s.orph.length-i) (fun i=>i≤s.orph.length∧R=lH_ (dH_ (fun i=>decide (0≤ak_ s.nodes (ce_ s.orph i).parent)) (s.orph.length-i) i)) 0 ⟨Nat.zero_le _,hR⟩ ?_ ?_
 ·exact ST_ [] [0]
 clear hR;rintro i ⟨hi,hn⟩;refine cC_ ?_;by_cases h1:i<s.orph.length
 ·have e1:=inT h1
  have hw:=af_ h1 (by omega);have hgd:(rows al_ s.orph).getD i []=al_ (ce_ s.orph i):=aB_ (f:=al_) cg_ h1;have c1:=by_ s.nodes (ce_ s.orph i).parent h.bn;repeat(first|refine aa_ ?_|simp only[go_sem,e1])
  refine ac_ ?_;repeat(first|refine aa_ ?_|simp only[go_sem,hgd])
  refine as_ (c1) ?_;try refine aa_ ?_
  by_cases q:0≤ak_ s.nodes (ce_ s.orph i).parent
  ·have e2:decide (0≤ak_ s.nodes (ce_ s.orph i).parent)=true:=decide_eq_true q;rw[ej_ h1 e2]at hn;subst hn;repeat(first|refine aa_ ?_|simp only[go_sem,e2])
   refine Rn_ ?_
   exact ag_
  ·have e2:decide (0≤ak_ s.nodes (ce_ s.orph i).parent)=false:=decide_eq_false q;rw[dU_ h1 e2]at hn;repeat(first|refine aa_ ?_|simp only[go_sem,e2])
   refine ab_ ?_;repeat(first|refine aa_ ?_|simp only[go_sem,hw])
   refine⟨i+1,⟨h1,hn⟩,by omega,?_⟩;exact ST_ [] [0]
 ·obtain rfl:i=s.orph.length:=by omega
  have e1:=inF (s.orph.length);rw[fa_]at hn;subst hn;repeat(first|refine aa_ ?_|simp only[go_sem,e1])
  refine Rm_ ?_
  exact ag_
theorem zC_(s:ai_)(b:Blk)(h:StR s)(h1:StR (ch_ s (dM_ s.nodes b (cz_ b)).1)):PC Tryz.prog 85 [.agg (aj_ s.a),.agg (al_ b)] (.agg (aj_ (cO_ s b).a)):=by
 refine PC.fact 5 vd_ (by simp) puA puA ?_;unfold mh_;refine bd ?_;have c1:=Hy_ b;have c2:=JT_ s.nodes b (cz_ b) h.bn;have c3:=wO_ (ch_ s (dM_ s.nodes b (cz_ b)).1) b.just b.fin h1;have h2:=h1.upd b.just b.fin
 have hI:cO_ s b=if aU_ (bp_ (ch_ s (dM_ s.nodes b (cz_ b)).1) b.just b.fin) b.slot<aU_ (bp_ (ch_ s (dM_ s.nodes b (cz_ b)).1) b.just b.fin) (bp_ (ch_ s (dM_ s.nodes b (cz_ b)).1) b.just b.fin).now
  then bp_ (bp_ (ch_ s (dM_ s.nodes b (cz_ b)).1) b.just b.fin) b.pul.j b.pul.f else bp_ (ch_ s (dM_ s.nodes b (cz_ b)).1) b.just b.fin:=rfl
 rw[hI];clear hI;unfold ch_ at c3;generalize cz_ b=st at *;generalize dM_ s.nodes b st=T at *;obtain⟨T1,T2⟩:=T;show Tri _ _ _ _ (PQ _ (.agg (aj_ (ai_.a (if aU_ (bp_ (ch_ s T1) b.just b.fin) b.slot<aU_ (bp_ (ch_ s T1) b.just b.fin) (bp_ (ch_ s T1) b.just b.fin).now then bp_ (bp_ (ch_ s T1) b.just b.fin) b.pul.j b.pul.f else bp_ (ch_ s T1) b.just b.fin))))) _ _
 change StR (bp_ (ch_ s T1) b.just b.fin)at h2
 change PC _ _ _ (.agg (aj_ (bp_ (ch_ s T1) b.just b.fin).a))at c3
 generalize bp_ (ch_ s T1) b.just b.fin=S2 at *;have c4:=dS_ S2 b.slot h2.spe;have c5:=dS_ S2 S2.now h2.spe;have c6:=wO_ S2 b.pul.j b.pul.f h2;try refine aa_ ?_
 refine as_ (c1) ?_;try refine aa_ ?_
 refine as_ (c2) ?_;try refine aa_ ?_
 refine Sv_ c3 ?_
 refine as_ (c4) ?_;try refine aa_ ?_
 refine as_ (c5) ?_;try refine aa_ ?_
 by_cases q:aU_ S2 b.slot<aU_ S2 S2.now
 ·have e1:decide (aU_ S2 b.slot<aU_ S2 S2.now)=true:=decide_eq_true q;rw[if_pos q];repeat(first|refine aa_ ?_|simp only[go_sem,e1])
  refine Rn_ ?_
  refine Sv_ c6 ?_
  exact ag_
 ·have e1:decide (aU_ S2 b.slot<aU_ S2 S2.now)=false:=decide_eq_false q;rw[if_neg q];repeat(first|refine aa_ ?_|simp only[go_sem,e1])
  refine Rm_ ?_
  exact ag_
theorem zB_(s:ai_)(b:Blk):(cO_ s b).orph.length≤s.orph.length:=by
 unfold cO_;have h1:=(rh_ (ch_ s (dM_ s.nodes b (cz_ b)).1) b.just b.fin).1;have h2:=(rh_ (bp_ (ch_ s (dM_ s.nodes b (cz_ b)).1) b.just b.fin) b.pul.j b.pul.f).1;have h3:(ch_ s (dM_ s.nodes b (cz_ b)).1).orph.length=s.orph.length:=rfl;split<;>omega
theorem kU_{p:ai_×List Rt}(h0:0≤bC_ p.1):(waitR p).1.orph.length+1≤p.1.orph.length:=by
 have h1:=nk_ p.1;have h2:=Ll_ p.1.orph (i:=(bC_ p.1).toNat) (by omega);have h3:=zB_ (withO p.1 (takeO p.1.orph (bC_ p.1).toNat)) (ce_ p.1.orph (bC_ p.1).toNat);have h4:(withO p.1 (takeO p.1.orph (bC_ p.1).toNat)).orph.length=(takeO p.1.orph (bC_ p.1).toNat).length:=rfl;unfold waitR;split
 ·show (cO_ _ _).orph.length+1≤_;omega
 ·show (takeO p.1.orph (bC_ p.1).toNat).length+1≤_;omega
theorem Fs_:∀ (f g:Nat) (p:ai_×List Rt),p.1.orph.length<f→p.1.orph.length<g→waitG f p=waitG g p
 |0,_,_,h,_=>by omega
 |_,0,_,_,h=>by omega
 | f + 1, g + 1, p, h1, h2 => by
   unfold waitG;split
   ·rfl
   ·rename_i hw;have:=kU_ (p:=p) (by omega);exact Fs_ f g (waitR p) (by omega) (by omega)
theorem wR_{p:ai_×List Rt}(h0:0≤bC_ p.1):waitG (p.1.orph.length+1) p=waitG ((waitR p).1.orph.length+1) (waitR p):=by
 have h1:=kU_ h0;conv=>lhs;unfold waitG
 rw[if_neg (by omega)];exact Fs_ _ _ _ (by omega) (by omega)
theorem Dh_(s:ai_)(b:Blk)(h:StR s):ap_ Tryz.prog 84 [.agg (aj_ { s.a with orph:=.hs 238 0 0 s.orph.length }),.agg (al_ b)] [.vec 238 (rows al_ s.orph)] (.int .i64 (aI_ s b)) [.vec 238 (rows al_ s.orph)]:=by
 refine ap_.lend rfl ?_;have ht:List.take s.orph.length (rows al_ s.orph)=rows al_ s.orph:=List.take_of_length_le (by simp);(try simp only[go_sem,ht,List.length_cons,List.length_nil,List.range_succ,List.range_zero])
 exact sz_ s b h
theorem CL_(s:ai_)(h:StR s):ap_ Tryz.prog 86 [.agg (aj_ { s.a with orph:=.hs 238 0 0 s.orph.length })] [.vec 238 (rows al_ s.orph)] (.int .i64 (bC_ s)) [.vec 238 (rows al_ s.orph)]:=by
 refine ap_.lend rfl ?_;have ht:List.take s.orph.length (rows al_ s.orph)=rows al_ s.orph:=List.take_of_length_le (by simp);(try simp only[go_sem,ht,List.length_cons,List.length_nil,List.range_succ,List.range_zero])
 exact ic_ s h
theorem Gq_(s:ai_)(b:Blk)(h:StR s)(h1:StR (ch_ s (dM_ s.nodes b (cz_ b)).1)):ap_ Tryz.prog 85 [.agg (aj_ { s.a with orph:=.hs 238 0 0 s.orph.length }),.agg (al_ b)] [.vec 238 (rows al_ s.orph)] (.agg (aj_ (cO_ s b).a)) [.gone]:=by
 have ht:List.take s.orph.length (rows al_ s.orph)=rows al_ s.orph:=List.take_of_length_le (by simp)
 have:=ap_.give (σ:=[.vec 238 (rows al_ s.orph)]) (args:=[.agg (aj_ { s.a with orph:=.hs 238 0 0 s.orph.length }),.agg (al_ b)]) (r:=_) (by
  (try simp only[go_sem,ht,List.length_cons,List.length_nil,List.range_succ,List.range_zero])
  exact zC_ s b h h1)
 exact this
def NA_(b:Blk)(p:ai_×List Rt)(o:Bool):St:=if o then [.var (aj_ p.1.a),.var (al_ b),.var (aj_ eS_),.vec 32 (rows rtc p.2)]else [.var (aj_ p.1.a),.var (al_ b),.var (aj_ eS_)]
def NB_(p:ai_×List Rt)(o:Bool):AV:=if o then .hs 32 3 0 p.2.length else .sl 32 true (rows rtc p.2)
theorem OH_(S:ai_)(m:Nat)(hS:aJ_ S m)(b:Blk)(hbu:eL_ m b)(hlo:S.orph.length≤3)(R:ai_×List Rt)(hR0:R=waitG (S.orph.length+1) (S,[b.root])):
 Tri Tryz.prog 108 0 (ba_.tl 7) (PQ [.cell 4 true 150,.tmp 5,.tmp 6] (.tup [.agg (aj_ R.1.a),.sl 32 false (rows rtc R.2),.int .i64 0])) ⟨12,[.dead,.dead,.ptr 0 0,.ptr 1 0,.ptr 2 0,.dead,.dead,.dead,.dead,.dead,.dead,.dead],[]⟩ [.var (aj_ S.a),.var (al_ b),.var (aj_ eS_)]:=by
 unfold ba_;refine bd ?_;simp only[ad_.tl];have c0:=ic_ S hS.r;try refine aa_ ?_
 refine Sv_ c0 ?_
 refine ao_ (fun x:(ai_×List Rt)×Bool=>[(9,NB_ x.1 x.2),(10,.int .i64 (bC_ x.1.1)),(11,.dead)]) (fun x=>NA_ b x.1 x.2) (fun x=>x.1.1.orph.length)
  (fun x=>aJ_ x.1.1 m∧R=waitG (x.1.1.orph.length+1) x.1∧x.1.2.length+x.1.1.orph.length≤10) ((S,[b.root]),false) ⟨hS,hR0,by simp only[List.length_cons,List.length_nil];omega⟩ ?_ ?_
 ·show GC _ _ _ ⟨_,fK_ [(9,.sl 32 true [rtc b.root]),(10,.int .i64 (bC_ S)),(11,.dead)] _,[]⟩ [.var (aj_ S.a),.var (al_ b),.var (aj_ eS_)]
  exact ST_ [] [0,1,2]
 clear hR0 c0;rintro⟨⟨S1,L⟩,o⟩ ⟨hi,hR,hl⟩;dsimp only at hi hR hl ⊢;have hwb:=nk_ S1;by_cases hw:bC_ S1<0
 ·have hR':R=(S1,L):=by rw[hR];unfold waitG;rw[if_pos hw]
  subst hR';clear hR;generalize bC_ S1=W at *;have e1:decide (W ≥ 0)=false:=decide_eq_false (by omega);have e2:decide (0≤W)=false:=decide_eq_false (by omega);have ht:List.take L.length (rows rtc L)=rows rtc L:=List.take_of_length_le (by simp);cases o with
  | true =>
    show Tri _ _ _ _ _ ⟨_,fK_ [(9,.hs 32 3 0 L.length),(10,_),(11,.dead)] _,[]⟩ [.var (aj_ S1.a),.var (al_ b),.var (aj_ eS_),.vec 32 (rows rtc L)]
    (try simp only[bz_,bt_,List.set_cons_zero,List.set_cons_succ])
    repeat(first|refine aa_ ?_|simp only[go_sem,e1,e2])
    refine Rm_ ?_
    refine⟨_,(by first|rfl|exact evd),.inl ?_⟩;(try simp only[go_sem,Nat.reduceAdd,Nat.reduceSub,Nat.reduceMul,Nat.reduceLT,Nat.reduceLeDiff,Nat.reduceEqDiff,reduceIte,Int.reduceToNat,Int.reduceLT,Int.reduceLE,Int.reduceEq,Int.reduceNeg,reduceCtorEq,Int.reduceBEq,Int.reduceBNe,ht])
    all_goals rfl
  | false =>
    show Tri _ _ _ _ _ ⟨_,fK_ [(9,.sl 32 true (rows rtc L)),(10,_),(11,.dead)] _,[]⟩ [.var (aj_ S1.a),.var (al_ b),.var (aj_ eS_)]
    (try simp only[bz_,bt_,List.set_cons_zero,List.set_cons_succ])
    repeat(first|refine aa_ ?_|simp only[go_sem,e1,e2])
    refine Rm_ ?_
    refine⟨_,(by first|rfl|exact evd),.inr ⟨.tup [.agg (aj_ S1.a),.sl 32 true (rows rtc L),.int .i64 0],?_,⟨S1.pul,dQ_ L,trivial,trivial⟩,Wk.tup ⟨Wk.refl _,Wk.open_ _ _ _,Wk.refl _,trivial⟩⟩⟩;(try simp only[go_sem,Nat.reduceAdd,Nat.reduceSub,Nat.reduceMul,Nat.reduceLT,Nat.reduceLeDiff,Nat.reduceEqDiff,reduceIte,Int.reduceToNat,Int.reduceLT,Int.reduceLE,Int.reduceEq,Int.reduceNeg,reduceCtorEq,Int.reduceBEq,Int.reduceBNe])
    all_goals rfl
 ·have hst:=wR_ (p:=(S1,L)) (show 0≤bC_ S1 by omega)
  dsimp only at hst;rw[hst]at hR;clear hst;have hro:=kU_ (p:=(S1,L)) (by show 0≤bC_ S1;omega);have hI:aJ_ (waitR (S1,L)).1 m:=aJ_.waitR hi (by show 0≤bC_ S1;omega);have hwr:waitR (S1,L)=if aI_ (withO S1 (takeO S1.orph (bC_ S1).toNat)) (ce_ S1.orph (bC_ S1).toNat)=0 then (cO_ (withO S1 (takeO S1.orph (bC_ S1).toNat)) (ce_ S1.orph (bC_ S1).toNat),L++[(ce_ S1.orph (bC_ S1).toNat).root])else (withO S1 (takeO S1.orph (bC_ S1).toNat),L):=rfl
  obtain⟨u,hu⟩:=Int.eq_ofNat_of_zero_le (show 0≤bC_ S1 by omega);rw[hu]at hwr hwb ⊢;rw[Int.toNat_natCast]at hwr;have hul:u<S1.orph.length:=by omega
  have h2:=hi.takeO u;have hbo:=hi.uo _ (dA_ cg_ hul);have hgd:(rows al_ S1.orph).getD u []=al_ (ce_ S1.orph u):=aB_ (f:=al_) cg_ hul;change eL_ m (ce_ S1.orph u)at hbo
  generalize ce_ S1.orph u=ob at *;have e2:decide (0≤(u:Int))=true:=decide_eq_true (by omega);have hw1:IntKind.i64.wrap ((u:Int)+1)=((u+1:Nat):Int):=ax_ (by omega) (by omega);have ht1:List.take u (rows al_ S1.orph)=rows al_ (S1.orph.take u):=nB_ _ _ _;have ht2:List.drop (u+1) (rows al_ S1.orph)=rows al_ (S1.orph.drop (u+1)):=nA_ _ _ _;have ht3:rows al_ (S1.orph.take u)++rows al_ (S1.orph.drop (u+1))=rows al_ (takeO S1.orph u):=wr_ _ _ _;have ht4:(S1.orph.take u).length+(S1.orph.drop (u+1)).length=(takeO S1.orph u).length:=by unfold takeO;rw[List.length_append]
  have ht5:List.take (S1.orph.length-(u+1)) (rows al_ (S1.orph.drop (u+1)))=rows al_ (S1.orph.drop (u+1)):=List.take_of_length_le (by simp);have hlo:(takeO S1.orph u).length≤3:=h2.oo;have hoo:=hi.oo;have c1:=Dh_ (withO S1 (takeO S1.orph u)) ob h2.r;have c2:=fun hc=>Gq_ (withO S1 (takeO S1.orph u)) ob h2.r (h2.insN hc hbo).r
  have c3:=CL_ (withO S1 (takeO S1.orph u)) h2.r;unfold withO at c1 c2 c3;dsimp only at c1 c2 c3;have ht6:List.take (takeO S1.orph u).length (rows al_ (takeO S1.orph u))=rows al_ (takeO S1.orph u):=List.take_of_length_le (by simp);have hsn:rows rtc L++[rtc ob.root]=rows rtc (L++[ob.root]):=bF_ rtc L ob.root;have hT0:takeO S1.orph u=takeO S1.orph u:=rfl;cases o with
  | true =>
    show Tri _ _ _ _ _ ⟨_,fK_ [(9,.hs 32 3 0 L.length),(10,_),(11,.dead)] _,[]⟩ [.var (aj_ S1.a),.var (al_ b),.var (aj_ eS_),.vec 32 (rows rtc L)]
    (try simp only[bz_,bt_,List.set_cons_zero,List.set_cons_succ])
    repeat(first|refine aa_ ?_|simp only[go_sem,e2])
    refine ac_ ?_;repeat(first|refine aa_ ?_|simp only[go_sem,hgd,hw1,ht1,ht2,ht3,ht4,ht5])
    refine bj_ [6] (c1) evd (aV_.mk' (by simp) evd) ?_;refine evg ?_;try refine aa_ ?_
    by_cases hc:aI_ (withO S1 (takeO S1.orph u)) ob=0
    ·have e3:(aI_ (withO S1 (takeO S1.orph u)) ob==0)=true:=by simp[hc]
     rw[if_pos hc]at hwr;rw[hwr]at hR hro hI;dsimp only at hR hro hI;have c4:=c2 hc;have c5:=ic_ _ hI.r;unfold withO at e3;change ap_ _ _ _ _ (.agg (aj_ (cO_ (withO S1 (takeO S1.orph u)) ob).a)) _ at c4
     generalize cO_ (withO S1 (takeO S1.orph u)) ob=S3 at *;repeat(first|refine aa_ ?_|simp only[go_sem,e3])
     refine Rn_ ?_
     refine bj_ [6] (c4) evd (aV_.mk' (by simp) evd) ?_;refine evg ?_;repeat(first|refine aa_ ?_|simp only[go_sem,hsn])
     refine Sv_ c5 ?_
     refine⟨((S3,L++[ob.root]),true),⟨hI,hR,by simp only[List.length_append,List.length_cons,List.length_nil];omega⟩,by dsimp only;omega,?_⟩;(try simp only[NB_,NA_,if_true,if_false,Bool.false_eq_true,withO])
     exact ST_ [] [0,1,2,7]
    ·have e3:(aI_ (withO S1 (takeO S1.orph u)) ob==0)=false:=by simp[hc]
     rw[if_neg hc]at hwr;rw[hwr]at hR hro hI;dsimp only at hR hro hI;unfold withO at e3;repeat(first|refine aa_ ?_|simp only[go_sem,e3])
     refine Rm_ ?_
     refine bj_ [6] (c3) evd (aV_.mk' (by simp) evd) ?_;refine evg ?_;try refine aa_ ?_
     refine⟨((withO S1 (takeO S1.orph u),L),true),⟨hI,hR,by dsimp only;omega⟩,by dsimp only;omega,?_⟩;(try simp only[NB_,NA_,if_true,if_false,Bool.false_eq_true,withO])
     refine GC.mk' [6] [0,1,2,3] (by simp) rfl (by simp) (by simp) (by(try simp only[go_sem,Nat.reduceAdd,Nat.reduceSub,Nat.reduceMul,Nat.reduceLT,Nat.reduceLeDiff,Nat.reduceEqDiff,reduceIte,Int.reduceToNat,Int.reduceLT,Int.reduceLE,Int.reduceEq,Int.reduceNeg,reduceCtorEq,Int.reduceBEq,Int.reduceBNe,ht6]);all_goals first|rfl|exact⟨rfl,rfl⟩) (by(try simp only[go_sem,Nat.reduceAdd,Nat.reduceSub,Nat.reduceMul,Nat.reduceLT,Nat.reduceLeDiff,Nat.reduceEqDiff,reduceIte,Int.reduceToNat,Int.reduceLT,Int.reduceLE,Int.reduceEq,Int.reduceNeg,reduceCtorEq,Int.reduceBEq,Int.reduceBNe,ht6]);all_goals rfl)
  | false =>
    show Tri _ _ _ _ _ ⟨_,fK_ [(9,.sl 32 true (rows rtc L)),(10,_),(11,.dead)] _,[]⟩ [.var (aj_ S1.a),.var (al_ b),.var (aj_ eS_)]
    (try simp only[bz_,bt_,List.set_cons_zero,List.set_cons_succ])
    repeat(first|refine aa_ ?_|simp only[go_sem,e2])
    refine ac_ ?_;repeat(first|refine aa_ ?_|simp only[go_sem,hgd,hw1,ht1,ht2,ht3,ht4,ht5])
    refine bj_ [5] (c1) evd (aV_.mk' (by simp) evd) ?_;refine evg ?_;try refine aa_ ?_
    by_cases hc:aI_ (withO S1 (takeO S1.orph u)) ob=0
    ·have e3:(aI_ (withO S1 (takeO S1.orph u)) ob==0)=true:=by simp[hc]
     rw[if_pos hc]at hwr;rw[hwr]at hR hro hI;dsimp only at hR hro hI;have c4:=c2 hc;have c5:=ic_ _ hI.r;unfold withO at e3;change ap_ _ _ _ _ (.agg (aj_ (cO_ (withO S1 (takeO S1.orph u)) ob).a)) _ at c4
     generalize cO_ (withO S1 (takeO S1.orph u)) ob=S3 at *;repeat(first|refine aa_ ?_|simp only[go_sem,e3])
     refine Rn_ ?_
     refine bj_ [5] (c4) evd (aV_.mk' (by simp) evd) ?_;refine evg ?_;repeat(first|refine aa_ ?_|simp only[go_sem,hsn])
     refine Sv_ c5 ?_
     refine⟨((S3,L++[ob.root]),true),⟨hI,hR,by simp only[List.length_append,List.length_cons,List.length_nil];omega⟩,by dsimp only;omega,?_⟩;(try simp only[NB_,NA_,if_true,if_false,Bool.false_eq_true,withO])
     exact ST_ [] [0,1,2,6]
    ·have e3:(aI_ (withO S1 (takeO S1.orph u)) ob==0)=false:=by simp[hc]
     rw[if_neg hc]at hwr;rw[hwr]at hR hro hI;dsimp only at hR hro hI;unfold withO at e3;repeat(first|refine aa_ ?_|simp only[go_sem,e3])
     refine Rm_ ?_
     refine bj_ [5] (c3) evd (aV_.mk' (by simp) evd) ?_;refine evg ?_;try refine aa_ ?_
     refine⟨((withO S1 (takeO S1.orph u),L),false),⟨hI,hR,by dsimp only;omega⟩,by dsimp only;omega,?_⟩;(try simp only[NB_,NA_,if_true,if_false,Bool.false_eq_true,withO])
     refine GC.mk' [5] [0,1,2] (by simp) rfl (by simp) (by simp) (by(try simp only[go_sem,Nat.reduceAdd,Nat.reduceSub,Nat.reduceMul,Nat.reduceLT,Nat.reduceLeDiff,Nat.reduceEqDiff,reduceIte,Int.reduceToNat,Int.reduceLT,Int.reduceLE,Int.reduceEq,Int.reduceNeg,reduceCtorEq,Int.reduceBEq,Int.reduceBNe,ht6]);all_goals first|rfl|exact⟨rfl,rfl⟩) (by(try simp only[go_sem,Nat.reduceAdd,Nat.reduceSub,Nat.reduceMul,Nat.reduceLT,Nat.reduceLeDiff,Nat.reduceEqDiff,reduceIte,Int.reduceToNat,Int.reduceLT,Int.reduceLE,Int.reduceEq,Int.reduceNeg,reduceCtorEq,Int.reduceBEq,Int.reduceBNe,ht6]);all_goals rfl)
theorem tX_{fr:Fr}{σ:St}{rs:List ep_}{l:List AV}{n:Int}(hl:ci_ fr σ rs=some l)(hv:fz σ (List.range σ.length) (eD_ l)=.tup [.agg (aj_ eS_),.sl 0 true [],.int .i64 n]):PQ rs (.tup [.agg (aj_ dd_.a),.sl 32 false (rows rtc []),.int .i64 n]) .ret fr σ:=
 ⟨l,hl,.inr ⟨_,hv,(by simp[PuL,Pu,du_,eS_,aj_,cM_,gP_,cf_,gJ_,dv_,lz_,bm_,cp0]),Wk.tup ⟨CO_,Wk.empty _ _ _,Wk.refl _,trivial⟩⟩⟩
theorem ur_(s:ai_)(m:Nat)(h:aJ_ s m)(b:Blk)(hb:eL_ m b):PC Tryz.prog 21 [.agg (aj_ s.a),.agg (al_ b)] (.tup [.agg (aj_ (aT_ s b).1.a),.sl 32 false (rows rtc (aT_ s b).2.1),.int .i64 (aT_ s b).2.2]):=by
 have tl:=OH_;refine PC.fact 12 xM_ (by simp) puA ⟨(aT_ s b).1.pul,dQ_ _,trivial,trivial⟩ ?_;have hc:ba_=.seq ba_.hd (.seq (ba_.tl 1).hd (.seq (ba_.tl 2).hd (.seq (ba_.tl 3).hd (.seq (ba_.tl 4).hd (.seq (ba_.tl 5).hd (.seq (ba_.tl 6).hd (ba_.tl 7))))))):=rfl;rw[hc];clear hc;generalize ba_.tl 7=cT at *;unfold ba_;refine bd ?_;simp only[ad_.tl,ad_.hd];have c1:=sz_ s b h.r;have hoo:=h.oo;unfold aT_;by_cases q1:aI_ s b=10
 ·rw[if_pos q1]
  rw[q1]at c1;have hlo:=h.cfg.lo;by_cases q2:s.cfg.lim.orph≤s.orph.length
  ·have e1:decide ((s.orph.length:Int) ≥ s.cfg.lim.orph)=true:=decide_eq_true q2;have e2:decide (s.cfg.lim.orph≤(s.orph.length:Int))=true:=decide_eq_true q2;rw[if_pos q2];try refine aa_ ?_
   refine Sv_ c1 ?_
   refine ac_ ?_;repeat(first|refine aa_ ?_|simp only[go_sem,e1,e2])
   refine Rn_ ?_
   exact tX_ (by first|rfl|exact evd) (by first|rfl|exact evd)
  ·have e1:decide ((s.orph.length:Int) ≥ s.cfg.lim.orph)=false:=decide_eq_false q2;have e2:decide (s.cfg.lim.orph≤(s.orph.length:Int))=false:=decide_eq_false q2;have hsn:rows al_ s.orph++[al_ (noT b)]=rows al_ (s.orph++[noT b]):=bF_ al_ s.orph (noT b);have ht:∀l:List Blk,List.take l.length (rows al_ l)=rows al_ l:=fun l=>List.take_of_length_le (by simp)
   have ht2:List.take (s.orph.length+1) (rows al_ (s.orph++[noT b]))=rows al_ (s.orph++[noT b]):=List.take_of_length_le (by simp);have hno:al_ { pul:=b.pul,slot:=b.slot,root:=b.root,parent:=b.parent,payload:=b.payload,diff:=b.diff,pdiff:=b.pdiff,just:=b.just,fin:=b.fin,timely:=false }=al_ (noT b):=rfl;rw[if_neg q2];try refine aa_ ?_
   refine Sv_ c1 ?_
   refine ac_ ?_;repeat(first|refine aa_ ?_|simp only[go_sem,e1,e2])
   refine ab_ ?_;repeat(first|refine aa_ ?_|simp only[go_sem,hno,hsn,ht])
   refine⟨_,(by first|rfl|exact evd),.inr ⟨.tup [.agg (aj_ (withO s (s.orph++[noT b])).a),.sl 0 true [],.int .i64 0],?_,⟨(withO s (s.orph++[noT b])).pul,trivial,trivial,trivial⟩,Wk.tup ⟨Wk.refl _,Wk.empty _ _ _,Wk.refl _,trivial⟩⟩⟩;(try simp only[go_sem,Nat.reduceAdd,Nat.reduceSub,Nat.reduceMul,Nat.reduceLT,Nat.reduceLeDiff,Nat.reduceEqDiff,reduceIte,Int.reduceToNat,Int.reduceLT,Int.reduceLE,Int.reduceEq,Int.reduceNeg,reduceCtorEq,Int.reduceBEq,Int.reduceBNe,ht2])
   all_goals rfl
 rw[if_neg q1];have n1:(aI_ s b==10)=false:=by simp[q1]
 by_cases q2:aI_ s b=0
 case neg=>
  rw[if_pos q2];have e1:(aI_ s b != 0)=true:=by simp[q2]
  generalize aI_ s b=E at *;try refine aa_ ?_
  refine ae_ c1 ?_;repeat(first|refine aa_ ?_|simp only[go_sem,n1])
  refine ab_ ?_;repeat(first|refine aa_ ?_|simp only[go_sem,e1])
  refine Rn_ ?_
  exact tX_ (by first|rfl|exact evd) (by first|rfl|exact evd)
 rw[if_neg (by simp[q2])];have hI:=h.insN q2 hb;have hins:=h.ins q2 hb;have c2:=zC_ s b h.r hI.r;have hor:=zB_ s b;rw[q2]at c1;clear n1 q1 q2 hI;have hBI:blockI s b=if b.timely=true∧b.slot=s.now∧s.boost=rt0 then withB (cO_ s b) b.root else cO_ s b:=rfl
 obtain⟨B,hB,hBI2⟩:∃B:Bool,(B=true↔(b.timely=true∧b.slot=s.now∧s.boost=rt0))∧blockI s b=if B=true then withB (cO_ s b) b.root else cO_ s b:=by
  by_cases q:b.timely=true∧b.slot=s.now∧s.boost=rt0
  ·exact⟨true,by simp[q],by rw[hBI,if_pos q,if_pos rfl]⟩
  ·exact⟨false,by simp[q],by rw[hBI,if_neg q,if_neg (by simp)]⟩
 rw[hBI2];clear hBI hBI2;generalize cO_ s b=S at *
 have key:∀ (ts:List (Nat×AV)),Tri Tryz.prog 108 0 (.seq ((ba_.tl 5).hd) (.seq (ba_.tl 6).hd cT)) (PQ [.cell 4 true 150,.tmp 5,.tmp 6] (.tup [.agg (aj_ (waitG ((if B=true then withB S b.root else S).orph.length+1) ((if B=true then withB S b.root else S),[b.root])).1.a),.sl 32 false (rows rtc (waitG ((if B=true then withB S b.root else S).orph.length+1) ((if B=true then withB S b.root else S),[b.root])).2),.int .i64 0]))
  ⟨12,[.agg (aj_ s.a),.agg (al_ b),.ptr 0 0,.ptr 1 0,.ptr 2 0,.sl 0 true [],.int .i64 0,.int .i64 0,.bool B,.dead,.dead,.dead],ts⟩ [.var (aj_ s.a),.var (al_ b),.var (aj_ eS_)]:=by
  intro ts;unfold ba_;refine bd ?_;simp only[ad_.tl,ad_.hd];try refine aa_ ?_
  refine Sv_ c2 ?_
  cases B with
  | true =>
    have t2:=tl (withB S b.root) m (hins.withB _) b hb (by show S.orph.length≤3;omega) _ rfl;refine Rn_ ?_
    (try simp only[if_true])
    refine cH_ ?_ t2;unfold withB;exact ST_ [] [0,1,2]
  | false =>
    have t2:=tl S m hins b hb (by omega) _ rfl;refine Rm_ ?_
    (try simp only[Bool.false_eq_true,if_false])
    refine cH_ ?_ t2;exact ST_ [] [0,1,2]
 unfold ba_ at key;dsimp only[nfO,Int.reduceOfNat,Int.reduceNegSucc,wA,wB,wC,wD,wE,wF,wG,wH,wI,wJ,wK,wL,wM,wN,wO,wP,wQ,wR,wS,wT,wU,wV,wW,wX,wY,wZ,om,oo,on,omg,og,ong,ci,cu,cb,cf,fA,lA,lF,bI,bC,sO,eX,lN,iX,kA,kB,kC,sR,cN]at key;simp only[ad_.tl,ad_.hd]at key;clear tl c2 hins hor;try refine aa_ ?_
 refine Sv_ c1 ?_
 refine Rm_ ?_
 refine ab_ ?_;refine fu_ ?_;refine eU_ ?_;cases h1:b.timely with
 | false =>
   obtain rfl:B=false:=by rw[←Bool.not_eq_true,hB,h1];simp
   repeat(first|refine fu_ ?_|simp only[go_sem,h1])
   exact key _
 | true =>
   by_cases h2:b.slot=s.now
   ·have e2:(b.slot==s.now)=true:=by simp[h2]
    by_cases h3:s.boost=rt0
    ·have e3:decide (s.boost=rt0)=true:=decide_eq_true h3;obtain rfl:B=true:=hB.2 ⟨h1,h2,h3⟩;repeat(first|refine fu_ ?_|simp only[go_sem,h1,e2,e3])
     exact key _
    ·have e3:decide (s.boost=rt0)=false:=decide_eq_false h3;obtain rfl:B=false:=by rw[←Bool.not_eq_true,hB];exact fun h=>h3 h.2.2
     repeat(first|refine fu_ ?_|simp only[go_sem,h1,e2,e3])
     exact key _
   ·have e2:(b.slot==s.now)=false:=by simp[h2]
    obtain rfl:B=false:=by rw[←Bool.not_eq_true,hB];exact fun h=>h2 h.2.1
    repeat(first|refine fu_ ?_|simp only[go_sem,h1,e2])
    exact key _
theorem Df_{s:ai_}{a:aG_}(h:(cq_ s a).2=0):∀j∈a.vals,0≤j∧j<s.cfg.bals.length:=fun j hjm=>by
 have hv:cV_ a.vals s.cfg.bals.length=0:=by
  unfold cq_ at h;split at h
  ·rename_i h1;exact absurd h h1
  ·rename_i h1;simpa using h1
 obtain⟨u,hm,rfl⟩:=List.getElem_of_mem hjm;have:=(gN_ hv).2 u hm;rw[List.getD_eq_getElem?_getD,List.getElem?_eq_getElem hm,Option.getD_some]at this;omega
theorem LQ_(s:ai_)(m:Nat)(h:aJ_ s m)(a:aG_)(ha:a.vals.length≤1000000):PC Tryz.prog 33 [.agg (aj_ s.a),.agg (bi_ a.a)] (.tup [.agg (aj_ (rq_ s a).1.a),.int .i64 (rq_ s a).2]):=by
 refine PC.fact 9 uZ_ (by simp) puA puA ?_;unfold me_;refine bd ?_;have c1:=sy_ s a h.r ha;have c2:=fun(hz:(cq_ s a).2=0)=>De_ s a h.r ha (fun j hj=>by have:=Df_ hz j hj;have:=h.ll;omega)
 have haa:=h.aa;unfold rq_;generalize hC:cq_ s a=C at *;obtain⟨C1,C2⟩:=C;dsimp only at c1 c2 ⊢;by_cases q1:C2=0
 case neg=>
  have e1:(C2 != 0)=true:=by simp[q1]
  rw[if_pos q1];try refine aa_ ?_
  refine ae_ c1 ?_;repeat(first|refine aa_ ?_|simp only[go_sem,e1])
  refine Rn_ ?_
  exact jM_ (by first|rfl|exact evd) (by first|rfl|exact evd)
 subst q1;rw[if_neg (by simp)];cases C1 with
 | false =>
   have c3:=c2 rfl;try refine aa_ ?_
   refine Sv_ c1 ?_
   refine Rm_ ?_
   refine Rn_ ?_
   refine Sv_ c3 ?_
   (try simp only[if_true])
   exact ag_
 | true =>
   rw[if_neg (by simp)];by_cases q2:s.cfg.lim.early≤s.early.length
   ·have e2:decide (s.cfg.lim.early≤(s.early.length:Int))=true:=decide_eq_true q2;have e3:decide ((s.early.length:Int) ≥ s.cfg.lim.early)=true:=decide_eq_true q2;rw[if_pos q2];try refine aa_ ?_
    refine Sv_ c1 ?_
    refine Rm_ ?_
    refine ab_ ?_;repeat(first|refine aa_ ?_|simp only[go_sem,e2,e3])
    refine Rn_ ?_
    exact jM_ (by first|rfl|exact evd) (by first|rfl|exact evd)
   ·have e2:decide (s.cfg.lim.early≤(s.early.length:Int))=false:=decide_eq_false q2;have e3:decide ((s.early.length:Int) ≥ s.cfg.lim.early)=false:=decide_eq_false q2;have hsn:rows aG_.c s.early++[bi_ a.a]=rows aG_.c (s.early++[a]):=bF_ aG_.c s.early a;have ht:List.take (s.early.length+1) (rows aG_.c (s.early++[a]))=rows aG_.c (s.early++[a]):=List.take_of_length_le (by simp);have ht2:List.take s.early.length (rows aG_.c s.early)=rows aG_.c s.early:=List.take_of_length_le (by simp);have ht3:List.take a.vals.length (aq_ .i64 a.vals)=aq_ .i64 a.vals:=List.take_of_length_le (by simp);rw[if_neg q2];try refine aa_ ?_
    refine Sv_ c1 ?_
    refine Rm_ ?_
    refine ab_ ?_;repeat(first|refine aa_ ?_|simp only[go_sem,e2,e3])
    refine ab_ ?_;refine fu_ ?_;refine eU_ ?_;repeat(first|refine fu_ ?_|simp only[go_sem,ht2])
    refine cH_ (fr2:=⟨9,[.dead,.dead,.ptr 0 0,.ptr 1 0,.ptr 2 0,.int .i64 0,.dead,.dead,.dead],[]⟩) (σ2:=[.var (aj_ s.a),.var (bi_ a.a),.var (aj_ eS_)]) (GC.mk' [3] [0,1,2] (by simp) rfl (by simp) (by simp) (by(try simp only[go_sem,Nat.reduceAdd,Nat.reduceSub,Nat.reduceMul,Nat.reduceLT,Nat.reduceLeDiff,Nat.reduceEqDiff,reduceIte,Int.reduceToNat,Int.reduceLT,Int.reduceLE,Int.reduceEq,Int.reduceNeg,reduceCtorEq,Int.reduceBEq,Int.reduceBNe,ht3]);all_goals first|rfl|exact⟨rfl,rfl⟩) (by(try simp only[go_sem,Nat.reduceAdd,Nat.reduceSub,Nat.reduceMul,Nat.reduceLT,Nat.reduceLeDiff,Nat.reduceEqDiff,reduceIte,Int.reduceToNat,Int.reduceLT,Int.reduceLE,Int.reduceEq,Int.reduceNeg,reduceCtorEq,Int.reduceBEq,Int.reduceBNe,ht3]);all_goals rfl)) ?_;repeat(first|refine aa_ ?_|simp only[go_sem,hsn,ht2])
    refine⟨_,(by first|rfl|exact evd),.inl ?_⟩;(try simp only[go_sem,Nat.reduceAdd,Nat.reduceSub,Nat.reduceMul,Nat.reduceLT,Nat.reduceLeDiff,Nat.reduceEqDiff,reduceIte,Int.reduceToNat,Int.reduceLT,Int.reduceLE,Int.reduceEq,Int.reduceNeg,reduceCtorEq,Int.reduceBEq,Int.reduceBNe,ht])
    all_goals rfl
theorem Nx_(s:ai_)(m:Nat)(h:aJ_ s m)(t:au_)(ht:t.bals.length≤1000000):PC Tryz.prog 36 [.agg (aj_ s.a),.agg (bb_ t.a)] (.tup [.agg (aj_ (wi_ s t).1.a),.int .i64 (wi_ s t).2]):=by
 refine PC.fact 9 rC_ (by simp) puA puA ?_;unfold kb_;refine bd ?_;have c0:=sj_ s;have c1:=sl_ t s.cfg.bals.length ht;have c2:=EE_ s.tabs t s.cfg.bals.length s.cfg.lim.table h.r.bt ht;unfold wi_;generalize eF_ t s.cfg.bals.length=V at *;generalize iQ_ s.tabs t s.cfg.bals.length s.cfg.lim.table=T at *;obtain⟨T1,T2⟩:=T;dsimp only at c2 ⊢;by_cases q1:V=0
 case neg=>
  have e1:(V != 0)=true:=by simp[q1]
  rw[if_pos q1];try refine aa_ ?_
  refine as_ (c0) ?_;try refine aa_ ?_
  refine as_ (c1) ?_;repeat(first|refine aa_ ?_|simp only[go_sem,e1])
  refine Rn_ ?_
  exact jM_ (by first|rfl|exact evd) (by first|rfl|exact evd)
 subst q1;rw[if_neg (by simp)];by_cases q2:t.cp.ep<s.j.ep
 ·have e2:decide (t.cp.ep<s.j.ep)=true:=decide_eq_true q2;rw[if_pos q2];try refine aa_ ?_
  refine as_ (c0) ?_;try refine aa_ ?_
  refine as_ (c1) ?_;try refine aa_ ?_
  refine ab_ ?_;repeat(first|refine aa_ ?_|simp only[go_sem,e2])
  refine Rn_ ?_
  exact jM_ (by first|rfl|exact evd) (by first|rfl|exact evd)
 have e2:decide (t.cp.ep<s.j.ep)=false:=decide_eq_false q2;rw[if_neg q2];by_cases q3:T2=0
 case neg=>
  have e3:(T2 != 0)=true:=by simp[q3]
  rw[if_pos q3];try refine aa_ ?_
  refine as_ (c0) ?_;try refine aa_ ?_
  refine as_ (c1) ?_;try refine aa_ ?_
  refine ab_ ?_;repeat(first|refine aa_ ?_|simp only[go_sem,e2])
  refine Rm_ ?_
  refine as_ (c0) ?_;try refine aa_ ?_
  refine as_ (c2) ?_;repeat(first|refine aa_ ?_|simp only[go_sem,e3])
  refine Rn_ ?_
  exact jM_ (by first|rfl|exact evd) (by first|rfl|exact evd)
 subst q3;rw[if_neg (by simp)];try refine aa_ ?_
 refine as_ (c0) ?_;try refine aa_ ?_
 refine as_ (c1) ?_;try refine aa_ ?_
 refine ab_ ?_;repeat(first|refine aa_ ?_|simp only[go_sem,e2])
 refine Rm_ ?_
 refine as_ (c0) ?_;try refine aa_ ?_
 refine as_ (c2) ?_;try refine aa_ ?_
 refine Rm_ ?_
 exact ag_
theorem Hw_(s:ai_)(m:Nat)(h:aJ_ s m)(x:dm_)(h1:x.fst.vals.length≤100)(h2:x.snd.vals.length≤100):PC Tryz.prog 34 [.agg (aj_ s.a),.agg (cs_ x.a)] (.tup [.agg (aj_ (iT_ s x).1.a),.int .i64 (iT_ s x).2]):=by
 refine PC.fact 9 xO_ (by simp) puA puA ?_;unfold ov_;refine bd ?_;have c0:=sj_ s;have c1:=EL_ x.a x.fst.vals x.snd.vals false false s.cfg.bals.length rfl rfl h1 h2;have c2:=wh_ x.a x.fst.vals x.snd.vals false false rfl rfl h1 h2;have hcl:(gy_ x.fst.vals x.snd.vals x.fst.vals.length).length≤x.fst.vals.length:=qp_ _ _ _;have hqq:=h.qq;have hii:=h.ii;have c3:=EB_ s.eqv (gy_ x.fst.vals x.snd.vals x.fst.vals.length) (by omega);unfold iT_;generalize evE x.a x.fst.vals x.snd.vals s.cfg.bals.length=V at *;generalize gy_ x.fst.vals x.snd.vals x.fst.vals.length=C at *;generalize EA_ s.eqv C=U at *;generalize IntKind.i64.wrap ((U.length:Int)-s.eqv.length)=N at *;by_cases q1:V=0
 case neg=>
  have e1:(V != 0)=true:=by simp[q1]
  rw[if_pos q1];try refine aa_ ?_
  refine as_ (c0) ?_;try refine aa_ ?_
  refine as_ (c1) ?_;repeat(first|refine aa_ ?_|simp only[go_sem,e1])
  refine Rn_ ?_
  exact jM_ (by first|rfl|exact evd) (by first|rfl|exact evd)
 subst q1;rw[if_neg (by simp)];by_cases q2:N=0
 ·have e2:(N==0)=true:=by simp[q2]
  rw[if_pos q2];try refine aa_ ?_
  refine as_ (c0) ?_;try refine aa_ ?_
  refine as_ (c1) ?_;try refine aa_ ?_
  refine Rm_ ?_
  refine as_ (c2) ?_;try refine aa_ ?_
  refine as_ (c3) ?_;repeat(first|refine aa_ ?_|simp only[go_sem,e2])
  refine Rn_ ?_
  exact jM_ (by first|rfl|exact evd) (by first|rfl|exact evd)
 ·have e2:(N==0)=false:=by simp[q2]
  rw[if_neg q2];try refine aa_ ?_
  refine as_ (c0) ?_;try refine aa_ ?_
  refine as_ (c1) ?_;try refine aa_ ?_
  refine Rm_ ?_
  refine as_ (c2) ?_;try refine aa_ ?_
  refine as_ (c3) ?_;repeat(first|refine aa_ ?_|simp only[go_sem,e2])
  refine Rm_ ?_
  exact ag_
end Go.Proofs.YtkgimpdgncakjaaGreat
