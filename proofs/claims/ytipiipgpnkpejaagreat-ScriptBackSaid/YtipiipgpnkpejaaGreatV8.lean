/-
 My texts Na, Nb, Nc, joined.
-/
import Derived.Test.YtipiipgpnkpejaaGreatV7
namespace Go.Proofs.YtipiipgpnkpejaaGreat
open Go Go.FH Go.RowKit
set_option linter.unusedVariables false
set_option linter.unusedSimpArgs false
set_option maxRecDepth 8000
set_option maxHeartbeats 4000000
theorem hT_(s:al_)(h:StR s):PC Tryz.prog 155 [.agg (ao_ s.a)] (.int .i64 (cA_ s)):=by
 refine PC.fact 4 tN_ (by simp) puA puA ?_;unfold lF_;refine bd ?_;have hb:=h.bo;obtain⟨R,hR⟩:∃R,R=cA_ s:=⟨_,rfl⟩
 rw[←hR];unfold cA_ jV_ at hR;try refine aa_ ?_
 refine aG_ (fun i:Nat=>[(3,.int .i64 i)]) (fun _=>[.var (ao_ s.a)]) (fun i=>s.orph.length-i) (fun i=>i≤s.orph.length∧R=yD_ (hL_ (fun i=>decide (0≤av_ s.nodes (eS_ s.orph i).parent)) (s.orph.length-i) i)) 0 ⟨Nat.zero_le _,hR⟩ ?_ ?_
 ·exact Sn_ [] [0]
 clear hR;rintro i ⟨hi,hn⟩;(try simp only[aF_,aA_,List.set_cons_zero,List.set_cons_succ])
 by_cases h1:i<s.orph.length
 ·have e1:decide ((i:Int)<((s.orph.length:Nat):Int))=true:=decide_eq_true (by omega)
  have hw:=ag_ h1 (by omega);have hgd:(rows aw_ s.orph).getD i []=aw_ (eS_ s.orph i):=cw_ (f:=aw_) bj_ h1;have c1:=bJ_ s.nodes (eS_ s.orph i).parent h.bn;repeat(first|refine aa_ ?_|simp only[go_sem,e1])
  refine ac_ ?_;repeat(first|refine aa_ ?_|simp only[go_sem,hgd])
  refine ay_ (c1) ?_;try refine aa_ ?_
  by_cases q:0≤av_ s.nodes (eS_ s.orph i).parent
  ·have e2:decide (0≤av_ s.nodes (eS_ s.orph i).parent)=true:=decide_eq_true q;rw[mT_ h1 e2]at hn;subst hn;repeat(first|refine aa_ ?_|simp only[go_sem,e2])
   refine Rf_ ?_
   exact ah_
  ·have e2:decide (0≤av_ s.nodes (eS_ s.orph i).parent)=false:=decide_eq_false q;rw[mS_ h1 e2]at hn;repeat(first|refine aa_ ?_|simp only[go_sem,e2])
   refine ab_ ?_;repeat(first|refine aa_ ?_|simp only[go_sem,hw])
   refine⟨i+1,⟨h1,hn⟩,by omega,?_⟩;exact Sn_ [] [0]
 ·obtain rfl:i=s.orph.length:=by omega
  have e1:decide (((s.orph.length:Nat):Int)<((s.orph.length:Nat):Int))=false:=decide_eq_false (by omega);rw[mR_]at hn;subst hn;repeat(first|refine aa_ ?_|simp only[go_sem,e1])
  refine Re_ ?_
  exact ah_
theorem Ad_(s:al_)(b:Blk)(h:StR s)(h1:StR (dg_ s (ga_ s.nodes b (dZ_ b)).1)):PC Tryz.prog 154 [.agg (ao_ s.a),.agg (aw_ b)] (.agg (ao_ (jW_ s b).a)):=by
 refine PC.fact 5 vB_ (by simp) puA puA ?_;unfold ms_;refine bd ?_;have c1:=HC_ b;have c2:=JY_ s.nodes b (dZ_ b) h.bn;have c3:=xp_ (dg_ s (ga_ s.nodes b (dZ_ b)).1) b.just b.fin h1;have h2:=h1.upd b.just b.fin
 have hI:jW_ s b=if bP_ (cW_ (dg_ s (ga_ s.nodes b (dZ_ b)).1) b.just b.fin) b.slot<bP_ (cW_ (dg_ s (ga_ s.nodes b (dZ_ b)).1) b.just b.fin) (cW_ (dg_ s (ga_ s.nodes b (dZ_ b)).1) b.just b.fin).now
  then cW_ (cW_ (dg_ s (ga_ s.nodes b (dZ_ b)).1) b.just b.fin) b.pul.j b.pul.f else cW_ (dg_ s (ga_ s.nodes b (dZ_ b)).1) b.just b.fin:=rfl
 rw[hI];clear hI;unfold dg_ at c3;generalize dZ_ b=st at *;generalize ga_ s.nodes b st=T at *;obtain⟨T1,T2⟩:=T;show Tri _ _ _ _ (PQ _ (.agg (ao_ (al_.a (if bP_ (cW_ (dg_ s T1) b.just b.fin) b.slot<bP_ (cW_ (dg_ s T1) b.just b.fin) (cW_ (dg_ s T1) b.just b.fin).now then cW_ (cW_ (dg_ s T1) b.just b.fin) b.pul.j b.pul.f else cW_ (dg_ s T1) b.just b.fin))))) _ _
 change StR (cW_ (dg_ s T1) b.just b.fin)at h2
 change PC _ _ _ (.agg (ao_ (cW_ (dg_ s T1) b.just b.fin).a))at c3
 generalize cW_ (dg_ s T1) b.just b.fin=S2 at *;have c4:=dM_ S2 b.slot h2.spe;have c5:=dM_ S2 S2.now h2.spe;have c6:=xp_ S2 b.pul.j b.pul.f h2;try refine aa_ ?_
 refine ay_ (c1) ?_;try refine aa_ ?_
 refine ay_ (c2) ?_;try refine aa_ ?_
 refine RV_ c3 ?_
 refine ay_ (c4) ?_;try refine aa_ ?_
 refine ay_ (c5) ?_;try refine aa_ ?_
 by_cases q:bP_ S2 b.slot<bP_ S2 S2.now
 ·have e1:decide (bP_ S2 b.slot<bP_ S2 S2.now)=true:=decide_eq_true q;rw[if_pos q];repeat(first|refine aa_ ?_|simp only[go_sem,e1])
  refine Rf_ ?_
  refine RV_ c6 ?_
  exact ah_
 ·have e1:decide (bP_ S2 b.slot<bP_ S2 S2.now)=false:=decide_eq_false q;rw[if_neg q];repeat(first|refine aa_ ?_|simp only[go_sem,e1])
  refine Re_ ?_
  exact ah_
theorem Ac_(s:al_)(b:Blk):(jW_ s b).orph.length≤s.orph.length:=by
 unfold jW_;have h1:=(xo_ (dg_ s (ga_ s.nodes b (dZ_ b)).1) b.just b.fin).1;have h2:=(xo_ (cW_ (dg_ s (ga_ s.nodes b (dZ_ b)).1) b.just b.fin) b.pul.j b.pul.f).1;have h3:(dg_ s (ga_ s.nodes b (dZ_ b)).1).orph.length=s.orph.length:=rfl;split<;>omega
theorem pS_{p:al_×List Rt}(h0:0≤cA_ p.1):(waitR p).1.orph.length+1≤p.1.orph.length:=by
 have h1:=xs_ p.1;have h2:=Le_ p.1.orph (i:=(cA_ p.1).toNat) (by omega);have h3:=Ac_ (withO p.1 (takeO p.1.orph (cA_ p.1).toNat)) (eS_ p.1.orph (cA_ p.1).toNat);have h4:(withO p.1 (takeO p.1.orph (cA_ p.1).toNat)).orph.length=(takeO p.1.orph (cA_ p.1).toNat).length:=rfl;unfold waitR;split
 ·show (jW_ _ _).orph.length+1≤_;omega
 ·show (takeO p.1.orph (cA_ p.1).toNat).length+1≤_;omega
theorem FS_:∀ (f g:Nat) (p:al_×List Rt),p.1.orph.length<f→p.1.orph.length<g→waitG f p=waitG g p
 |0,_,_,h,_=>by omega
 |_,0,_,_,h=>by omega
 | f + 1, g + 1, p, h1, h2 => by
   unfold waitG;split
   ·rfl
   ·rename_i hw;have:=pS_ (p:=p) (by omega);exact FS_ f g (waitR p) (by omega) (by omega)
theorem HL_{p:al_×List Rt}(h0:0≤cA_ p.1):waitG (p.1.orph.length+1) p=waitG ((waitR p).1.orph.length+1) (waitR p):=by
 have h1:=pS_ h0;conv=>lhs;unfold waitG
 rw[if_neg (by omega)];exact FS_ _ _ _ (by omega) (by omega)
theorem DM_(s:al_)(b:Blk)(h:StR s):ar_ Tryz.prog 153 [.agg (ao_ { s.a with orph:=.hs 238 0 0 s.orph.length }),.agg (aw_ b)] [.vec 238 (rows aw_ s.orph)] (.int .i64 (cE_ s b)) [.vec 238 (rows aw_ s.orph)]:=by
 refine ar_.lend rfl ?_;have ht:List.take s.orph.length (rows aw_ s.orph)=rows aw_ s.orph:=List.take_of_length_le (by simp);(try simp only[go_sem,ht,List.length_cons,List.length_nil,List.range_succ,List.range_zero])
 exact te_ s b h
theorem Dp_(s:al_)(h:StR s):ar_ Tryz.prog 155 [.agg (ao_ { s.a with orph:=.hs 238 0 0 s.orph.length })] [.vec 238 (rows aw_ s.orph)] (.int .i64 (cA_ s)) [.vec 238 (rows aw_ s.orph)]:=by
 refine ar_.lend rfl ?_;have ht:List.take s.orph.length (rows aw_ s.orph)=rows aw_ s.orph:=List.take_of_length_le (by simp);(try simp only[go_sem,ht,List.length_cons,List.length_nil,List.range_succ,List.range_zero])
 exact hT_ s h
theorem GG_(s:al_)(b:Blk)(h:StR s)(h1:StR (dg_ s (ga_ s.nodes b (dZ_ b)).1)):ar_ Tryz.prog 154 [.agg (ao_ { s.a with orph:=.hs 238 0 0 s.orph.length }),.agg (aw_ b)] [.vec 238 (rows aw_ s.orph)] (.agg (ao_ (jW_ s b).a)) [.gone]:=by
 have ht:List.take s.orph.length (rows aw_ s.orph)=rows aw_ s.orph:=List.take_of_length_le (by simp)
 have:=ar_.give (σ:=[.vec 238 (rows aw_ s.orph)]) (args:=[.agg (ao_ { s.a with orph:=.hs 238 0 0 s.orph.length }),.agg (aw_ b)]) (r:=_) (by
  (try simp only[go_sem,ht,List.length_cons,List.length_nil,List.range_succ,List.range_zero])
  exact Ad_ s b h h1)
 exact this
def Nw_(b:Blk)(p:al_×List Rt)(o:Bool):St:=if o then [.var (ao_ p.1.a),.var (aw_ b),.var (ao_ cQ_),.vec 32 (rows rtc p.2)]else [.var (ao_ p.1.a),.var (aw_ b),.var (ao_ cQ_)]
def Nx_(p:al_×List Rt)(o:Bool):AV:=if o then .hs 32 3 0 p.2.length else .sl 32 true (rows rtc p.2)
theorem OA_(S:al_)(m:Nat)(hS:bg_ S m)(b:Blk)(hbu:hZ_ b)(hlo:S.orph.length≤3)(R:al_×List Rt)(hR0:R=waitG (S.orph.length+1) (S,[b.root])):
 Tri Tryz.prog 108 0 (bf_.tl 7) (PQ [.cell 4 true 150,.tmp 5,.tmp 6] (.tup [.agg (ao_ R.1.a),.sl 32 false (rows rtc R.2),.int .i64 0])) ⟨12,[.dead,.dead,.ptr 0 0,.ptr 1 0,.ptr 2 0,.dead,.dead,.dead,.dead,.dead,.dead,.dead],[]⟩ [.var (ao_ S.a),.var (aw_ b),.var (ao_ cQ_)]:=by
 unfold bf_;refine bd ?_;simp only[ad_.tl];have c0:=hT_ S hS.r;try refine aa_ ?_
 refine RV_ c0 ?_
 refine aG_ (fun x:(al_×List Rt)×Bool=>[(9,Nx_ x.1 x.2),(10,.int .i64 (cA_ x.1.1)),(11,.dead)]) (fun x=>Nw_ b x.1 x.2) (fun x=>x.1.1.orph.length)
  (fun x=>bg_ x.1.1 m∧R=waitG (x.1.1.orph.length+1) x.1∧x.1.2.length+x.1.1.orph.length≤10) ((S,[b.root]),false) ⟨hS,hR0,by simp only[List.length_cons,List.length_nil];omega⟩ ?_ ?_
 ·show GC _ _ _ ⟨_,hs_ [(9,.sl 32 true [rtc b.root]),(10,.int .i64 (cA_ S)),(11,.dead)] _,[]⟩ [.var (ao_ S.a),.var (aw_ b),.var (ao_ cQ_)]
  exact Sn_ [] [0,1,2]
 clear hR0 c0;rintro⟨⟨S1,L⟩,o⟩ ⟨hi,hR,hl⟩;dsimp only at hi hR hl ⊢;have hwb:=xs_ S1;by_cases hw:cA_ S1<0
 ·have hR':R=(S1,L):=by rw[hR];unfold waitG;rw[if_pos hw]
  subst hR';clear hR;generalize cA_ S1=W at *;have e1:decide (W ≥ 0)=false:=decide_eq_false (by omega);have e2:decide (0≤W)=false:=decide_eq_false (by omega);have ht:List.take L.length (rows rtc L)=rows rtc L:=List.take_of_length_le (by simp);cases o with
  | true =>
    show Tri _ _ _ _ _ ⟨_,hs_ [(9,.hs 32 3 0 L.length),(10,_),(11,.dead)] _,[]⟩ [.var (ao_ S1.a),.var (aw_ b),.var (ao_ cQ_),.vec 32 (rows rtc L)]
    (try simp only[aF_,aA_,List.set_cons_zero,List.set_cons_succ])
    repeat(first|refine aa_ ?_|simp only[go_sem,e1,e2])
    refine Re_ ?_
    refine⟨_,(by first|rfl|exact evd),.inl ?_⟩;(try simp only[go_sem,Nat.reduceAdd,Nat.reduceSub,Nat.reduceMul,Nat.reduceLT,Nat.reduceLeDiff,Nat.reduceEqDiff,reduceIte,Int.reduceToNat,Int.reduceLT,Int.reduceLE,Int.reduceEq,Int.reduceNeg,reduceCtorEq,Int.reduceBEq,Int.reduceBNe,ht])
    all_goals rfl
  | false =>
    show Tri _ _ _ _ _ ⟨_,hs_ [(9,.sl 32 true (rows rtc L)),(10,_),(11,.dead)] _,[]⟩ [.var (ao_ S1.a),.var (aw_ b),.var (ao_ cQ_)]
    (try simp only[aF_,aA_,List.set_cons_zero,List.set_cons_succ])
    repeat(first|refine aa_ ?_|simp only[go_sem,e1,e2])
    refine Re_ ?_
    refine⟨_,(by first|rfl|exact evd),.inr ⟨.tup [.agg (ao_ S1.a),.sl 32 true (rows rtc L),.int .i64 0],?_,⟨S1.pul,fp_ L,trivial,trivial⟩,Wk.tup ⟨Wk.refl _,Wk.open_ _ _ _,Wk.refl _,trivial⟩⟩⟩;(try simp only[go_sem,Nat.reduceAdd,Nat.reduceSub,Nat.reduceMul,Nat.reduceLT,Nat.reduceLeDiff,Nat.reduceEqDiff,reduceIte,Int.reduceToNat,Int.reduceLT,Int.reduceLE,Int.reduceEq,Int.reduceNeg,reduceCtorEq,Int.reduceBEq,Int.reduceBNe])
    all_goals rfl
 ·have hst:=HL_ (p:=(S1,L)) (show 0≤cA_ S1 by omega)
  dsimp only at hst;rw[hst]at hR;clear hst;have hro:=pS_ (p:=(S1,L)) (by show 0≤cA_ S1;omega);have hI:bg_ (waitR (S1,L)).1 m:=bg_.waitR hi (by show 0≤cA_ S1;omega);have hwr:waitR (S1,L)=if cE_ (withO S1 (takeO S1.orph (cA_ S1).toNat)) (eS_ S1.orph (cA_ S1).toNat)=0 then (jW_ (withO S1 (takeO S1.orph (cA_ S1).toNat)) (eS_ S1.orph (cA_ S1).toNat),L++[(eS_ S1.orph (cA_ S1).toNat).root])else (withO S1 (takeO S1.orph (cA_ S1).toNat),L):=rfl
  obtain⟨u,hu⟩:=Int.eq_ofNat_of_zero_le (show 0≤cA_ S1 by omega);rw[hu]at hwr hwb ⊢;rw[Int.toNat_natCast]at hwr;have hul:u<S1.orph.length:=by omega
  have h2:=hi.takeO u;have hbo:=hi.uo _ (gT_ bj_ hul);have hgd:(rows aw_ S1.orph).getD u []=aw_ (eS_ S1.orph u):=cw_ (f:=aw_) bj_ hul;change hZ_ (eS_ S1.orph u)at hbo
  generalize eS_ S1.orph u=ob at *;have e2:decide (0≤(u:Int))=true:=decide_eq_true (by omega);have hw1:IntKind.i64.wrap ((u:Int)+1)=((u+1:Nat):Int):=ai_ (by omega) (by omega);have ht1:List.take u (rows aw_ S1.orph)=rows aw_ (S1.orph.take u):=nM_ _ _ _;have ht2:List.drop (u+1) (rows aw_ S1.orph)=rows aw_ (S1.orph.drop (u+1)):=nL_ _ _ _;have ht3:rows aw_ (S1.orph.take u)++rows aw_ (S1.orph.drop (u+1))=rows aw_ (takeO S1.orph u):=wS_ _ _ _;have ht4:(S1.orph.take u).length+(S1.orph.drop (u+1)).length=(takeO S1.orph u).length:=by unfold takeO;rw[List.length_append]
  have ht5:List.take (S1.orph.length-(u+1)) (rows aw_ (S1.orph.drop (u+1)))=rows aw_ (S1.orph.drop (u+1)):=List.take_of_length_le (by simp);have hlo:(takeO S1.orph u).length≤3:=h2.oo;have hoo:=hi.oo;have c1:=DM_ (withO S1 (takeO S1.orph u)) ob h2.r;have c2:=fun hc=>GG_ (withO S1 (takeO S1.orph u)) ob h2.r (h2.insN hc hbo).r
  have c3:=Dp_ (withO S1 (takeO S1.orph u)) h2.r;unfold withO at c1 c2 c3;dsimp only at c1 c2 c3;have ht6:List.take (takeO S1.orph u).length (rows aw_ (takeO S1.orph u))=rows aw_ (takeO S1.orph u):=List.take_of_length_le (by simp);have hsn:rows rtc L++[rtc ob.root]=rows rtc (L++[ob.root]):=cx_ rtc L ob.root;have hT0:takeO S1.orph u=takeO S1.orph u:=rfl;cases o with
  | true =>
    show Tri _ _ _ _ _ ⟨_,hs_ [(9,.hs 32 3 0 L.length),(10,_),(11,.dead)] _,[]⟩ [.var (ao_ S1.a),.var (aw_ b),.var (ao_ cQ_),.vec 32 (rows rtc L)]
    (try simp only[aF_,aA_,List.set_cons_zero,List.set_cons_succ])
    repeat(first|refine aa_ ?_|simp only[go_sem,e2])
    refine ac_ ?_;repeat(first|refine aa_ ?_|simp only[go_sem,hgd,hw1,ht1,ht2,ht3,ht4,ht5])
    refine am_ [6] (c1) evd (aj_.mk' (by simp) evd) ?_;refine evg ?_;try refine aa_ ?_
    by_cases hc:cE_ (withO S1 (takeO S1.orph u)) ob=0
    ·have e3:(cE_ (withO S1 (takeO S1.orph u)) ob==0)=true:=by simp[hc]
     rw[if_pos hc]at hwr;rw[hwr]at hR hro hI;dsimp only at hR hro hI;have c4:=c2 hc;have c5:=hT_ _ hI.r;unfold withO at e3;change ar_ _ _ _ _ (.agg (ao_ (jW_ (withO S1 (takeO S1.orph u)) ob).a)) _ at c4
     generalize jW_ (withO S1 (takeO S1.orph u)) ob=S3 at *;repeat(first|refine aa_ ?_|simp only[go_sem,e3])
     refine Rf_ ?_
     refine am_ [6] (c4) evd (aj_.mk' (by simp) evd) ?_;refine evg ?_;repeat(first|refine aa_ ?_|simp only[go_sem,hsn])
     refine RV_ c5 ?_
     refine⟨((S3,L++[ob.root]),true),⟨hI,hR,by simp only[List.length_append,List.length_cons,List.length_nil];omega⟩,by dsimp only;omega,?_⟩;(try simp only[Nx_,Nw_,if_true,if_false,Bool.false_eq_true,withO])
     exact Sn_ [] [0,1,2,7]
    ·have e3:(cE_ (withO S1 (takeO S1.orph u)) ob==0)=false:=by simp[hc]
     rw[if_neg hc]at hwr;rw[hwr]at hR hro hI;dsimp only at hR hro hI;unfold withO at e3;repeat(first|refine aa_ ?_|simp only[go_sem,e3])
     refine Re_ ?_
     refine am_ [6] (c3) evd (aj_.mk' (by simp) evd) ?_;refine evg ?_;try refine aa_ ?_
     refine⟨((withO S1 (takeO S1.orph u),L),true),⟨hI,hR,by dsimp only;omega⟩,by dsimp only;omega,?_⟩;(try simp only[Nx_,Nw_,if_true,if_false,Bool.false_eq_true,withO])
     refine GC.mk' [6] [0,1,2,3] (by simp) rfl (by simp) (by simp) (by(try simp only[go_sem,Nat.reduceAdd,Nat.reduceSub,Nat.reduceMul,Nat.reduceLT,Nat.reduceLeDiff,Nat.reduceEqDiff,reduceIte,Int.reduceToNat,Int.reduceLT,Int.reduceLE,Int.reduceEq,Int.reduceNeg,reduceCtorEq,Int.reduceBEq,Int.reduceBNe,ht6]);all_goals first|rfl|exact⟨rfl,rfl⟩) (by(try simp only[go_sem,Nat.reduceAdd,Nat.reduceSub,Nat.reduceMul,Nat.reduceLT,Nat.reduceLeDiff,Nat.reduceEqDiff,reduceIte,Int.reduceToNat,Int.reduceLT,Int.reduceLE,Int.reduceEq,Int.reduceNeg,reduceCtorEq,Int.reduceBEq,Int.reduceBNe,ht6]);all_goals rfl)
  | false =>
    show Tri _ _ _ _ _ ⟨_,hs_ [(9,.sl 32 true (rows rtc L)),(10,_),(11,.dead)] _,[]⟩ [.var (ao_ S1.a),.var (aw_ b),.var (ao_ cQ_)]
    (try simp only[aF_,aA_,List.set_cons_zero,List.set_cons_succ])
    repeat(first|refine aa_ ?_|simp only[go_sem,e2])
    refine ac_ ?_;repeat(first|refine aa_ ?_|simp only[go_sem,hgd,hw1,ht1,ht2,ht3,ht4,ht5])
    refine am_ [5] (c1) evd (aj_.mk' (by simp) evd) ?_;refine evg ?_;try refine aa_ ?_
    by_cases hc:cE_ (withO S1 (takeO S1.orph u)) ob=0
    ·have e3:(cE_ (withO S1 (takeO S1.orph u)) ob==0)=true:=by simp[hc]
     rw[if_pos hc]at hwr;rw[hwr]at hR hro hI;dsimp only at hR hro hI;have c4:=c2 hc;have c5:=hT_ _ hI.r;unfold withO at e3;change ar_ _ _ _ _ (.agg (ao_ (jW_ (withO S1 (takeO S1.orph u)) ob).a)) _ at c4
     generalize jW_ (withO S1 (takeO S1.orph u)) ob=S3 at *;repeat(first|refine aa_ ?_|simp only[go_sem,e3])
     refine Rf_ ?_
     refine am_ [5] (c4) evd (aj_.mk' (by simp) evd) ?_;refine evg ?_;repeat(first|refine aa_ ?_|simp only[go_sem,hsn])
     refine RV_ c5 ?_
     refine⟨((S3,L++[ob.root]),true),⟨hI,hR,by simp only[List.length_append,List.length_cons,List.length_nil];omega⟩,by dsimp only;omega,?_⟩;(try simp only[Nx_,Nw_,if_true,if_false,Bool.false_eq_true,withO])
     exact Sn_ [] [0,1,2,6]
    ·have e3:(cE_ (withO S1 (takeO S1.orph u)) ob==0)=false:=by simp[hc]
     rw[if_neg hc]at hwr;rw[hwr]at hR hro hI;dsimp only at hR hro hI;unfold withO at e3;repeat(first|refine aa_ ?_|simp only[go_sem,e3])
     refine Re_ ?_
     refine am_ [5] (c3) evd (aj_.mk' (by simp) evd) ?_;refine evg ?_;try refine aa_ ?_
     refine⟨((withO S1 (takeO S1.orph u),L),false),⟨hI,hR,by dsimp only;omega⟩,by dsimp only;omega,?_⟩;(try simp only[Nx_,Nw_,if_true,if_false,Bool.false_eq_true,withO])
     refine GC.mk' [5] [0,1,2] (by simp) rfl (by simp) (by simp) (by(try simp only[go_sem,Nat.reduceAdd,Nat.reduceSub,Nat.reduceMul,Nat.reduceLT,Nat.reduceLeDiff,Nat.reduceEqDiff,reduceIte,Int.reduceToNat,Int.reduceLT,Int.reduceLE,Int.reduceEq,Int.reduceNeg,reduceCtorEq,Int.reduceBEq,Int.reduceBNe,ht6]);all_goals first|rfl|exact⟨rfl,rfl⟩) (by(try simp only[go_sem,Nat.reduceAdd,Nat.reduceSub,Nat.reduceMul,Nat.reduceLT,Nat.reduceLeDiff,Nat.reduceEqDiff,reduceIte,Int.reduceToNat,Int.reduceLT,Int.reduceLE,Int.reduceEq,Int.reduceNeg,reduceCtorEq,Int.reduceBEq,Int.reduceBNe,ht6]);all_goals rfl)
theorem In_{fr:Fr}{σ:St}{rs:List eG_}{l:List AV}{n:Int}(hl:cg_ fr σ rs=some l)(hv:fz σ (List.range σ.length) (es_ l)=.tup [.agg (ao_ cQ_),.sl 0 true [],.int .i64 n]):PQ rs (.tup [.agg (ao_ fA_.a),.sl 32 false (rows rtc []),.int .i64 n]) .ret fr σ:=
 ⟨l,hl,.inr ⟨_,hv,(by simp[PuL,Pu,dx_,cQ_,ao_,cH_,gF_,ci_,eH_,el_,hl_,bm_,cp0]),Wk.tup ⟨Ds_,Wk.empty _ _ _,Wk.refl _,trivial⟩⟩⟩
theorem Gi_(s:al_)(m:Nat)(h:bg_ s m)(b:Blk)(hb:hZ_ b):PC Tryz.prog 135 [.agg (ao_ s.a),.agg (aw_ b)] (.tup [.agg (ao_ (dL_ s b).1.a),.sl 32 false (rows rtc (dL_ s b).2.1),.int .i64 (dL_ s b).2.2]):=by
 have tl:=OA_;refine PC.fact 12 yi_ (by simp) puA ⟨(dL_ s b).1.pul,fp_ _,trivial,trivial⟩ ?_;have hc:bf_=.seq bf_.hd (.seq (bf_.tl 1).hd (.seq (bf_.tl 2).hd (.seq (bf_.tl 3).hd (.seq (bf_.tl 4).hd (.seq (bf_.tl 5).hd (.seq (bf_.tl 6).hd (bf_.tl 7))))))):=rfl;rw[hc];clear hc;generalize bf_.tl 7=cT at *;unfold bf_;refine bd ?_;simp only[ad_.tl,ad_.hd];have c1:=te_ s b h.r;have hoo:=h.oo;unfold dL_;by_cases q1:cE_ s b=10
 ·rw[if_pos q1]
  rw[q1]at c1;have hlo:=h.cfg.lo;by_cases q2:s.cfg.lim.orph≤s.orph.length
  ·have e1:decide ((s.orph.length:Int) ≥ s.cfg.lim.orph)=true:=decide_eq_true q2;have e2:decide (s.cfg.lim.orph≤(s.orph.length:Int))=true:=decide_eq_true q2;rw[if_pos q2];try refine aa_ ?_
   refine RV_ c1 ?_
   refine ac_ ?_;repeat(first|refine aa_ ?_|simp only[go_sem,e1,e2])
   refine Rf_ ?_
   exact In_ (by first|rfl|exact evd) (by first|rfl|exact evd)
  ·have e1:decide ((s.orph.length:Int) ≥ s.cfg.lim.orph)=false:=decide_eq_false q2;have e2:decide (s.cfg.lim.orph≤(s.orph.length:Int))=false:=decide_eq_false q2;have hsn:rows aw_ s.orph++[aw_ (noT b)]=rows aw_ (s.orph++[noT b]):=cx_ aw_ s.orph (noT b);have ht:∀l:List Blk,List.take l.length (rows aw_ l)=rows aw_ l:=fun l=>List.take_of_length_le (by simp)
   have ht2:List.take (s.orph.length+1) (rows aw_ (s.orph++[noT b]))=rows aw_ (s.orph++[noT b]):=List.take_of_length_le (by simp);have hno:aw_ { pul:=b.pul,slot:=b.slot,root:=b.root,parent:=b.parent,payload:=b.payload,diff:=b.diff,pdiff:=b.pdiff,just:=b.just,fin:=b.fin,timely:=false }=aw_ (noT b):=rfl;rw[if_neg q2];try refine aa_ ?_
   refine RV_ c1 ?_
   refine ac_ ?_;repeat(first|refine aa_ ?_|simp only[go_sem,e1,e2])
   refine ab_ ?_;repeat(first|refine aa_ ?_|simp only[go_sem,hno,hsn,ht])
   refine⟨_,(by first|rfl|exact evd),.inr ⟨.tup [.agg (ao_ (withO s (s.orph++[noT b])).a),.sl 0 true [],.int .i64 0],?_,⟨(withO s (s.orph++[noT b])).pul,trivial,trivial,trivial⟩,Wk.tup ⟨Wk.refl _,Wk.empty _ _ _,Wk.refl _,trivial⟩⟩⟩;(try simp only[go_sem,Nat.reduceAdd,Nat.reduceSub,Nat.reduceMul,Nat.reduceLT,Nat.reduceLeDiff,Nat.reduceEqDiff,reduceIte,Int.reduceToNat,Int.reduceLT,Int.reduceLE,Int.reduceEq,Int.reduceNeg,reduceCtorEq,Int.reduceBEq,Int.reduceBNe,ht2])
   all_goals rfl
 rw[if_neg q1];have n1:(cE_ s b==10)=false:=by simp[q1]
 by_cases q2:cE_ s b=0
 case neg=>
  rw[if_pos q2];have e1:(cE_ s b != 0)=true:=by simp[q2]
  generalize cE_ s b=E at *;try refine aa_ ?_
  refine ae_ c1 ?_;repeat(first|refine aa_ ?_|simp only[go_sem,n1])
  refine ab_ ?_;repeat(first|refine aa_ ?_|simp only[go_sem,e1])
  refine Rf_ ?_
  exact In_ (by first|rfl|exact evd) (by first|rfl|exact evd)
 rw[if_neg (by simp[q2])];have hI:=h.insN q2 hb;have hins:=h.ins q2 hb;have c2:=Ad_ s b h.r hI.r;have hor:=Ac_ s b;rw[q2]at c1;clear n1 q1 q2 hI;have hBI:blockI s b=if b.timely=true∧b.slot=s.now∧s.boost=rt0 then withB (jW_ s b) b.root else jW_ s b:=rfl
 obtain⟨B,hB,hBI2⟩:∃B:Bool,(B=true↔(b.timely=true∧b.slot=s.now∧s.boost=rt0))∧blockI s b=if B=true then withB (jW_ s b) b.root else jW_ s b:=by
  by_cases q:b.timely=true∧b.slot=s.now∧s.boost=rt0
  ·exact⟨true,by simp[q],by rw[hBI,if_pos q,if_pos rfl]⟩
  ·exact⟨false,by simp[q],by rw[hBI,if_neg q,if_neg (by simp)]⟩
 rw[hBI2];clear hBI hBI2;generalize jW_ s b=S at *
 have key:∀ (ts:List (Nat×AV)),Tri Tryz.prog 108 0 (.seq ((bf_.tl 5).hd) (.seq (bf_.tl 6).hd cT)) (PQ [.cell 4 true 150,.tmp 5,.tmp 6] (.tup [.agg (ao_ (waitG ((if B=true then withB S b.root else S).orph.length+1) ((if B=true then withB S b.root else S),[b.root])).1.a),.sl 32 false (rows rtc (waitG ((if B=true then withB S b.root else S).orph.length+1) ((if B=true then withB S b.root else S),[b.root])).2),.int .i64 0]))
  ⟨12,[.agg (ao_ s.a),.agg (aw_ b),.ptr 0 0,.ptr 1 0,.ptr 2 0,.sl 0 true [],.int .i64 0,.int .i64 0,.bool B,.dead,.dead,.dead],ts⟩ [.var (ao_ s.a),.var (aw_ b),.var (ao_ cQ_)]:=by
  intro ts;unfold bf_;refine bd ?_;simp only[ad_.tl,ad_.hd];try refine aa_ ?_
  refine RV_ c2 ?_
  cases B with
  | true =>
    have t2:=tl (withB S b.root) m (hins.withB _) b hb (by show S.orph.length≤3;omega) _ rfl;refine Rf_ ?_
    (try simp only[if_true])
    refine eD_ ?_ t2;unfold withB;exact Sn_ [] [0,1,2]
  | false =>
    have t2:=tl S m hins b hb (by omega) _ rfl;refine Re_ ?_
    (try simp only[Bool.false_eq_true,if_false])
    refine eD_ ?_ t2;exact Sn_ [] [0,1,2]
 unfold bf_ at key;dsimp only[om,oo,on,omg,og,ong,ci,cu,cb,cf,fA,lA,lF,bI,bC,sO,eX,lN,iX,kA,kB,kC,sR,cN]at key;simp only[ad_.tl,ad_.hd]at key;clear tl c2 hins hor;try refine aa_ ?_
 refine RV_ c1 ?_
 refine Re_ ?_
 refine ab_ ?_;refine pA_ ?_;refine ls_ ?_;cases h1:b.timely with
 | false =>
   obtain rfl:B=false:=by rw[←Bool.not_eq_true,hB,h1];simp
   repeat(first|refine pA_ ?_|simp only[go_sem,h1])
   exact key _
 | true =>
   by_cases h2:b.slot=s.now
   ·have e2:(b.slot==s.now)=true:=by simp[h2]
    by_cases h3:s.boost=rt0
    ·have e3:decide (s.boost=rt0)=true:=decide_eq_true h3;obtain rfl:B=true:=hB.2 ⟨h1,h2,h3⟩;repeat(first|refine pA_ ?_|simp only[go_sem,h1,e2,e3])
     exact key _
    ·have e3:decide (s.boost=rt0)=false:=decide_eq_false h3;obtain rfl:B=false:=by rw[←Bool.not_eq_true,hB];exact fun h=>h3 h.2.2
     repeat(first|refine pA_ ?_|simp only[go_sem,h1,e2,e3])
     exact key _
   ·have e2:(b.slot==s.now)=false:=by simp[h2]
    obtain rfl:B=false:=by rw[←Bool.not_eq_true,hB];exact fun h=>h2 h.2.1
    repeat(first|refine pA_ ?_|simp only[go_sem,h1,e2])
    exact key _
theorem DK_{s:al_}{a:aW_}(h:(dC_ s a).2=0):∀j∈a.vals,0≤j∧j<s.cfg.bals.length:=fun j hjm=>by
 have hv:bt_ a.vals s.cfg.bals.length=0:=by
  unfold dC_ at h;split at h
  ·rename_i h1;exact absurd h h1
  ·rename_i h1;simpa using h1
 obtain⟨u,hm,rfl⟩:=List.getElem_of_mem hjm;have:=(fZ_ hv).2 u hm;rw[List.getD_eq_getElem?_getD,List.getElem?_eq_getElem hm,Option.getD_some]at this;omega
theorem LF_(s:al_)(m:Nat)(h:bg_ s m)(a:aW_)(ha:a.vals.length≤1000000):PC Tryz.prog 137 [.agg (ao_ s.a),.agg (aX_ a.a)] (.tup [.agg (ao_ (rO_ s a).1.a),.int .i64 (rO_ s a).2]):=by
 refine PC.fact 9 vx_ (by simp) puA puA ?_;unfold mp_;refine bd ?_;have c1:=td_ s a h.r ha;have c2:=fun(hz:(dC_ s a).2=0)=>DJ_ s a h.r ha (fun j hj=>by have:=DK_ hz j hj;have:=h.ll;omega)
 have haa:=h.aa;unfold rO_;generalize hC:dC_ s a=C at *;obtain⟨C1,C2⟩:=C;dsimp only at c1 c2 ⊢;by_cases q1:C2=0
 case neg=>
  have e1:(C2 != 0)=true:=by simp[q1]
  rw[if_pos q1];try refine aa_ ?_
  refine ae_ c1 ?_;repeat(first|refine aa_ ?_|simp only[go_sem,e1])
  refine Rf_ ?_
  exact ng_ (by first|rfl|exact evd) (by first|rfl|exact evd)
 subst q1;rw[if_neg (by simp)];cases C1 with
 | false =>
   have c3:=c2 rfl;try refine aa_ ?_
   refine RV_ c1 ?_
   refine Re_ ?_
   refine Rf_ ?_
   refine RV_ c3 ?_
   (try simp only[if_true])
   exact ah_
 | true =>
   rw[if_neg (by simp)];by_cases q2:s.cfg.lim.early≤s.early.length
   ·have e2:decide (s.cfg.lim.early≤(s.early.length:Int))=true:=decide_eq_true q2;have e3:decide ((s.early.length:Int) ≥ s.cfg.lim.early)=true:=decide_eq_true q2;rw[if_pos q2];try refine aa_ ?_
    refine RV_ c1 ?_
    refine Re_ ?_
    refine ab_ ?_;repeat(first|refine aa_ ?_|simp only[go_sem,e2,e3])
    refine Rf_ ?_
    exact ng_ (by first|rfl|exact evd) (by first|rfl|exact evd)
   ·have e2:decide (s.cfg.lim.early≤(s.early.length:Int))=false:=decide_eq_false q2;have e3:decide ((s.early.length:Int) ≥ s.cfg.lim.early)=false:=decide_eq_false q2;have hsn:rows aW_.c s.early++[aX_ a.a]=rows aW_.c (s.early++[a]):=cx_ aW_.c s.early a;have ht:List.take (s.early.length+1) (rows aW_.c (s.early++[a]))=rows aW_.c (s.early++[a]):=List.take_of_length_le (by simp);have ht2:List.take s.early.length (rows aW_.c s.early)=rows aW_.c s.early:=List.take_of_length_le (by simp);have ht3:List.take a.vals.length (aq_ .i64 a.vals)=aq_ .i64 a.vals:=List.take_of_length_le (by simp);rw[if_neg q2];try refine aa_ ?_
    refine RV_ c1 ?_
    refine Re_ ?_
    refine ab_ ?_;repeat(first|refine aa_ ?_|simp only[go_sem,e2,e3])
    refine ab_ ?_;refine pA_ ?_;refine ls_ ?_;repeat(first|refine pA_ ?_|simp only[go_sem,ht2])
    refine eD_ (fr2:=⟨9,[.dead,.dead,.ptr 0 0,.ptr 1 0,.ptr 2 0,.int .i64 0,.dead,.dead,.dead],[]⟩) (σ2:=[.var (ao_ s.a),.var (aX_ a.a),.var (ao_ cQ_)]) (GC.mk' [3] [0,1,2] (by simp) rfl (by simp) (by simp) (by(try simp only[go_sem,Nat.reduceAdd,Nat.reduceSub,Nat.reduceMul,Nat.reduceLT,Nat.reduceLeDiff,Nat.reduceEqDiff,reduceIte,Int.reduceToNat,Int.reduceLT,Int.reduceLE,Int.reduceEq,Int.reduceNeg,reduceCtorEq,Int.reduceBEq,Int.reduceBNe,ht3]);all_goals first|rfl|exact⟨rfl,rfl⟩) (by(try simp only[go_sem,Nat.reduceAdd,Nat.reduceSub,Nat.reduceMul,Nat.reduceLT,Nat.reduceLeDiff,Nat.reduceEqDiff,reduceIte,Int.reduceToNat,Int.reduceLT,Int.reduceLE,Int.reduceEq,Int.reduceNeg,reduceCtorEq,Int.reduceBEq,Int.reduceBNe,ht3]);all_goals rfl)) ?_;repeat(first|refine aa_ ?_|simp only[go_sem,hsn,ht2])
    refine⟨_,(by first|rfl|exact evd),.inl ?_⟩;(try simp only[go_sem,Nat.reduceAdd,Nat.reduceSub,Nat.reduceMul,Nat.reduceLT,Nat.reduceLeDiff,Nat.reduceEqDiff,reduceIte,Int.reduceToNat,Int.reduceLT,Int.reduceLE,Int.reduceEq,Int.reduceNeg,reduceCtorEq,Int.reduceBEq,Int.reduceBNe,ht])
    all_goals rfl
theorem Nq_(s:al_)(m:Nat)(h:bg_ s m)(t:aR_)(ht:t.bals.length≤1000000):PC Tryz.prog 139 [.agg (ao_ s.a),.agg (aS_ t.a)] (.tup [.agg (ao_ (wH_ s t).1.a),.int .i64 (wH_ s t).2]):=by
 refine PC.fact 9 sa_ (by simp) puA puA ?_;unfold kp_;refine bd ?_;have c0:=sQ_ s;have c1:=sR_ t s.cfg.bals.length ht;have c2:=Fb_ s.tabs t s.cfg.bals.length s.cfg.lim.table h.r.bt ht;unfold wH_;generalize hA_ t s.cfg.bals.length=V at *;generalize iU_ s.tabs t s.cfg.bals.length s.cfg.lim.table=T at *;obtain⟨T1,T2⟩:=T;dsimp only at c2 ⊢;by_cases q1:V=0
 case neg=>
  have e1:(V != 0)=true:=by simp[q1]
  rw[if_pos q1];try refine aa_ ?_
  refine ay_ (c0) ?_;try refine aa_ ?_
  refine ay_ (c1) ?_;repeat(first|refine aa_ ?_|simp only[go_sem,e1])
  refine Rf_ ?_
  exact ng_ (by first|rfl|exact evd) (by first|rfl|exact evd)
 subst q1;rw[if_neg (by simp)];by_cases q2:t.cp.ep<s.j.ep
 ·have e2:decide (t.cp.ep<s.j.ep)=true:=decide_eq_true q2;rw[if_pos q2];try refine aa_ ?_
  refine ay_ (c0) ?_;try refine aa_ ?_
  refine ay_ (c1) ?_;try refine aa_ ?_
  refine ab_ ?_;repeat(first|refine aa_ ?_|simp only[go_sem,e2])
  refine Rf_ ?_
  exact ng_ (by first|rfl|exact evd) (by first|rfl|exact evd)
 have e2:decide (t.cp.ep<s.j.ep)=false:=decide_eq_false q2;rw[if_neg q2];by_cases q3:T2=0
 case neg=>
  have e3:(T2 != 0)=true:=by simp[q3]
  rw[if_pos q3];try refine aa_ ?_
  refine ay_ (c0) ?_;try refine aa_ ?_
  refine ay_ (c1) ?_;try refine aa_ ?_
  refine ab_ ?_;repeat(first|refine aa_ ?_|simp only[go_sem,e2])
  refine Re_ ?_
  refine ay_ (c0) ?_;try refine aa_ ?_
  refine ay_ (c2) ?_;repeat(first|refine aa_ ?_|simp only[go_sem,e3])
  refine Rf_ ?_
  exact ng_ (by first|rfl|exact evd) (by first|rfl|exact evd)
 subst q3;rw[if_neg (by simp)];try refine aa_ ?_
 refine ay_ (c0) ?_;try refine aa_ ?_
 refine ay_ (c1) ?_;try refine aa_ ?_
 refine ab_ ?_;repeat(first|refine aa_ ?_|simp only[go_sem,e2])
 refine Re_ ?_
 refine ay_ (c0) ?_;try refine aa_ ?_
 refine ay_ (c2) ?_;try refine aa_ ?_
 refine Re_ ?_
 exact ah_
theorem HA_(s:al_)(m:Nat)(h:bg_ s m)(x:df_)(h1:x.fst.vals.length≤100)(h2:x.snd.vals.length≤100):PC Tryz.prog 138 [.agg (ao_ s.a),.agg (bI_ x.a)] (.tup [.agg (ao_ (iY_ s x).1.a),.int .i64 (iY_ s x).2]):=by
 refine PC.fact 9 yk_ (by simp) puA puA ?_;unfold oD_;refine bd ?_;have c0:=sQ_ s;have c1:=Fn_ x.a x.fst.vals x.snd.vals false false s.cfg.bals.length rfl rfl h1 h2;have c2:=wF_ x.a x.fst.vals x.snd.vals false false rfl rfl h1 h2;have hcl:(gt_ x.fst.vals x.snd.vals x.fst.vals.length).length≤x.fst.vals.length:=qx_ _ _ _;have hqq:=h.qq;have hii:=h.ii;have c3:=ER_ s.eqv (gt_ x.fst.vals x.snd.vals x.fst.vals.length) (by omega);unfold iY_;generalize evE x.a x.fst.vals x.snd.vals s.cfg.bals.length=V at *;generalize gt_ x.fst.vals x.snd.vals x.fst.vals.length=C at *;generalize EQ_ s.eqv C=U at *;generalize IntKind.i64.wrap ((U.length:Int)-s.eqv.length)=N at *;by_cases q1:V=0
 case neg=>
  have e1:(V != 0)=true:=by simp[q1]
  rw[if_pos q1];try refine aa_ ?_
  refine ay_ (c0) ?_;try refine aa_ ?_
  refine ay_ (c1) ?_;repeat(first|refine aa_ ?_|simp only[go_sem,e1])
  refine Rf_ ?_
  exact ng_ (by first|rfl|exact evd) (by first|rfl|exact evd)
 subst q1;rw[if_neg (by simp)];by_cases q2:N=0
 ·have e2:(N==0)=true:=by simp[q2]
  rw[if_pos q2];try refine aa_ ?_
  refine ay_ (c0) ?_;try refine aa_ ?_
  refine ay_ (c1) ?_;try refine aa_ ?_
  refine Re_ ?_
  refine ay_ (c2) ?_;try refine aa_ ?_
  refine ay_ (c3) ?_;repeat(first|refine aa_ ?_|simp only[go_sem,e2])
  refine Rf_ ?_
  exact ng_ (by first|rfl|exact evd) (by first|rfl|exact evd)
 ·have e2:(N==0)=false:=by simp[q2]
  rw[if_neg q2];try refine aa_ ?_
  refine ay_ (c0) ?_;try refine aa_ ?_
  refine ay_ (c1) ?_;try refine aa_ ?_
  refine Re_ ?_
  refine ay_ (c2) ?_;try refine aa_ ?_
  refine ay_ (c3) ?_;repeat(first|refine aa_ ?_|simp only[go_sem,e2])
  refine Re_ ?_
  exact ah_
end Go.Proofs.YtipiipgpnkpejaaGreat
