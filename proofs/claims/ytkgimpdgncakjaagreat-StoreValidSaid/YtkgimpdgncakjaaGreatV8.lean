/-
 My texts Na, Nb, Nc, joined.
-/
import Derived.Test.YtkgimpdgncakjaaGreatV7
namespace Go.Proofs.YtkgimpdgncakjaaGreat
open Go Go.FH Go.RowKit
set_option linter.unusedVariables false
set_option linter.unusedSimpArgs false
set_option maxRecDepth 8000
set_option maxHeartbeats 4000000
theorem ip_(s:ah_)(h:StR s):PC Tryz.prog 86 [.agg (ak_ s.a)] (.int .i64 (by_ s)):=by
 refine PC.fact 4 th_ (by simp) puA puA ?_;unfold lp_;refine bd ?_;have hb:=h.bo;obtain⟨R,hR⟩:∃R,R=by_ s:=⟨_,rfl⟩
 rw[←hR];unfold by_ bD_ at hR;try refine aa_ ?_
 refine an_ (fun i:Nat=>[(3,.int .i64 i)]) (fun _=>[.var (ak_ s.a)]) (fun i=>s.orph.length-i) (fun i=>i≤s.orph.length∧R=mO_ (dV_ (fun i=>decide (0≤af_ s.nodes (bF_ s.orph i).parent)) (s.orph.length-i) i)) 0 ⟨Nat.zero_le _,hR⟩ ?_ ?_
 ·exact SN_ [] [0]
 clear hR;rintro i ⟨hi,hn⟩;refine cJ_ ?_;by_cases h1:i<s.orph.length
 ·have e1:=inT h1
  have hw:=ag_ h1 (by omega);have hgd:(rows ap_ s.orph).getD i []=ap_ (bF_ s.orph i):=aA_ (f:=ap_) cF_ h1;have c1:=bg_ s.nodes (bF_ s.orph i).parent h.bn;repeat(first|refine aa_ ?_|simp only[go_sem,e1])
  refine ac_ ?_;repeat(first|refine aa_ ?_|simp only[go_sem,hgd])
  refine ao_ (c1) ?_;try refine aa_ ?_
  by_cases q:0≤af_ s.nodes (bF_ s.orph i).parent
  ·have e2:decide (0≤af_ s.nodes (bF_ s.orph i).parent)=true:=decide_eq_true q;rw[fD_ h1 e2]at hn;subst hn;repeat(first|refine aa_ ?_|simp only[go_sem,e2])
   refine Ri_ ?_
   exact ae_
  ·have e2:decide (0≤af_ s.nodes (bF_ s.orph i).parent)=false:=decide_eq_false q;rw[fC_ h1 e2]at hn;repeat(first|refine aa_ ?_|simp only[go_sem,e2])
   refine ab_ ?_;repeat(first|refine aa_ ?_|simp only[go_sem,hw])
   refine⟨i+1,⟨h1,hn⟩,by omega,?_⟩;exact SN_ [] [0]
 ·obtain rfl:i=s.orph.length:=by omega
  have e1:=inF (s.orph.length);rw[fB_]at hn;subst hn;repeat(first|refine aa_ ?_|simp only[go_sem,e1])
  refine Rh_ ?_
  exact ae_
theorem zq_(s:ah_)(b:Blk)(h:StR s)(h1:StR (ck_ s (dQ_ s.nodes b (bA_ b)).1)):PC Tryz.prog 85 [.agg (ak_ s.a),.agg (ap_ b)] (.agg (ak_ (gq_ s b).a)):=by
 refine PC.fact 5 va_ (by simp) puA puA ?_;unfold ml_;refine bd ?_;have c1:=Hl_ b;have c2:=JQ_ s.nodes b (bA_ b) h.bn;have c3:=wC_ (ck_ s (dQ_ s.nodes b (bA_ b)).1) b.just b.fin h1;have h2:=h1.upd b.just b.fin
 have hI:gq_ s b=if aT_ (ch_ (ck_ s (dQ_ s.nodes b (bA_ b)).1) b.just b.fin) b.slot<aT_ (ch_ (ck_ s (dQ_ s.nodes b (bA_ b)).1) b.just b.fin) (ch_ (ck_ s (dQ_ s.nodes b (bA_ b)).1) b.just b.fin).now
  then ch_ (ch_ (ck_ s (dQ_ s.nodes b (bA_ b)).1) b.just b.fin) b.pul.j b.pul.f else ch_ (ck_ s (dQ_ s.nodes b (bA_ b)).1) b.just b.fin:=rfl
 rw[hI];clear hI;unfold ck_ at c3;generalize bA_ b=st at *;generalize dQ_ s.nodes b st=T at *;obtain⟨T1,T2⟩:=T;show Tri _ _ _ _ (PQ _ (.agg (ak_ (ah_.a (if aT_ (ch_ (ck_ s T1) b.just b.fin) b.slot<aT_ (ch_ (ck_ s T1) b.just b.fin) (ch_ (ck_ s T1) b.just b.fin).now then ch_ (ch_ (ck_ s T1) b.just b.fin) b.pul.j b.pul.f else ch_ (ck_ s T1) b.just b.fin))))) _ _
 change StR (ch_ (ck_ s T1) b.just b.fin)at h2
 change PC _ _ _ (.agg (ak_ (ch_ (ck_ s T1) b.just b.fin).a))at c3
 generalize ch_ (ck_ s T1) b.just b.fin=S2 at *;have c4:=dI_ S2 b.slot h2.spe;have c5:=dI_ S2 S2.now h2.spe;have c6:=wC_ S2 b.pul.j b.pul.f h2;try refine aa_ ?_
 refine ao_ (c1) ?_;try refine aa_ ?_
 refine ao_ (c2) ?_;try refine aa_ ?_
 refine So_ c3 ?_
 refine ao_ (c4) ?_;try refine aa_ ?_
 refine ao_ (c5) ?_;try refine aa_ ?_
 by_cases q:aT_ S2 b.slot<aT_ S2 S2.now
 ·have e1:decide (aT_ S2 b.slot<aT_ S2 S2.now)=true:=decide_eq_true q;rw[if_pos q];repeat(first|refine aa_ ?_|simp only[go_sem,e1])
  refine Ri_ ?_
  refine So_ c6 ?_
  exact ae_
 ·have e1:decide (aT_ S2 b.slot<aT_ S2 S2.now)=false:=decide_eq_false q;rw[if_neg q];repeat(first|refine aa_ ?_|simp only[go_sem,e1])
  refine Rh_ ?_
  exact ae_
theorem zp_(s:ah_)(b:Blk):(gq_ s b).orph.length≤s.orph.length:=by
 unfold gq_;have h1:=(je_ (ck_ s (dQ_ s.nodes b (bA_ b)).1) b.just b.fin).1;have h2:=(je_ (ch_ (ck_ s (dQ_ s.nodes b (bA_ b)).1) b.just b.fin) b.pul.j b.pul.f).1;have h3:(ck_ s (dQ_ s.nodes b (bA_ b)).1).orph.length=s.orph.length:=rfl;split<;>omega
theorem pN_{p:ah_×List Rt}(h0:0≤by_ p.1):(waitR p).1.orph.length+1≤p.1.orph.length:=by
 have h1:=no_ p.1;have h2:=Ak_ p.1.orph (i:=(by_ p.1).toNat) (by omega);have h3:=zp_ (withO p.1 (takeO p.1.orph (by_ p.1).toNat)) (bF_ p.1.orph (by_ p.1).toNat);have h4:(withO p.1 (takeO p.1.orph (by_ p.1).toNat)).orph.length=(takeO p.1.orph (by_ p.1).toNat).length:=rfl;unfold waitR;split
 ·show (gq_ _ _).orph.length+1≤_;omega
 ·show (takeO p.1.orph (by_ p.1).toNat).length+1≤_;omega
theorem Fl_:∀ (f g:Nat) (p:ah_×List Rt),p.1.orph.length<f→p.1.orph.length<g→waitG f p=waitG g p
 |0,_,_,h,_=>by omega
 |_,0,_,_,h=>by omega
 | f + 1, g + 1, p, h1, h2 => by
   unfold waitG;split
   ·rfl
   ·rename_i hw;have:=pN_ (p:=p) (by omega);exact Fl_ f g (waitR p) (by omega) (by omega)
theorem Hw_{p:ah_×List Rt}(h0:0≤by_ p.1):waitG (p.1.orph.length+1) p=waitG ((waitR p).1.orph.length+1) (waitR p):=by
 have h1:=pN_ h0;conv=>lhs;unfold waitG
 rw[if_neg (by omega)];exact Fl_ _ _ _ (by omega) (by omega)
theorem Dc_(s:ah_)(b:Blk)(h:StR s):ar_ Tryz.prog 84 [.agg (ak_ { s.a with orph:=.hs 238 0 0 s.orph.length }),.agg (ap_ b)] [.vec 238 (rows ap_ s.orph)] (.int .i64 (bC_ s b)) [.vec 238 (rows ap_ s.orph)]:=by
 refine ar_.lend rfl ?_;have ht:List.take s.orph.length (rows ap_ s.orph)=rows ap_ s.orph:=List.take_of_length_le (by simp);(try simp only[go_sem,ht,List.length_cons,List.length_nil,List.range_succ,List.range_zero])
 exact sw_ s b h
theorem CE_(s:ah_)(h:StR s):ar_ Tryz.prog 86 [.agg (ak_ { s.a with orph:=.hs 238 0 0 s.orph.length })] [.vec 238 (rows ap_ s.orph)] (.int .i64 (by_ s)) [.vec 238 (rows ap_ s.orph)]:=by
 refine ar_.lend rfl ?_;have ht:List.take s.orph.length (rows ap_ s.orph)=rows ap_ s.orph:=List.take_of_length_le (by simp);(try simp only[go_sem,ht,List.length_cons,List.length_nil,List.range_succ,List.range_zero])
 exact ip_ s h
theorem Gi_(s:ah_)(b:Blk)(h:StR s)(h1:StR (ck_ s (dQ_ s.nodes b (bA_ b)).1)):ar_ Tryz.prog 85 [.agg (ak_ { s.a with orph:=.hs 238 0 0 s.orph.length }),.agg (ap_ b)] [.vec 238 (rows ap_ s.orph)] (.agg (ak_ (gq_ s b).a)) [.gone]:=by
 have ht:List.take s.orph.length (rows ap_ s.orph)=rows ap_ s.orph:=List.take_of_length_le (by simp)
 have:=ar_.give (σ:=[.vec 238 (rows ap_ s.orph)]) (args:=[.agg (ak_ { s.a with orph:=.hs 238 0 0 s.orph.length }),.agg (ap_ b)]) (r:=_) (by
  (try simp only[go_sem,ht,List.length_cons,List.length_nil,List.range_succ,List.range_zero])
  exact zq_ s b h h1)
 exact this
def Nl_(b:Blk)(p:ah_×List Rt)(o:Bool):St:=if o then [.var (ak_ p.1.a),.var (ap_ b),.var (ak_ eW_),.vec 32 (rows rtc p.2)]else [.var (ak_ p.1.a),.var (ap_ b),.var (ak_ eW_)]
def Nm_(p:ah_×List Rt)(o:Bool):AV:=if o then .hs 32 3 0 p.2.length else .sl 32 true (rows rtc p.2)
theorem Or_(S:ah_)(m:Nat)(hS:aK_ S m)(b:Blk)(hbu:hF_ m b)(hlo:S.orph.length≤3)(R:ah_×List Rt)(hR0:R=waitG (S.orph.length+1) (S,[b.root])):
 Tri Tryz.prog 108 0 (ba_.tl 7) (PQ [.cell 4 true 150,.tmp 5,.tmp 6] (.tup [.agg (ak_ R.1.a),.sl 32 false (rows rtc R.2),.int .i64 0])) ⟨12,[.dead,.dead,.ptr 0 0,.ptr 1 0,.ptr 2 0,.dead,.dead,.dead,.dead,.dead,.dead,.dead],[]⟩ [.var (ak_ S.a),.var (ap_ b),.var (ak_ eW_)]:=by
 unfold ba_;refine bd ?_;simp only[ad_.tl];have c0:=ip_ S hS.r;try refine aa_ ?_
 refine So_ c0 ?_
 refine an_ (fun x:(ah_×List Rt)×Bool=>[(9,Nm_ x.1 x.2),(10,.int .i64 (by_ x.1.1)),(11,.dead)]) (fun x=>Nl_ b x.1 x.2) (fun x=>x.1.1.orph.length)
  (fun x=>aK_ x.1.1 m∧R=waitG (x.1.1.orph.length+1) x.1∧x.1.2.length+x.1.1.orph.length≤10) ((S,[b.root]),false) ⟨hS,hR0,by simp only[List.length_cons,List.length_nil];omega⟩ ?_ ?_
 ·show GC _ _ _ ⟨_,hK_ [(9,.sl 32 true [rtc b.root]),(10,.int .i64 (by_ S)),(11,.dead)] _,[]⟩ [.var (ak_ S.a),.var (ap_ b),.var (ak_ eW_)]
  exact SN_ [] [0,1,2]
 clear hR0 c0;rintro⟨⟨S1,L⟩,o⟩ ⟨hi,hR,hl⟩;dsimp only at hi hR hl ⊢;have hwb:=no_ S1;by_cases hw:by_ S1<0
 ·have hR':R=(S1,L):=by rw[hR];unfold waitG;rw[if_pos hw]
  subst hR';clear hR;generalize by_ S1=W at *;have e1:decide (W ≥ 0)=false:=decide_eq_false (by omega);have e2:decide (0≤W)=false:=decide_eq_false (by omega);have ht:List.take L.length (rows rtc L)=rows rtc L:=List.take_of_length_le (by simp);cases o with
  | true =>
    show Tri _ _ _ _ _ ⟨_,hK_ [(9,.hs 32 3 0 L.length),(10,_),(11,.dead)] _,[]⟩ [.var (ak_ S1.a),.var (ap_ b),.var (ak_ eW_),.vec 32 (rows rtc L)]
    (try simp only[cl_,bZ_,List.set_cons_zero,List.set_cons_succ])
    repeat(first|refine aa_ ?_|simp only[go_sem,e1,e2])
    refine Rh_ ?_
    refine⟨_,(by first|rfl|exact evd),.inl ?_⟩;(try simp only[go_sem,Nat.reduceAdd,Nat.reduceSub,Nat.reduceMul,Nat.reduceLT,Nat.reduceLeDiff,Nat.reduceEqDiff,reduceIte,Int.reduceToNat,Int.reduceLT,Int.reduceLE,Int.reduceEq,Int.reduceNeg,reduceCtorEq,Int.reduceBEq,Int.reduceBNe,ht])
    all_goals rfl
  | false =>
    show Tri _ _ _ _ _ ⟨_,hK_ [(9,.sl 32 true (rows rtc L)),(10,_),(11,.dead)] _,[]⟩ [.var (ak_ S1.a),.var (ap_ b),.var (ak_ eW_)]
    (try simp only[cl_,bZ_,List.set_cons_zero,List.set_cons_succ])
    repeat(first|refine aa_ ?_|simp only[go_sem,e1,e2])
    refine Rh_ ?_
    refine⟨_,(by first|rfl|exact evd),.inr ⟨.tup [.agg (ak_ S1.a),.sl 32 true (rows rtc L),.int .i64 0],?_,⟨S1.pul,fK_ L,trivial,trivial⟩,Wk.tup ⟨Wk.refl _,Wk.open_ _ _ _,Wk.refl _,trivial⟩⟩⟩;(try simp only[go_sem,Nat.reduceAdd,Nat.reduceSub,Nat.reduceMul,Nat.reduceLT,Nat.reduceLeDiff,Nat.reduceEqDiff,reduceIte,Int.reduceToNat,Int.reduceLT,Int.reduceLE,Int.reduceEq,Int.reduceNeg,reduceCtorEq,Int.reduceBEq,Int.reduceBNe])
    all_goals rfl
 ·have hst:=Hw_ (p:=(S1,L)) (show 0≤by_ S1 by omega)
  dsimp only at hst;rw[hst]at hR;clear hst;have hro:=pN_ (p:=(S1,L)) (by show 0≤by_ S1;omega);have hI:aK_ (waitR (S1,L)).1 m:=aK_.waitR hi (by show 0≤by_ S1;omega);have hwr:waitR (S1,L)=if bC_ (withO S1 (takeO S1.orph (by_ S1).toNat)) (bF_ S1.orph (by_ S1).toNat)=0 then (gq_ (withO S1 (takeO S1.orph (by_ S1).toNat)) (bF_ S1.orph (by_ S1).toNat),L++[(bF_ S1.orph (by_ S1).toNat).root])else (withO S1 (takeO S1.orph (by_ S1).toNat),L):=rfl
  obtain⟨u,hu⟩:=Int.eq_ofNat_of_zero_le (show 0≤by_ S1 by omega);rw[hu]at hwr hwb ⊢;rw[Int.toNat_natCast]at hwr;have hul:u<S1.orph.length:=by omega
  have h2:=hi.takeO u;have hbo:=hi.uo _ (bH_ cF_ hul);have hgd:(rows ap_ S1.orph).getD u []=ap_ (bF_ S1.orph u):=aA_ (f:=ap_) cF_ hul;change hF_ m (bF_ S1.orph u)at hbo
  generalize bF_ S1.orph u=ob at *;have e2:decide (0≤(u:Int))=true:=decide_eq_true (by omega);have hw1:IntKind.i64.wrap ((u:Int)+1)=((u+1:Nat):Int):=aC_ (by omega) (by omega);have ht1:List.take u (rows ap_ S1.orph)=rows ap_ (S1.orph.take u):=ky_ _ _ _;have ht2:List.drop (u+1) (rows ap_ S1.orph)=rows ap_ (S1.orph.drop (u+1)):=nC_ _ _ _;have ht3:rows ap_ (S1.orph.take u)++rows ap_ (S1.orph.drop (u+1))=rows ap_ (takeO S1.orph u):=wj_ _ _ _;have ht4:(S1.orph.take u).length+(S1.orph.drop (u+1)).length=(takeO S1.orph u).length:=by unfold takeO;rw[List.length_append]
  have ht5:List.take (S1.orph.length-(u+1)) (rows ap_ (S1.orph.drop (u+1)))=rows ap_ (S1.orph.drop (u+1)):=List.take_of_length_le (by simp);have hlo:(takeO S1.orph u).length≤3:=h2.oo;have hoo:=hi.oo;have c1:=Dc_ (withO S1 (takeO S1.orph u)) ob h2.r;have c2:=fun hc=>Gi_ (withO S1 (takeO S1.orph u)) ob h2.r (h2.insN hc hbo).r
  have c3:=CE_ (withO S1 (takeO S1.orph u)) h2.r;unfold withO at c1 c2 c3;dsimp only at c1 c2 c3;have ht6:List.take (takeO S1.orph u).length (rows ap_ (takeO S1.orph u))=rows ap_ (takeO S1.orph u):=List.take_of_length_le (by simp);have hsn:rows rtc L++[rtc ob.root]=rows rtc (L++[ob.root]):=bB_ rtc L ob.root;have hT0:takeO S1.orph u=takeO S1.orph u:=rfl;cases o with
  | true =>
    show Tri _ _ _ _ _ ⟨_,hK_ [(9,.hs 32 3 0 L.length),(10,_),(11,.dead)] _,[]⟩ [.var (ak_ S1.a),.var (ap_ b),.var (ak_ eW_),.vec 32 (rows rtc L)]
    (try simp only[cl_,bZ_,List.set_cons_zero,List.set_cons_succ])
    repeat(first|refine aa_ ?_|simp only[go_sem,e2])
    refine ac_ ?_;repeat(first|refine aa_ ?_|simp only[go_sem,hgd,hw1,ht1,ht2,ht3,ht4,ht5])
    refine cj_ [6] (c1) evd (br_.mk' (by simp) evd) ?_;refine evg ?_;try refine aa_ ?_
    by_cases hc:bC_ (withO S1 (takeO S1.orph u)) ob=0
    ·have e3:(bC_ (withO S1 (takeO S1.orph u)) ob==0)=true:=by simp[hc]
     rw[if_pos hc]at hwr;rw[hwr]at hR hro hI;dsimp only at hR hro hI;have c4:=c2 hc;have c5:=ip_ _ hI.r;unfold withO at e3;change ar_ _ _ _ _ (.agg (ak_ (gq_ (withO S1 (takeO S1.orph u)) ob).a)) _ at c4
     generalize gq_ (withO S1 (takeO S1.orph u)) ob=S3 at *;repeat(first|refine aa_ ?_|simp only[go_sem,e3])
     refine Ri_ ?_
     refine cj_ [6] (c4) evd (br_.mk' (by simp) evd) ?_;refine evg ?_;repeat(first|refine aa_ ?_|simp only[go_sem,hsn])
     refine So_ c5 ?_
     refine⟨((S3,L++[ob.root]),true),⟨hI,hR,by simp only[List.length_append,List.length_cons,List.length_nil];omega⟩,by dsimp only;omega,?_⟩;(try simp only[Nm_,Nl_,if_true,if_false,Bool.false_eq_true,withO])
     exact SN_ [] [0,1,2,7]
    ·have e3:(bC_ (withO S1 (takeO S1.orph u)) ob==0)=false:=by simp[hc]
     rw[if_neg hc]at hwr;rw[hwr]at hR hro hI;dsimp only at hR hro hI;unfold withO at e3;repeat(first|refine aa_ ?_|simp only[go_sem,e3])
     refine Rh_ ?_
     refine cj_ [6] (c3) evd (br_.mk' (by simp) evd) ?_;refine evg ?_;try refine aa_ ?_
     refine⟨((withO S1 (takeO S1.orph u),L),true),⟨hI,hR,by dsimp only;omega⟩,by dsimp only;omega,?_⟩;(try simp only[Nm_,Nl_,if_true,if_false,Bool.false_eq_true,withO])
     refine GC.mk' [6] [0,1,2,3] (by simp) rfl (by simp) (by simp) (by(try simp only[go_sem,Nat.reduceAdd,Nat.reduceSub,Nat.reduceMul,Nat.reduceLT,Nat.reduceLeDiff,Nat.reduceEqDiff,reduceIte,Int.reduceToNat,Int.reduceLT,Int.reduceLE,Int.reduceEq,Int.reduceNeg,reduceCtorEq,Int.reduceBEq,Int.reduceBNe,ht6]);all_goals first|rfl|exact⟨rfl,rfl⟩) (by(try simp only[go_sem,Nat.reduceAdd,Nat.reduceSub,Nat.reduceMul,Nat.reduceLT,Nat.reduceLeDiff,Nat.reduceEqDiff,reduceIte,Int.reduceToNat,Int.reduceLT,Int.reduceLE,Int.reduceEq,Int.reduceNeg,reduceCtorEq,Int.reduceBEq,Int.reduceBNe,ht6]);all_goals rfl)
  | false =>
    show Tri _ _ _ _ _ ⟨_,hK_ [(9,.sl 32 true (rows rtc L)),(10,_),(11,.dead)] _,[]⟩ [.var (ak_ S1.a),.var (ap_ b),.var (ak_ eW_)]
    (try simp only[cl_,bZ_,List.set_cons_zero,List.set_cons_succ])
    repeat(first|refine aa_ ?_|simp only[go_sem,e2])
    refine ac_ ?_;repeat(first|refine aa_ ?_|simp only[go_sem,hgd,hw1,ht1,ht2,ht3,ht4,ht5])
    refine cj_ [5] (c1) evd (br_.mk' (by simp) evd) ?_;refine evg ?_;try refine aa_ ?_
    by_cases hc:bC_ (withO S1 (takeO S1.orph u)) ob=0
    ·have e3:(bC_ (withO S1 (takeO S1.orph u)) ob==0)=true:=by simp[hc]
     rw[if_pos hc]at hwr;rw[hwr]at hR hro hI;dsimp only at hR hro hI;have c4:=c2 hc;have c5:=ip_ _ hI.r;unfold withO at e3;change ar_ _ _ _ _ (.agg (ak_ (gq_ (withO S1 (takeO S1.orph u)) ob).a)) _ at c4
     generalize gq_ (withO S1 (takeO S1.orph u)) ob=S3 at *;repeat(first|refine aa_ ?_|simp only[go_sem,e3])
     refine Ri_ ?_
     refine cj_ [5] (c4) evd (br_.mk' (by simp) evd) ?_;refine evg ?_;repeat(first|refine aa_ ?_|simp only[go_sem,hsn])
     refine So_ c5 ?_
     refine⟨((S3,L++[ob.root]),true),⟨hI,hR,by simp only[List.length_append,List.length_cons,List.length_nil];omega⟩,by dsimp only;omega,?_⟩;(try simp only[Nm_,Nl_,if_true,if_false,Bool.false_eq_true,withO])
     exact SN_ [] [0,1,2,6]
    ·have e3:(bC_ (withO S1 (takeO S1.orph u)) ob==0)=false:=by simp[hc]
     rw[if_neg hc]at hwr;rw[hwr]at hR hro hI;dsimp only at hR hro hI;unfold withO at e3;repeat(first|refine aa_ ?_|simp only[go_sem,e3])
     refine Rh_ ?_
     refine cj_ [5] (c3) evd (br_.mk' (by simp) evd) ?_;refine evg ?_;try refine aa_ ?_
     refine⟨((withO S1 (takeO S1.orph u),L),false),⟨hI,hR,by dsimp only;omega⟩,by dsimp only;omega,?_⟩;(try simp only[Nm_,Nl_,if_true,if_false,Bool.false_eq_true,withO])
     refine GC.mk' [5] [0,1,2] (by simp) rfl (by simp) (by simp) (by(try simp only[go_sem,Nat.reduceAdd,Nat.reduceSub,Nat.reduceMul,Nat.reduceLT,Nat.reduceLeDiff,Nat.reduceEqDiff,reduceIte,Int.reduceToNat,Int.reduceLT,Int.reduceLE,Int.reduceEq,Int.reduceNeg,reduceCtorEq,Int.reduceBEq,Int.reduceBNe,ht6]);all_goals first|rfl|exact⟨rfl,rfl⟩) (by(try simp only[go_sem,Nat.reduceAdd,Nat.reduceSub,Nat.reduceMul,Nat.reduceLT,Nat.reduceLeDiff,Nat.reduceEqDiff,reduceIte,Int.reduceToNat,Int.reduceLT,Int.reduceLE,Int.reduceEq,Int.reduceNeg,reduceCtorEq,Int.reduceBEq,Int.reduceBNe,ht6]);all_goals rfl)
theorem Id_{fr:Fr}{σ:St}{rs:List eu_}{l:List AV}{n:Int}(hl:cq_ fr σ rs=some l)(hv:fz σ (List.range σ.length) (eH_ l)=.tup [.agg (ak_ eW_),.sl 0 true [],.int .i64 n]):PQ rs (.tup [.agg (ak_ fV_.a),.sl 32 false (rows rtc []),.int .i64 n]) .ret fr σ:=
 ⟨l,hl,.inr ⟨_,hv,(by simp[PuL,Pu,dH_,eW_,ak_,cR_,gZ_,cw_,gT_,dK_,nK_,bn_,cp0]),Wk.tup ⟨CH_,Wk.empty _ _ _,Wk.refl _,trivial⟩⟩⟩
theorem Fy_(s:ah_)(m:Nat)(h:aK_ s m)(b:Blk)(hb:hF_ m b):PC Tryz.prog 21 [.agg (ak_ s.a),.agg (ap_ b)] (.tup [.agg (ak_ (co_ s b).1.a),.sl 32 false (rows rtc (co_ s b).2.1),.int .i64 (co_ s b).2.2]):=by
 have tl:=Or_;refine PC.fact 12 xy_ (by simp) puA ⟨(co_ s b).1.pul,fK_ _,trivial,trivial⟩ ?_;have hc:ba_=.seq ba_.hd (.seq (ba_.tl 1).hd (.seq (ba_.tl 2).hd (.seq (ba_.tl 3).hd (.seq (ba_.tl 4).hd (.seq (ba_.tl 5).hd (.seq (ba_.tl 6).hd (ba_.tl 7))))))):=rfl;rw[hc];clear hc;generalize ba_.tl 7=cT at *;unfold ba_;refine bd ?_;simp only[ad_.tl,ad_.hd];have c1:=sw_ s b h.r;have hoo:=h.oo;unfold co_;by_cases q1:bC_ s b=10
 ·rw[if_pos q1]
  rw[q1]at c1;have hlo:=h.cfg.lo;by_cases q2:s.cfg.lim.orph≤s.orph.length
  ·have e1:decide ((s.orph.length:Int) ≥ s.cfg.lim.orph)=true:=decide_eq_true q2;have e2:decide (s.cfg.lim.orph≤(s.orph.length:Int))=true:=decide_eq_true q2;rw[if_pos q2];try refine aa_ ?_
   refine So_ c1 ?_
   refine ac_ ?_;repeat(first|refine aa_ ?_|simp only[go_sem,e1,e2])
   refine Ri_ ?_
   exact Id_ (by first|rfl|exact evd) (by first|rfl|exact evd)
  ·have e1:decide ((s.orph.length:Int) ≥ s.cfg.lim.orph)=false:=decide_eq_false q2;have e2:decide (s.cfg.lim.orph≤(s.orph.length:Int))=false:=decide_eq_false q2;have hsn:rows ap_ s.orph++[ap_ (noT b)]=rows ap_ (s.orph++[noT b]):=bB_ ap_ s.orph (noT b);have ht:∀l:List Blk,List.take l.length (rows ap_ l)=rows ap_ l:=fun l=>List.take_of_length_le (by simp)
   have ht2:List.take (s.orph.length+1) (rows ap_ (s.orph++[noT b]))=rows ap_ (s.orph++[noT b]):=List.take_of_length_le (by simp);have hno:ap_ { pul:=b.pul,slot:=b.slot,root:=b.root,parent:=b.parent,payload:=b.payload,diff:=b.diff,pdiff:=b.pdiff,just:=b.just,fin:=b.fin,timely:=false }=ap_ (noT b):=rfl;rw[if_neg q2];try refine aa_ ?_
   refine So_ c1 ?_
   refine ac_ ?_;repeat(first|refine aa_ ?_|simp only[go_sem,e1,e2])
   refine ab_ ?_;repeat(first|refine aa_ ?_|simp only[go_sem,hno,hsn,ht])
   refine⟨_,(by first|rfl|exact evd),.inr ⟨.tup [.agg (ak_ (withO s (s.orph++[noT b])).a),.sl 0 true [],.int .i64 0],?_,⟨(withO s (s.orph++[noT b])).pul,trivial,trivial,trivial⟩,Wk.tup ⟨Wk.refl _,Wk.empty _ _ _,Wk.refl _,trivial⟩⟩⟩;(try simp only[go_sem,Nat.reduceAdd,Nat.reduceSub,Nat.reduceMul,Nat.reduceLT,Nat.reduceLeDiff,Nat.reduceEqDiff,reduceIte,Int.reduceToNat,Int.reduceLT,Int.reduceLE,Int.reduceEq,Int.reduceNeg,reduceCtorEq,Int.reduceBEq,Int.reduceBNe,ht2])
   all_goals rfl
 rw[if_neg q1];have n1:(bC_ s b==10)=false:=by simp[q1]
 by_cases q2:bC_ s b=0
 case neg=>
  rw[if_pos q2];have e1:(bC_ s b != 0)=true:=by simp[q2]
  generalize bC_ s b=E at *;try refine aa_ ?_
  refine aj_ c1 ?_;repeat(first|refine aa_ ?_|simp only[go_sem,n1])
  refine ab_ ?_;repeat(first|refine aa_ ?_|simp only[go_sem,e1])
  refine Ri_ ?_
  exact Id_ (by first|rfl|exact evd) (by first|rfl|exact evd)
 rw[if_neg (by simp[q2])];have hI:=h.insN q2 hb;have hins:=h.ins q2 hb;have c2:=zq_ s b h.r hI.r;have hor:=zp_ s b;rw[q2]at c1;clear n1 q1 q2 hI;have hBI:blockI s b=if b.timely=true∧b.slot=s.now∧s.boost=rt0 then withB (gq_ s b) b.root else gq_ s b:=rfl
 obtain⟨B,hB,hBI2⟩:∃B:Bool,(B=true↔(b.timely=true∧b.slot=s.now∧s.boost=rt0))∧blockI s b=if B=true then withB (gq_ s b) b.root else gq_ s b:=by
  by_cases q:b.timely=true∧b.slot=s.now∧s.boost=rt0
  ·exact⟨true,by simp[q],by rw[hBI,if_pos q,if_pos rfl]⟩
  ·exact⟨false,by simp[q],by rw[hBI,if_neg q,if_neg (by simp)]⟩
 rw[hBI2];clear hBI hBI2;generalize gq_ s b=S at *
 have key:∀ (ts:List (Nat×AV)),Tri Tryz.prog 108 0 (.seq ((ba_.tl 5).hd) (.seq (ba_.tl 6).hd cT)) (PQ [.cell 4 true 150,.tmp 5,.tmp 6] (.tup [.agg (ak_ (waitG ((if B=true then withB S b.root else S).orph.length+1) ((if B=true then withB S b.root else S),[b.root])).1.a),.sl 32 false (rows rtc (waitG ((if B=true then withB S b.root else S).orph.length+1) ((if B=true then withB S b.root else S),[b.root])).2),.int .i64 0]))
  ⟨12,[.agg (ak_ s.a),.agg (ap_ b),.ptr 0 0,.ptr 1 0,.ptr 2 0,.sl 0 true [],.int .i64 0,.int .i64 0,.bool B,.dead,.dead,.dead],ts⟩ [.var (ak_ s.a),.var (ap_ b),.var (ak_ eW_)]:=by
  intro ts;unfold ba_;refine bd ?_;simp only[ad_.tl,ad_.hd];try refine aa_ ?_
  refine So_ c2 ?_
  cases B with
  | true =>
    have t2:=tl (withB S b.root) m (hins.withB _) b hb (by show S.orph.length≤3;omega) _ rfl;refine Ri_ ?_
    (try simp only[if_true])
    refine bE_ ?_ t2;unfold withB;exact SN_ [] [0,1,2]
  | false =>
    have t2:=tl S m hins b hb (by omega) _ rfl;refine Rh_ ?_
    (try simp only[Bool.false_eq_true,if_false])
    refine bE_ ?_ t2;exact SN_ [] [0,1,2]
 unfold ba_ at key;dsimp only[nfO,Int.reduceOfNat,Int.reduceNegSucc,wA,wB,wC,wD,wE,wF,wG,wH,wI,wJ,wK,wL,wM,wN,wO,wP,wQ,wR,wS,wT,wU,wV,wW,wX,wY,wZ,om,oo,on,omg,og,ong,ci,cu,cb,cf,fA,lA,lF,bI,bC,sO,eX,lN,iX,kA,kB,kC,sR,cN]at key;simp only[ad_.tl,ad_.hd]at key;clear tl c2 hins hor;try refine aa_ ?_
 refine So_ c1 ?_
 refine Rh_ ?_
 refine ab_ ?_;refine mN_ ?_;refine fw_ ?_;cases h1:b.timely with
 | false =>
   obtain rfl:B=false:=by rw[←Bool.not_eq_true,hB,h1];simp
   repeat(first|refine mN_ ?_|simp only[go_sem,h1])
   exact key _
 | true =>
   by_cases h2:b.slot=s.now
   ·have e2:(b.slot==s.now)=true:=by simp[h2]
    by_cases h3:s.boost=rt0
    ·have e3:decide (s.boost=rt0)=true:=decide_eq_true h3;obtain rfl:B=true:=hB.2 ⟨h1,h2,h3⟩;repeat(first|refine mN_ ?_|simp only[go_sem,h1,e2,e3])
     exact key _
    ·have e3:decide (s.boost=rt0)=false:=decide_eq_false h3;obtain rfl:B=false:=by rw[←Bool.not_eq_true,hB];exact fun h=>h3 h.2.2
     repeat(first|refine mN_ ?_|simp only[go_sem,h1,e2,e3])
     exact key _
   ·have e2:(b.slot==s.now)=false:=by simp[h2]
    obtain rfl:B=false:=by rw[←Bool.not_eq_true,hB];exact fun h=>h2 h.2.1
    repeat(first|refine mN_ ?_|simp only[go_sem,h1,e2])
    exact key _
theorem CZ_{s:ah_}{a:aD_}(h:(cm_ s a).2=0):∀j∈a.vals,0≤j∧j<s.cfg.bals.length:=fun j hjm=>by
 have hv:cd_ a.vals s.cfg.bals.length=0:=by
  unfold cm_ at h;split at h
  ·rename_i h1;exact absurd h h1
  ·rename_i h1;simpa using h1
 obtain⟨u,hm,rfl⟩:=List.getElem_of_mem hjm;have:=(gw_ hv).2 u hm;rw[List.getD_eq_getElem?_getD,List.getElem?_eq_getElem hm,Option.getD_some]at this;omega
theorem LL_(s:ah_)(m:Nat)(h:aK_ s m)(a:aD_)(ha:a.vals.length≤1000000):PC Tryz.prog 33 [.agg (ak_ s.a),.agg (bl_ a.a)] (.tup [.agg (ak_ (kH_ s a).1.a),.int .i64 (kH_ s a).2]):=by
 refine PC.fact 9 uW_ (by simp) puA puA ?_;unfold mi_;refine bd ?_;have c1:=sv_ s a h.r ha;have c2:=fun(hz:(cm_ s a).2=0)=>CY_ s a h.r ha (fun j hj=>by have:=CZ_ hz j hj;have:=h.ll;omega)
 have haa:=h.aa;unfold kH_;generalize hC:cm_ s a=C at *;obtain⟨C1,C2⟩:=C;dsimp only at c1 c2 ⊢;by_cases q1:C2=0
 case neg=>
  have e1:(C2 != 0)=true:=by simp[q1]
  rw[if_pos q1];try refine aa_ ?_
  refine aj_ c1 ?_;repeat(first|refine aa_ ?_|simp only[go_sem,e1])
  refine Ri_ ?_
  exact jR_ (by first|rfl|exact evd) (by first|rfl|exact evd)
 subst q1;rw[if_neg (by simp)];cases C1 with
 | false =>
   have c3:=c2 rfl;try refine aa_ ?_
   refine So_ c1 ?_
   refine Rh_ ?_
   refine Ri_ ?_
   refine So_ c3 ?_
   (try simp only[if_true])
   exact ae_
 | true =>
   rw[if_neg (by simp)];by_cases q2:s.cfg.lim.early≤s.early.length
   ·have e2:decide (s.cfg.lim.early≤(s.early.length:Int))=true:=decide_eq_true q2;have e3:decide ((s.early.length:Int) ≥ s.cfg.lim.early)=true:=decide_eq_true q2;rw[if_pos q2];try refine aa_ ?_
    refine So_ c1 ?_
    refine Rh_ ?_
    refine ab_ ?_;repeat(first|refine aa_ ?_|simp only[go_sem,e2,e3])
    refine Ri_ ?_
    exact jR_ (by first|rfl|exact evd) (by first|rfl|exact evd)
   ·have e2:decide (s.cfg.lim.early≤(s.early.length:Int))=false:=decide_eq_false q2;have e3:decide ((s.early.length:Int) ≥ s.cfg.lim.early)=false:=decide_eq_false q2;have hsn:rows aD_.c s.early++[bl_ a.a]=rows aD_.c (s.early++[a]):=bB_ aD_.c s.early a;have ht:List.take (s.early.length+1) (rows aD_.c (s.early++[a]))=rows aD_.c (s.early++[a]):=List.take_of_length_le (by simp);have ht2:List.take s.early.length (rows aD_.c s.early)=rows aD_.c s.early:=List.take_of_length_le (by simp);have ht3:List.take a.vals.length (aq_ .i64 a.vals)=aq_ .i64 a.vals:=List.take_of_length_le (by simp);rw[if_neg q2];try refine aa_ ?_
    refine So_ c1 ?_
    refine Rh_ ?_
    refine ab_ ?_;repeat(first|refine aa_ ?_|simp only[go_sem,e2,e3])
    refine ab_ ?_;refine mN_ ?_;refine fw_ ?_;repeat(first|refine mN_ ?_|simp only[go_sem,ht2])
    refine bE_ (fr2:=⟨9,[.dead,.dead,.ptr 0 0,.ptr 1 0,.ptr 2 0,.int .i64 0,.dead,.dead,.dead],[]⟩) (σ2:=[.var (ak_ s.a),.var (bl_ a.a),.var (ak_ eW_)]) (GC.mk' [3] [0,1,2] (by simp) rfl (by simp) (by simp) (by(try simp only[go_sem,Nat.reduceAdd,Nat.reduceSub,Nat.reduceMul,Nat.reduceLT,Nat.reduceLeDiff,Nat.reduceEqDiff,reduceIte,Int.reduceToNat,Int.reduceLT,Int.reduceLE,Int.reduceEq,Int.reduceNeg,reduceCtorEq,Int.reduceBEq,Int.reduceBNe,ht3]);all_goals first|rfl|exact⟨rfl,rfl⟩) (by(try simp only[go_sem,Nat.reduceAdd,Nat.reduceSub,Nat.reduceMul,Nat.reduceLT,Nat.reduceLeDiff,Nat.reduceEqDiff,reduceIte,Int.reduceToNat,Int.reduceLT,Int.reduceLE,Int.reduceEq,Int.reduceNeg,reduceCtorEq,Int.reduceBEq,Int.reduceBNe,ht3]);all_goals rfl)) ?_;repeat(first|refine aa_ ?_|simp only[go_sem,hsn,ht2])
    refine⟨_,(by first|rfl|exact evd),.inl ?_⟩;(try simp only[go_sem,Nat.reduceAdd,Nat.reduceSub,Nat.reduceMul,Nat.reduceLT,Nat.reduceLeDiff,Nat.reduceEqDiff,reduceIte,Int.reduceToNat,Int.reduceLT,Int.reduceLE,Int.reduceEq,Int.reduceNeg,reduceCtorEq,Int.reduceBEq,Int.reduceBNe,ht])
    all_goals rfl
theorem Nj_(s:ah_)(m:Nat)(h:aK_ s m)(t:au_)(ht:t.bals.length≤1000000):PC Tryz.prog 36 [.agg (ak_ s.a),.agg (aY_ t.a)] (.tup [.agg (ak_ (ne_ s t).1.a),.int .i64 (ne_ s t).2]):=by
 refine PC.fact 9 rD_ (by simp) puA puA ?_;unfold kh_;refine bd ?_;have c0:=kB_ s;have c1:=nI_ t s.cfg.bals.length ht;have c2:=Eu_ s.tabs t s.cfg.bals.length s.cfg.lim.table h.r.bt ht;unfold ne_;generalize dJ_ t s.cfg.bals.length=V at *;generalize ep_ s.tabs t s.cfg.bals.length s.cfg.lim.table=T at *;obtain⟨T1,T2⟩:=T;dsimp only at c2 ⊢;by_cases q1:V=0
 case neg=>
  have e1:(V != 0)=true:=by simp[q1]
  rw[if_pos q1];try refine aa_ ?_
  refine ao_ (c0) ?_;try refine aa_ ?_
  refine ao_ (c1) ?_;repeat(first|refine aa_ ?_|simp only[go_sem,e1])
  refine Ri_ ?_
  exact jR_ (by first|rfl|exact evd) (by first|rfl|exact evd)
 subst q1;rw[if_neg (by simp)];by_cases q2:t.cp.ep<s.j.ep
 ·have e2:decide (t.cp.ep<s.j.ep)=true:=decide_eq_true q2;rw[if_pos q2];try refine aa_ ?_
  refine ao_ (c0) ?_;try refine aa_ ?_
  refine ao_ (c1) ?_;try refine aa_ ?_
  refine ab_ ?_;repeat(first|refine aa_ ?_|simp only[go_sem,e2])
  refine Ri_ ?_
  exact jR_ (by first|rfl|exact evd) (by first|rfl|exact evd)
 have e2:decide (t.cp.ep<s.j.ep)=false:=decide_eq_false q2;rw[if_neg q2];by_cases q3:T2=0
 case neg=>
  have e3:(T2 != 0)=true:=by simp[q3]
  rw[if_pos q3];try refine aa_ ?_
  refine ao_ (c0) ?_;try refine aa_ ?_
  refine ao_ (c1) ?_;try refine aa_ ?_
  refine ab_ ?_;repeat(first|refine aa_ ?_|simp only[go_sem,e2])
  refine Rh_ ?_
  refine ao_ (c0) ?_;try refine aa_ ?_
  refine ao_ (c2) ?_;repeat(first|refine aa_ ?_|simp only[go_sem,e3])
  refine Ri_ ?_
  exact jR_ (by first|rfl|exact evd) (by first|rfl|exact evd)
 subst q3;rw[if_neg (by simp)];try refine aa_ ?_
 refine ao_ (c0) ?_;try refine aa_ ?_
 refine ao_ (c1) ?_;try refine aa_ ?_
 refine ab_ ?_;repeat(first|refine aa_ ?_|simp only[go_sem,e2])
 refine Rh_ ?_
 refine ao_ (c0) ?_;try refine aa_ ?_
 refine ao_ (c2) ?_;try refine aa_ ?_
 refine Rh_ ?_
 exact ae_
theorem Hj_(s:ah_)(m:Nat)(h:aK_ s m)(x:dl_)(h1:x.fst.vals.length≤100)(h2:x.snd.vals.length≤100):PC Tryz.prog 34 [.agg (ak_ s.a),.agg (cy_ x.a)] (.tup [.agg (ak_ (eI_ s x).1.a),.int .i64 (eI_ s x).2]):=by
 refine PC.fact 9 xA_ (by simp) puA puA ?_;unfold ow_;refine bd ?_;have c0:=kB_ s;have c1:=EC_ x.a x.fst.vals x.snd.vals false false s.cfg.bals.length rfl rfl h1 h2;have c2:=wa_ x.a x.fst.vals x.snd.vals false false rfl rfl h1 h2;have hcl:(fp_ x.fst.vals x.snd.vals x.fst.vals.length).length≤x.fst.vals.length:=qr_ _ _ _;have hqq:=h.qq;have hii:=h.ii;have c3:=Es_ s.eqv (fp_ x.fst.vals x.snd.vals x.fst.vals.length) (by omega);unfold eI_;generalize evE x.a x.fst.vals x.snd.vals s.cfg.bals.length=V at *;generalize fp_ x.fst.vals x.snd.vals x.fst.vals.length=C at *;generalize tz_ s.eqv C=U at *;generalize IntKind.i64.wrap ((U.length:Int)-s.eqv.length)=N at *;by_cases q1:V=0
 case neg=>
  have e1:(V != 0)=true:=by simp[q1]
  rw[if_pos q1];try refine aa_ ?_
  refine ao_ (c0) ?_;try refine aa_ ?_
  refine ao_ (c1) ?_;repeat(first|refine aa_ ?_|simp only[go_sem,e1])
  refine Ri_ ?_
  exact jR_ (by first|rfl|exact evd) (by first|rfl|exact evd)
 subst q1;rw[if_neg (by simp)];by_cases q2:N=0
 ·have e2:(N==0)=true:=by simp[q2]
  rw[if_pos q2];try refine aa_ ?_
  refine ao_ (c0) ?_;try refine aa_ ?_
  refine ao_ (c1) ?_;try refine aa_ ?_
  refine Rh_ ?_
  refine ao_ (c2) ?_;try refine aa_ ?_
  refine ao_ (c3) ?_;repeat(first|refine aa_ ?_|simp only[go_sem,e2])
  refine Ri_ ?_
  exact jR_ (by first|rfl|exact evd) (by first|rfl|exact evd)
 ·have e2:(N==0)=false:=by simp[q2]
  rw[if_neg q2];try refine aa_ ?_
  refine ao_ (c0) ?_;try refine aa_ ?_
  refine ao_ (c1) ?_;try refine aa_ ?_
  refine Rh_ ?_
  refine ao_ (c2) ?_;try refine aa_ ?_
  refine ao_ (c3) ?_;repeat(first|refine aa_ ?_|simp only[go_sem,e2])
  refine Rh_ ?_
  exact ae_
end Go.Proofs.YtkgimpdgncakjaaGreat
